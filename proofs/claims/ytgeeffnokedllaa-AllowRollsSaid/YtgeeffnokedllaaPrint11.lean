-- written by this session's program wip/hybrid.py over the kit's printer, and by hand. Not trusted: Lean checks it.
import Derived.Test.YtgeeffnokedllaaPrint0
import Derived.Test.YtgeeffnokedllaaPrint1
import Derived.Test.YtgeeffnokedllaaPrint3
import Derived.Test.YtgeeffnokedllaaPrint5
import Derived.Test.YtgeeffnokedllaaPrint6
import Derived.Test.YtgeeffnokedllaaPrint9
namespace Go.Proofs.Ytgeeffnokedllaa.Print
open Go.RowKit Go.Proofs.YtgeeffnokedllaaW.PrintWords Go.Proofs.YtgeeffnokedllaaW.PrintLast Go.Proofs.YtgeeffnokedllaaW.PrintMore
attribute [local go_sem] max2_int min2_int max_two min_two max_three min_three max_four min_four   -- for this text's walks alone
set_option linter.unusedVariables false
set_option linter.unusedSimpArgs false

/-! ### lombardref16_Roll: function 12 -/
theorem may_c (a b : Int) (w : World) : Calls Try.prog 27 #[.int .i64 a, .int .i64 b] w fun e w' => e = .returned (.bool (decide (0 ≤ a) && decide (a ≤ b))) ∧ w = w' := by
  by_cases c1 : 0 ≤ a
  · have cb : decide (0 ≤ a) = true := decide_eq_true c1
    have hz : (decide (0 ≤ a) && decide (a ≤ b)) = decide (a ≤ b) := by rw [cb]; rfl
    rw [hz]
    clear hz c1
    go_enter Try.func27, Try.ntmps27
    go_wp2
    go_ret
    exact ⟨rfl, rfl⟩
  · have cb : decide (0 ≤ a) = false := decide_eq_false c1
    have hz : (decide (0 ≤ a) && decide (a ≤ b)) = false := by rw [cb]; rfl
    rw [hz]
    clear hz c1
    go_enter Try.func27, Try.ntmps27
    go_wp2
    go_ret
    exact ⟨rfl, rfl⟩
def mayB (a b : Int) : Bool := decide (0 ≤ a) && decide (a ≤ b)
theorem may_b (a b : Int) (w : World) : Calls Try.prog 27 #[.int .i64 a, .int .i64 b] w fun e w' => e = .returned (.bool (mayB a b)) ∧ w = w' := may_c a b w
theorem mayB_iff (a b : Int) : mayB a b = true ↔ 0 ≤ a ∧ a ≤ b := by unfold mayB; simp
theorem newrow2 (y : World) (Z cells : Array Value) (t : TypeId) : Below y.heap.size y ((y.alloc (.cells Z t)).setRow y.heap.size cells) ∧ ((y.alloc (.cells Z t)).setRow y.heap.size cells).heap[y.heap.size]? = some (.cells cells t (0, 0)) :=
  ⟨row_below (below_alloc (Below.refl _ _) _) (Nat.le_refl _) _, setRow_heap _ _ _ _ _ _ (blk_new y _)⟩
theorem all5' (a b c d e : Int) : (#[Value.int .i64 a, .int .i64 b, .int .i64 c, .int .i64 d, .int .i64 e] : Array Value).all (·.oneCell') = true := by kernel_rfl
def lombardref16_Roll.pre (l : List S40) (o st : Int) : Row6 := ⟨o, allow_Change.sums allow_Change.key21 allow_Change.amt21 (l.map cv) st, allow_Change.sums allow_Change.key23 allow_Change.amt23 (l.map cv) st, allow_Change.sums allow_Change.key24 allow_Change.amt24 (l.map cv) st, allow_Change.sums allow_Change.key25 allow_Change.amt25 (l.map cv) st, 0⟩
theorem lombardref16_Roll.pre_app (l : List S40) (x : S40) (o st : Int) {ia ua na wa : Int} (h : lombardref16_Roll.pre l o st = ⟨o, ia, ua, na, wa, 0⟩) : lombardref16_Roll.pre (l ++ [x]) o st = ⟨o, ia + (if st = x.f1 ∧ x.f0 ≠ x.f1 then x.f2 else 0), ua + (if st = x.f0 ∧ x.f0 ≠ x.f1 then x.f2 else 0), na + (if st = x.f1 then x.f3 - x.f2 + x.f4 else 0), wa + (if st = x.f1 then x.f4 else 0), 0⟩ := by
  unfold lombardref16_Roll.pre at h ⊢
  simp only [Row6.mk.injEq] at h
  obtain ⟨_, rfl, rfl, rfl, rfl, _⟩ := h
  rw [List.map_append]
  simp only [sums_app2, List.map_cons, List.map_nil, allow_Change.sums, allow_Change.key21, allow_Change.key23, allow_Change.key24, allow_Change.key25, allow_Change.amt21, allow_Change.amt23, allow_Change.amt24, allow_Change.amt25, allow_Change.moved, cv, Int.add_zero]
  congr 1
  · congr 1
    by_cases c1 : st = x.f1 <;> by_cases c2 : x.f0 = x.f1 <;> simp [c1, c2]
  · congr 1
    by_cases c1 : st = x.f0 <;> by_cases c2 : x.f0 = x.f1 <;> simp [c1, c2]
theorem sums_bd2 (key amt : S50 → Int) (lo hi : Int) (h0 : lo ≤ 0) (h1 : 0 ≤ hi) (l : List S50) (k : Int) (h : ∀ x ∈ l, lo ≤ amt x ∧ amt x ≤ hi) (n : Nat) (hn : l.length ≤ n) : lo * (n : Int) ≤ allow_Change.sums key amt l k ∧ allow_Change.sums key amt l k ≤ hi * (n : Int) := by
  induction l generalizing n with
  | nil =>
    simp only [allow_Change.sums]
    exact ⟨Int.mul_nonpos_of_nonpos_of_nonneg h0 (by omega), Int.mul_nonneg h1 (by omega)⟩
  | cons x t ih =>
    obtain ⟨n, rfl⟩ : ∃ m, n = m + 1 := ⟨n - 1, by simp at hn; omega⟩
    have a := h x List.mem_cons_self
    have b := ih (fun y hy => h y (List.mem_cons_of_mem _ hy)) n (by simp at hn; omega)
    simp only [allow_Change.sums]
    have e1 : lo * ((n + 1 : Nat) : Int) = lo * (n : Int) + lo := by rw [Int.natCast_add, Int.mul_add]; simp
    have e2 : hi * ((n + 1 : Nat) : Int) = hi * (n : Int) + hi := by rw [Int.natCast_add, Int.mul_add]; simp
    rw [e1, e2]
    split <;> omega
theorem lombardref16_Roll.pre_bd (l : List S40) (o st : Int) {ia ua na wa : Int} (e : lombardref16_Roll.pre l o st = ⟨o, ia, ua, na, wa, 0⟩) (h : ∀ x ∈ l, allow_Change.ok (cv x)) (hl : l.length ≤ 4096) :
    (0 ≤ ia ∧ ia ≤ 2305843009213693952) ∧ (0 ≤ ua ∧ ua ≤ 2305843009213693952) ∧ (-2305843009213693952 ≤ na ∧ na ≤ 4611686018427387904) ∧ (0 ≤ wa ∧ wa ≤ 2305843009213693952) := by
  have h' : ∀ y ∈ l.map cv, allow_Change.ok y := by
    intro y hy
    obtain ⟨x, hx, rfl⟩ := List.mem_map.1 hy
    exact h x hx
  unfold lombardref16_Roll.pre at e
  simp only [Row6.mk.injEq] at e
  obtain ⟨_, rfl, rfl, rfl, rfl, _⟩ := e
  have b1 := sums_bd2 allow_Change.key21 allow_Change.amt21 0 562949953421312 (by omega) (by omega) (l.map cv) st (fun x hx => by have := h' x hx; unfold allow_Change.ok at this; unfold allow_Change.amt21 allow_Change.moved; split <;> omega) 4096 (by simpa using hl)
  have b2 := sums_bd2 allow_Change.key23 allow_Change.amt23 0 562949953421312 (by omega) (by omega) (l.map cv) st (fun x hx => by have := h' x hx; unfold allow_Change.ok at this; unfold allow_Change.amt23 allow_Change.moved; split <;> omega) 4096 (by simpa using hl)
  have b3 := sums_bd2 allow_Change.key24 allow_Change.amt24 (-562949953421312) 1125899906842624 (by omega) (by omega) (l.map cv) st (fun x hx => by have := h' x hx; unfold allow_Change.ok at this; unfold allow_Change.amt24; omega) 4096 (by simpa using hl)
  have b4 := sums_bd2 allow_Change.key25 allow_Change.amt25 0 562949953421312 (by omega) (by omega) (l.map cv) st (fun x hx => by have := h' x hx; unfold allow_Change.ok at this; unfold allow_Change.amt25; omega) 4096 (by simpa using hl)
  omega
/-- What a row of good changes is. -/
theorem lombardref16_Roll.row_big (l : List S40) (o st : Int) {ia ua na wa : Int} (e : lombardref16_Roll.pre l o st = ⟨o, ia, ua, na, wa, 0⟩) (h : ∀ x ∈ l, allow_Change.ok (cv x)) (hl : l.length ≤ 4096) (ho : 0 ≤ o ∧ o ≤ 1152921504606846976) :
    allow_Roll.row (l.map cv) o st = ⟨o, ia, ua, na, wa, o + ia + na - ua - wa⟩ := by
  have b := lombardref16_Roll.pre_bd l o st e h hl
  unfold lombardref16_Roll.pre at e
  simp only [Row6.mk.injEq] at e
  obtain ⟨_, e1, e2, e3, e4, _⟩ := e
  unfold allow_Roll.row
  rw [e1, e2, e3, e4]
  have c : allow_Row_close.f o ia ua na wa 0 = some (o + ia + na - ua - wa, 0) := by
    unfold allow_Row_close.f
    rw [add_ok o ia (by omega)]
    simp only [Option.bind_some, if_true]
    rw [add_ok (o + ia) na (by omega)]
    simp only [Option.bind_some, if_true]
    rw [sub_ok (o + ia + na) ua (by omega)]
    simp only [Option.bind_some, if_true]
    rw [sub_ok (o + ia + na - ua) wa (by omega)]
    simp only [Option.bind_some, if_true]
  rw [c]
  rfl
theorem lombardref16_Roll.wayA {l : List S40} {x : S40} {o st ia ua na wa : Int} (h : lombardref16_Roll.pre l o st = ⟨o, ia, ua, na, wa, 0⟩) (e1 : x.f0 = x.f1) (e2 : x.f1 = st) : lombardref16_Roll.pre (l ++ [x]) o st = ⟨o, ia, ua, na + (x.f3 - x.f2 + x.f4), wa + x.f4, 0⟩ := by
  rw [lombardref16_Roll.pre_app l x o st h]; simp [e1, e2]
theorem lombardref16_Roll.wayB {l : List S40} {x : S40} {o st ia ua na wa : Int} (h : lombardref16_Roll.pre l o st = ⟨o, ia, ua, na, wa, 0⟩) (e2 : ¬ x.f1 = st) (e3 : x.f0 = x.f1 ∨ ¬ x.f0 = st) : lombardref16_Roll.pre (l ++ [x]) o st = ⟨o, ia, ua, na, wa, 0⟩ := by
  have e2' : ¬ st = x.f1 := fun z => e2 z.symm
  have e3' : ¬ (st = x.f0 ∧ ¬ x.f0 = x.f1) := fun z => by rcases e3 with e | e; exact z.2 e; exact e z.1.symm
  rw [lombardref16_Roll.pre_app l x o st h]; simp [e2', e3']
theorem lombardref16_Roll.wayC {l : List S40} {x : S40} {o st ia ua na wa : Int} (h : lombardref16_Roll.pre l o st = ⟨o, ia, ua, na, wa, 0⟩) (e1 : ¬ x.f0 = x.f1) (e3 : x.f0 = st) : lombardref16_Roll.pre (l ++ [x]) o st = ⟨o, ia, ua + x.f2, na, wa, 0⟩ := by
  have e2' : ¬ st = x.f1 := fun z => e1 (e3.trans z)
  rw [lombardref16_Roll.pre_app l x o st h]; simp [e2', e3]
theorem lombardref16_Roll.wayD {l : List S40} {x : S40} {o st ia ua na wa : Int} (h : lombardref16_Roll.pre l o st = ⟨o, ia, ua, na, wa, 0⟩) (e1 : ¬ x.f0 = x.f1) (e2 : x.f1 = st) : lombardref16_Roll.pre (l ++ [x]) o st = ⟨o, ia + x.f2, ua, na + (x.f3 - x.f2 + x.f4), wa + x.f4, 0⟩ := by
  have e3' : ¬ st = x.f0 := fun z => e1 (z.symm.trans e2.symm)
  have e1' : ¬ x.f0 = st := fun z => e1 (z.trans e2.symm)
  rw [lombardref16_Roll.pre_app l x o st h]; simp [e2, e1', e3']
theorem lombardref16_Roll.pre_some (l : List S40) (o st : Int) : ∃ ia ua na wa, lombardref16_Roll.pre l o st = ⟨o, ia, ua, na, wa, 0⟩ := ⟨_, _, _, _, rfl⟩
theorem lombardref16_Roll.ix0 (o0 o1 o2 : Int) (w : World) : (Instr.index 22 (.agg #[.int .i64 o0, .int .i64 o1, .int .i64 o2]) (.int .i64 0)).run Try.prog w = .ok (.int .i64 o0) w := by kernel_rfl
theorem lombardref16_Roll.ix1 (o0 o1 o2 : Int) (w : World) : (Instr.index 22 (.agg #[.int .i64 o0, .int .i64 o1, .int .i64 o2]) (.int .i64 1)).run Try.prog w = .ok (.int .i64 o1) w := by kernel_rfl
theorem lombardref16_Roll.ix2 (o0 o1 o2 : Int) (w : World) : (Instr.index 22 (.agg #[.int .i64 o0, .int .i64 o1, .int .i64 o2]) (.int .i64 2)).run Try.prog w = .ok (.int .i64 o2) w := by kernel_rfl
def lombardref16_Roll.P (w : World) (r : Row6 × Row6 × Row6 × Int) (e : Ending) (w' : World) : Prop := e = .returned (.tuple #[.agg (row18 r.1 r.2.1 r.2.2.1), .int .i64 r.2.2.2]) ∧ Below w.heap.size w w'
theorem lombardref16_Roll.start (w : World) (o0 o1 o2 : Int) : Below w.heap.size w ((w.alloc (.cells #[.int .i64 o0, .int .i64 o1, .int .i64 o2] 22)).alloc (.cells #[.int .i64 0, .int .i64 0, .int .i64 0, .int .i64 0, .int .i64 0, .int .i64 0, .int .i64 0, .int .i64 0, .int .i64 0, .int .i64 0, .int .i64 0, .int .i64 0, .int .i64 0, .int .i64 0, .int .i64 0, .int .i64 0, .int .i64 0, .int .i64 0] 34)) ∧ ((w.alloc (.cells #[.int .i64 o0, .int .i64 o1, .int .i64 o2] 22)).alloc (.cells #[.int .i64 0, .int .i64 0, .int .i64 0, .int .i64 0, .int .i64 0, .int .i64 0, .int .i64 0, .int .i64 0, .int .i64 0, .int .i64 0, .int .i64 0, .int .i64 0, .int .i64 0, .int .i64 0, .int .i64 0, .int .i64 0, .int .i64 0, .int .i64 0] 34)).heap[w.heap.size]? = some (.cells #[.int .i64 o0, .int .i64 o1, .int .i64 o2] 22 (0, 0)) ∧ ((w.alloc (.cells #[.int .i64 o0, .int .i64 o1, .int .i64 o2] 22)).alloc (.cells #[.int .i64 0, .int .i64 0, .int .i64 0, .int .i64 0, .int .i64 0, .int .i64 0, .int .i64 0, .int .i64 0, .int .i64 0, .int .i64 0, .int .i64 0, .int .i64 0, .int .i64 0, .int .i64 0, .int .i64 0, .int .i64 0, .int .i64 0, .int .i64 0] 34)).heap[w.heap.size + 1]? = some (.cells (row18 Row6.z Row6.z Row6.z) 34 (0, 0)) :=
 ⟨below_alloc (below_alloc (Below.refl _ _) _) _, blk_alloc (blk_new w _) _, blk_new1 w _ _⟩
set_option maxHeartbeats 8000000 in
set_option maxRecDepth 100000 in
theorem lombardref16_Roll.full (A : Option Addr) (c : Nat) (l : List S40) (o0 o1 o2 : Int) (w : World) (hl : 4096 < l.length) :
  Calls Try.prog 12 #[.agg #[.int .i64 o0, .int .i64 o1, .int .i64 o2], .slice A l.length c] w (lombardref16_Roll.P w (Row6.z, Row6.z, Row6.z, 10)) := by
 have hb : decide ((4096 : Int) < (l.length : Int)) = true := decide_eq_true (by omega)
 clear hl
 obtain ⟨h1, h2, h3⟩ := lombardref16_Roll.start w o0 o1 o2
 have HB := Aside0.mk h1
 have BK4 := Aside0.mk h3
 clear h1 h2 h3
 go_enter Try.func12, Try.ntmps12
 go_wp2_with ((with_reducible refine gate_store (t := 34) (p := 4) (v := .tmp 17) rfl ?_); refine Shut.out ?_)
 unfold Shut
 refine store_rowTo rfl 34 (.tmp 4) (.tmp 17) rfl rfl (w.heap.size + 1) (row18 Row6.z Row6.z Row6.z) rfl rfl 34 _ BK4.out (by kernel_rfl) rfl (row18_all _ _ _) ?_
 have HBn := Aside0.mk (row_below (g := w.heap.size + 1) HB.out (by omega) (row18 Row6.z Row6.z Row6.z))
 have BKn := Aside0.mk (setRow_heap _ _ _ (row18 Row6.z Row6.z Row6.z) _ _ BK4.out)
 clear HB BK4
 go_wp2_with fail
 exact bodyPost_ret (v := .tuple #[.agg (row18 Row6.z Row6.z Row6.z), .int .i64 10]) (results_ct Try.results12 _ _ (w.heap.size + 1) 34 _ (0, 0) _ rfl BKn.out Try.underlying34 rfl (by kernel_rfl)) rfl ⟨rfl, HBn.out⟩
def loopsOf : Code → List Code
 | .loop c => [c]
 | .seq a b => loopsOf a ++ loopsOf b
 | .block _ c => loopsOf c
 | .cond _ a b => loopsOf a ++ loopsOf b
 | _ => []
noncomputable def lombardref16_Roll.outer : Code := ((Try.f12.body.map loopsOf).getD []).getD 2 .skip
noncomputable def lombardref16_Roll.inner : Code := (loopsOf lombardref16_Roll.outer).getD 0 .skip
set_option maxHeartbeats 16000000 in
set_option maxRecDepth 1000000 in
theorem lombardref16_Roll.inner0 {A : Option Addr} {c : Nat} {l : List S40} {o0 o1 o2 : Int} {w w0 : World} {g4 g8 : Nat} {ra rb : Row6} {Q0 : Exit → Act → World → Prop} {c0 c1 c2 c3 c4 c5 c6 c7 c9 c10 c12 c14 c15 c16 c17 c18 c19 c20 c21 c22 c23 c24 c25 c26 c27 c28 c29 c30 c31 c32 c33 c34 c35 c36 c37 c38 c39 c40 c41 c42 c43 c44 c45 c46 c47 c48 c49 c50 c51 c52 c53 c54 c55 c56 c57 c58 c59 c60 c61 c62 c63 c64 c65 c66 c67 c68 c69 c70 c71 c72 c73 c74 c75 c76 c77 c78 c157 c158 c159 c160 c161 c162 c163 c164 c165 c166 c167 c168 c169 c170 c171 c172 c173 c174 c175 c176 c177 c178 c179 c180 c181 c182 c183 c184 c185 : Value} {u13 u82 u83 u84 u85 u86 u87 u88 u89 u90 u91 u92 u93 u94 u95 u96 u97 u98 u99 u100 u101 u102 u103 u104 u105 u106 u107 u108 u109 u110 u111 u112 u113 u114 u115 u116 u117 u118 u119 u120 u121 u122 u123 u124 u125 u126 u127 u128 u129 u130 u131 u132 u133 u134 u135 u136 u137 u138 u139 u140 u141 u142 u143 u144 u145 u146 u147 u148 u149 u150 u151 u152 u153 u154 u155 u156 : Value}
  (HR : Aside0 (Kd.C k40 w A l.length l)) (hl : l.length ≤ 4096) (HOK : Aside0 (∀ x ∈ l, allow_Change.ok (cv x))) (hg4 : w.heap.size < g4) (hg8 : g4 < g8)
  (BK2 : Aside0 (w0.heap[w.heap.size]? = some (.cells #[.int .i64 o0, .int .i64 o1, .int .i64 o2] 22 (0, 0)))) (BK4 : Aside0 (w0.heap[g4]? = some (.cells (row18 Row6.z Row6.z Row6.z) 34 (0, 0)))) (BK8 : Aside0 (w0.heap[g8]? = some (.cells (row18 ⟨o0, 0, 0, 0, 0, 0⟩ ra rb) 34 (0, 0)))) (HB : Aside0 (Below w.heap.size w w0))
  (hpan : ∀ c_ (a_ b_ : Act) w_, a_.defers = b_.defers → Q0 (Exit.panic c_) a_ w_ → Q0 (Exit.panic c_) b_ w_) (hexit : ∀ (x13 x81 x82 x83 x84 x85 x86 x87 x88 x89 x90 x91 x92 x93 x94 x95 x96 x97 x98 x99 x100 x101 x102 x103 x104 x105 x106 x107 x108 x109 x110 x111 x112 x113 x114 x115 x116 x117 x118 x119 x120 x121 x122 x123 x124 x125 x126 x127 x128 x129 x130 x131 x132 x133 x134 x135 x136 x137 x138 x139 x140 x141 x142 x143 x144 x145 x146 x147 x148 x149 x150 x151 x152 x153 x154 x155 x156 : Value) (w1 : World), Aside0 (w1.heap[w.heap.size]? = some (.cells #[.int .i64 o0, .int .i64 o1, .int .i64 o2] 22 (0, 0))) ∧ Aside0 (w1.heap[g4]? = some (.cells (row18 Row6.z Row6.z Row6.z) 34 (0, 0))) ∧ Aside0 (w1.heap[g8]? = some (.cells (row18 (lombardref16_Roll.pre l o0 1) ra rb) 34 (0, 0))) ∧ Aside0 (Below w.heap.size w w1) → Q0 (Exit.exit 6) ⟨List.toArray (c0 :: c1 :: c2 :: c3 :: c4 :: c5 :: c6 :: c7 :: .pointer (some ⟨g8, 0, none⟩) :: c9 :: c10 :: .int .i64 0 :: c12 :: x13 :: c14 :: c15 :: c16 :: c17 :: c18 :: c19 :: c20 :: c21 :: c22 :: c23 :: c24 :: c25 :: c26 :: c27 :: c28 :: c29 :: c30 :: c31 :: c32 :: c33 :: c34 :: c35 :: c36 :: c37 :: c38 :: c39 :: c40 :: c41 :: c42 :: c43 :: c44 :: c45 :: c46 :: c47 :: c48 :: c49 :: c50 :: c51 :: c52 :: c53 :: c54 :: c55 :: c56 :: c57 :: c58 :: c59 :: c60 :: c61 :: c62 :: c63 :: c64 :: c65 :: c66 :: c67 :: c68 :: c69 :: c70 :: c71 :: c72 :: c73 :: c74 :: c75 :: c76 :: c77 :: c78 :: .slice A l.length c :: .int .i64 (l.length : Int) :: x81 :: x82 :: x83 :: x84 :: x85 :: x86 :: x87 :: x88 :: x89 :: x90 :: x91 :: x92 :: x93 :: x94 :: x95 :: x96 :: x97 :: x98 :: x99 :: x100 :: x101 :: x102 :: x103 :: x104 :: x105 :: x106 :: x107 :: x108 :: x109 :: x110 :: x111 :: x112 :: x113 :: x114 :: x115 :: x116 :: x117 :: x118 :: x119 :: x120 :: x121 :: x122 :: x123 :: x124 :: x125 :: x126 :: x127 :: x128 :: x129 :: x130 :: x131 :: x132 :: x133 :: x134 :: x135 :: x136 :: x137 :: x138 :: x139 :: x140 :: x141 :: x142 :: x143 :: x144 :: x145 :: x146 :: x147 :: x148 :: x149 :: x150 :: x151 :: x152 :: x153 :: x154 :: x155 :: x156 :: c157 :: c158 :: c159 :: c160 :: c161 :: c162 :: c163 :: c164 :: c165 :: c166 :: c167 :: c168 :: c169 :: c170 :: c171 :: c172 :: c173 :: c174 :: c175 :: c176 :: c177 :: c178 :: c179 :: c180 :: c181 :: c182 :: c183 :: c184 :: c185 :: []), []⟩ w1) :
  Code.wp Try.prog (Code.loop lombardref16_Roll.inner) Q0 ⟨List.toArray (c0 :: c1 :: c2 :: c3 :: c4 :: c5 :: c6 :: c7 :: .pointer (some ⟨g8, 0, none⟩) :: c9 :: c10 :: .int .i64 0 :: c12 :: u13 :: c14 :: c15 :: c16 :: c17 :: c18 :: c19 :: c20 :: c21 :: c22 :: c23 :: c24 :: c25 :: c26 :: c27 :: c28 :: c29 :: c30 :: c31 :: c32 :: c33 :: c34 :: c35 :: c36 :: c37 :: c38 :: c39 :: c40 :: c41 :: c42 :: c43 :: c44 :: c45 :: c46 :: c47 :: c48 :: c49 :: c50 :: c51 :: c52 :: c53 :: c54 :: c55 :: c56 :: c57 :: c58 :: c59 :: c60 :: c61 :: c62 :: c63 :: c64 :: c65 :: c66 :: c67 :: c68 :: c69 :: c70 :: c71 :: c72 :: c73 :: c74 :: c75 :: c76 :: c77 :: c78 :: .slice A l.length c :: .int .i64 (l.length : Int) :: .int .i64 0 :: u82 :: u83 :: u84 :: u85 :: u86 :: u87 :: u88 :: u89 :: u90 :: u91 :: u92 :: u93 :: u94 :: u95 :: u96 :: u97 :: u98 :: u99 :: u100 :: u101 :: u102 :: u103 :: u104 :: u105 :: u106 :: u107 :: u108 :: u109 :: u110 :: u111 :: u112 :: u113 :: u114 :: u115 :: u116 :: u117 :: u118 :: u119 :: u120 :: u121 :: u122 :: u123 :: u124 :: u125 :: u126 :: u127 :: u128 :: u129 :: u130 :: u131 :: u132 :: u133 :: u134 :: u135 :: u136 :: u137 :: u138 :: u139 :: u140 :: u141 :: u142 :: u143 :: u144 :: u145 :: u146 :: u147 :: u148 :: u149 :: u150 :: u151 :: u152 :: u153 :: u154 :: u155 :: u156 :: c157 :: c158 :: c159 :: c160 :: c161 :: c162 :: c163 :: c164 :: c165 :: c166 :: c167 :: c168 :: c169 :: c170 :: c171 :: c172 :: c173 :: c174 :: c175 :: c176 :: c177 :: c178 :: c179 :: c180 :: c181 :: c182 :: c183 :: c184 :: c185 :: []), []⟩ w0 := by
 conv => arg 2; arg 1; whnf
 go_loopw [81] (fun j wr => ∃ k : Nat, k ≤ l.length ∧ j = .int .i64 k ∧ Aside0 (wr.heap[w.heap.size]? = some (.cells #[.int .i64 o0, .int .i64 o1, .int .i64 o2] 22 (0, 0))) ∧ Aside0 (wr.heap[g4]? = some (.cells (row18 Row6.z Row6.z Row6.z) 34 (0, 0))) ∧ Aside0 (wr.heap[g8]? = some (.cells (row18 (lombardref16_Roll.pre (l.take k) o0 1) ra rb) 34 (0, 0))) ∧ Aside0 (Below w.heap.size w wr)) (fun j _ => l.length - (intOf j).toNat)
 case atStart => exact ⟨0, Nat.zero_le _, rfl, BK2, BK4, BK8, HB⟩
 case round =>
  clear BK2 BK4 BK8 HB
  obtain ⟨k, hk, rfl, BK2, BK4, BK8, HB⟩ := hrel
  obtain ⟨v1, hv⟩ : ∃ v, v = wr := ⟨_, rfl⟩
  subst hv
  obtain ⟨ia, ua, na, wa, hpre⟩ := lombardref16_Roll.pre_some (l.take k) o0 1
  rw [hpre] at BK8
  have HP := Aside0.mk hpre
  clear hpre
  by_cases hlt : k < l.length
  case pos =>
   obtain ⟨ad, rfl, hx0, hx1, hx2, hx3, hx4⟩ := at_T40 HR.out (k : Int) (by omega) (by omega)
   replace hx0 := (HB.out.cell (World.block_lt_of_cell? w _ hx0)).trans hx0
   replace hx1 := (HB.out.cell (World.block_lt_of_cell? w _ hx1)).trans hx1
   replace hx2 := (HB.out.cell (World.block_lt_of_cell? w _ hx2)).trans hx2
   replace hx3 := (HB.out.cell (World.block_lt_of_cell? w _ hx3)).trans hx3
   replace hx4 := (HB.out.cell (World.block_lt_of_cell? w _ hx4)).trans hx4
   rw [Int.toNat_natCast] at hx0 hx1 hx2 hx3 hx4
   have hrd : rd_T40 l (k : Int) = l[k] := by simp [rd_T40, List.getElem?_eq_getElem hlt]
   have HT := Aside0.mk (List.take_succ_eq_append_getElem hlt)
   have HXO := Aside0.mk (HOK.out _ (List.getElem_mem hlt))
   rw [hrd] at hx0 hx1 hx2 hx3 hx4
   clear hrd
   generalize l[k] = x at hx0 hx1 hx2 hx3 hx4 HT HXO
   obtain ⟨hnb, hnk⟩ := newrow2 v1 #[.int .i64 0, .int .i64 0, .int .i64 0, .int .i64 0, .int .i64 0] #[.int .i64 x.f0, .int .i64 x.f1, .int .i64 x.f2, .int .i64 x.f3, .int .i64 x.f4] 40
   go_wp2_with ((with_reducible refine gate_store (t := 40) (p := 13) (v := .tmp 84) rfl ?_); refine Shut.out ?_)
   unfold Shut
   refine store_rowTo rfl 40 (.tmp 13) (.tmp 84) rfl rfl v1.heap.size #[.int .i64 x.f0, .int .i64 x.f1, .int .i64 x.f2, .int .i64 x.f3, .int .i64 x.f4] rfl rfl 40 _ (blk_new v1 _) (by kernel_rfl) rfl (all5' _ _ _ _ _) ?_
   have n_HB := Aside0.mk (below_step HB.out hnb)
   have n_BK2 := Aside0.mk (blk_below BK2.out hnb)
   have n_BK4 := Aside0.mk (blk_below BK4.out hnb)
   have n_BK8 := Aside0.mk (blk_below BK8.out hnb)
   have n_BK7 := Aside0.mk hnk
   have hg7 := blk_lt BK8.out
   clear HB BK2 BK4 BK8 hnb hnk hx0 hx1 hx2 hx3 hx4
   generalize (v1.alloc (.cells #[.int .i64 0, .int .i64 0, .int .i64 0, .int .i64 0, .int .i64 0] 40)).setRow v1.heap.size #[.int .i64 x.f0, .int .i64 x.f1, .int .i64 x.f2, .int .i64 x.f3, .int .i64 x.f4] = z1 at n_HB n_BK2 n_BK4 n_BK8 n_BK7 ⊢
   generalize v1.heap.size = g7 at n_BK7 hg7 ⊢
   have HB := n_HB
   clear n_HB
   have BK2 := n_BK2
   clear n_BK2
   have BK4 := n_BK4
   clear n_BK4
   have BK8 := n_BK8
   clear n_BK8
   have BK7 := n_BK7
   clear n_BK7
   have hbd := lombardref16_Roll.pre_bd _ _ _ HP.out (fun y hy => HOK.out y (List.mem_of_mem_take hy)) (by rw [List.length_take]; omega)
   have hxo := HXO.out
   simp only [allow_Change.ok, cv] at hxo
   obtain ⟨vi, hvi⟩ : ∃ v, v = ia + x.f2 := ⟨_, rfl⟩
   obtain ⟨vu, hvu⟩ : ∃ v, v = ua + x.f2 := ⟨_, rfl⟩
   obtain ⟨d1, hd1⟩ : ∃ v, v = x.f3 - x.f2 := ⟨_, rfl⟩
   obtain ⟨d2, hd2⟩ : ∃ v, v = d1 + x.f4 := ⟨_, rfl⟩
   obtain ⟨vn, hvn⟩ : ∃ v, v = na + d2 := ⟨_, rfl⟩
   obtain ⟨vw, hvw⟩ : ∃ v, v = wa + x.f4 := ⟨_, rfl⟩
   have HVI := Aside0.mk hvi
   have HVU := Aside0.mk hvu
   have HVN := Aside0.mk (show vn = na + (x.f3 - x.f2 + x.f4) by omega)
   have HVW := Aside0.mk hvw
   have QI := Aside0.mk (show wrap64 (ia + x.f2) = vi by unfold wrap64; omega)
   have QU := Aside0.mk (show wrap64 (ua + x.f2) = vu by unfold wrap64; omega)
   have QD1 := Aside0.mk (show wrap64 (x.f3 - x.f2) = d1 by unfold wrap64; omega)
   have QD2 := Aside0.mk (show wrap64 (d1 + x.f4) = d2 by unfold wrap64; omega)
   have QN := Aside0.mk (show wrap64 (na + d2) = vn by unfold wrap64; omega)
   have QW := Aside0.mk (show wrap64 (wa + x.f4) = vw by unfold wrap64; omega)
   have hg74 : g7 ≠ g4 := by omega
   clear hvi hvu hd1 hd2 hvn hvw hbd hxo
   have hk0 : z1.cell? ⟨g7, 0, none⟩ = some (.int .i64 x.f0) := blk_cell BK7.out 0
   have hk1 : z1.cell? ⟨g7, 1, none⟩ = some (.int .i64 x.f1) := blk_cell BK7.out 1
   have hk2 : z1.cell? ⟨g7, 2, none⟩ = some (.int .i64 x.f2) := blk_cell BK7.out 2
   have hk3 : z1.cell? ⟨g7, 3, none⟩ = some (.int .i64 x.f3) := blk_cell BK7.out 3
   have hk4 : z1.cell? ⟨g7, 4, none⟩ = some (.int .i64 x.f4) := blk_cell BK7.out 4
   have HE1 : x.f0 = x.f1 ∨ ¬ x.f0 = x.f1 := Classical.em _
   have HE2 : x.f1 = 1 ∨ ¬ x.f1 = 1 := Classical.em _
   have HE3 : x.f0 = 1 ∨ ¬ x.f0 = 1 := Classical.em _
   rcases HE1 with e1 | e1
   ·
    rcases HE2 with e2 | e2
    ·
     have E1 := Aside0.mk e1
     have E2 := Aside0.mk e2
     have e3 : x.f0 = 1 := e1.trans e2
     clear HE3
     have t1 : (x.f0 != x.f1) = false := by simpa using e1
     have t2 : (x.f1 == 1) = true := by simpa using e2
     clear e1 e2 e3
     go_wp2_with fail
     clear hk0 hk1 hk2 hk3 hk4
     have n_HB := Aside0.mk (below_drew1 HB.out)
     have n_BK2 := Aside0.mk (blk_drew BK2.out)
     have n_BK4 := Aside0.mk (blk_drew BK4.out)
     have n_BK8 := Aside0.mk (blk_drew BK8.out)
     have n_BK7 := Aside0.mk (blk_drew BK7.out)
     clear HB BK2 BK4 BK8 BK7
     have HB := n_HB
     clear n_HB
     have BK2 := n_BK2
     clear n_BK2
     have BK4 := n_BK4
     clear n_BK4
     have BK8 := n_BK8
     clear n_BK8
     have BK7 := n_BK7
     clear n_BK7
     have hs0 := QD1.out
     have ht0 := (i64_w _).trans QD1.out
     have hs1 := QD2.out
     have ht1 := (i64_w _).trans QD2.out
     have hs2 := QN.out
     have ht2 := (i64_w _).trans QN.out
     refine start_ (n := 16) (S := fun w' => w'.cell? ⟨g8, 3, none⟩ = some (.int .i64 na) ∧ w'.cell? ⟨g7, 2, none⟩ = some (.int .i64 x.f2) ∧ w'.cell? ⟨g7, 3, none⟩ = some (.int .i64 x.f3) ∧ w'.cell? ⟨g7, 4, none⟩ = some (.int .i64 x.f4)) (ds := [15]) #[false, false, false, false, false, false, false, false, false, false, false, false, false, false, false, false] (by kernel_rfl) rfl rfl ⟨(blk_cell BK8.out 3).trans rfl, (blk_cell BK7.out 2).trans rfl, (blk_cell BK7.out 3).trans rfl, (blk_cell BK7.out 4).trans rfl⟩ (fun hHeld => ?_)
     generalize z1.drew = z2 at HB BK2 BK4 BK8 BK7 hHeld ⊢
     refine pure_ (i := 0) (N := some 132) (v := ?_) (a' := ?_) #[true, false, false, false, false, false, false, false, false, false, false, false, false, false, false, false] rfl rfl (by kernel_rfl) (fun c_ a_ w_ h => hpan c_ (Act.put a_ _ _) a_ w_ (by rfl) h) (Or.inl ⟨by rfl, ?_⟩) ?_ ?_
     rotate_left
     ·
      intro w'
      go_simp
      with_reducible rfl
     rotate_left
     ·
      simp only [Act.put, List.setIfInBounds_toArray, List.set_cons_zero, List.set_cons_succ, i64_w, i32_w]
      rfl
     refine pure_ (i := 1) (N := some 133) (v := ?_) (a' := ?_) #[true, true, false, false, false, false, false, false, false, false, false, false, false, false, false, false] rfl rfl (by kernel_rfl) (fun c_ a_ w_ h => hpan c_ (Act.put a_ _ _) a_ w_ (by rfl) h) (Or.inl ⟨by rfl, ?_⟩) ?_ ?_
     rotate_left
     ·
      intro w'
      go_simp
      with_reducible rfl
     rotate_left
     ·
      simp only [Act.put, List.setIfInBounds_toArray, List.set_cons_zero, List.set_cons_succ, i64_w, i32_w]
      rfl
     refine pure_ (i := 2) (N := some 134) (v := ?_) (a' := ?_) #[true, true, true, false, false, false, false, false, false, false, false, false, false, false, false, false] rfl rfl (by kernel_rfl) (fun c_ a_ w_ h => hpan c_ (Act.put a_ _ _) a_ w_ (by rfl) h) (Or.inl ⟨by rfl, ?_⟩) ?_ ?_
     rotate_left
     ·
      intro w'
      go_simp
      with_reducible rfl
     rotate_left
     ·
      simp only [Act.put, List.setIfInBounds_toArray, List.set_cons_zero, List.set_cons_succ, i64_w, i32_w]
      rfl
     refine pure_ (i := 4) (N := some 136) (v := ?_) (a' := ?_) #[true, true, true, false, true, false, false, false, false, false, false, false, false, false, false, false] rfl rfl (by kernel_rfl) (fun c_ a_ w_ h => hpan c_ (Act.put a_ _ _) a_ w_ (by rfl) h) (Or.inl ⟨by rfl, ?_⟩) ?_ ?_
     rotate_left
     ·
      intro w'
      go_simp
      with_reducible rfl
     rotate_left
     ·
      simp only [Act.put, List.setIfInBounds_toArray, List.set_cons_zero, List.set_cons_succ, i64_w, i32_w]
      rfl
     refine pure_ (i := 6) (N := some 138) (v := ?_) (a' := ?_) #[true, true, true, false, true, false, true, false, false, false, false, false, false, false, false, false] rfl rfl (by kernel_rfl) (fun c_ a_ w_ h => hpan c_ (Act.put a_ _ _) a_ w_ (by rfl) h) (Or.inl ⟨by rfl, ?_⟩) ?_ ?_
     rotate_left
     ·
      intro w'
      go_simp
      with_reducible rfl
     rotate_left
     ·
      simp only [Act.put, List.setIfInBounds_toArray, List.set_cons_zero, List.set_cons_succ, i64_w, i32_w]
      rfl
     refine pure_ (i := 9) (N := some 141) (v := ?_) (a' := ?_) #[true, true, true, false, true, false, true, false, false, true, false, false, false, false, false, false] rfl rfl (by kernel_rfl) (fun c_ a_ w_ h => hpan c_ (Act.put a_ _ _) a_ w_ (by rfl) h) (Or.inl ⟨by rfl, ?_⟩) ?_ ?_
     rotate_left
     ·
      intro w'
      go_simp
      with_reducible rfl
     rotate_left
     ·
      simp only [Act.put, List.setIfInBounds_toArray, List.set_cons_zero, List.set_cons_succ, i64_w, i32_w]
      rfl
     refine take_ (i := 3) (N := some 135) (v := ?_) (a' := ?_) #[true, true, true, true, true, false, true, false, false, true, false, false, false, false, false, false] rfl rfl (by kernel_rfl) (fun c_ a_ w_ h => hpan c_ (Act.put a_ _ _) a_ w_ (by rfl) h) (Or.inl ⟨by rfl, ?_⟩) hHeld ?_ ?_
     rotate_left
     ·
      rintro w' ⟨s0, s1, s2, s3⟩
      go_simp
      with_reducible rfl
     rotate_left
     ·
      simp only [Act.put, List.setIfInBounds_toArray, List.set_cons_zero, List.set_cons_succ, i64_w, i32_w]
      rfl
     refine take_ (i := 5) (N := some 137) (v := ?_) (a' := ?_) #[true, true, true, true, true, true, true, false, false, true, false, false, false, false, false, false] rfl rfl (by kernel_rfl) (fun c_ a_ w_ h => hpan c_ (Act.put a_ _ _) a_ w_ (by rfl) h) (Or.inl ⟨by rfl, ?_⟩) hHeld ?_ ?_
     rotate_left
     ·
      rintro w' ⟨s0, s1, s2, s3⟩
      go_simp
      with_reducible rfl
     rotate_left
     ·
      simp only [Act.put, List.setIfInBounds_toArray, List.set_cons_zero, List.set_cons_succ, i64_w, i32_w]
      rfl
     refine take_ (i := 7) (N := some 139) (v := ?_) (a' := ?_) #[true, true, true, true, true, true, true, true, false, true, false, false, false, false, false, false] rfl rfl (by kernel_rfl) (fun c_ a_ w_ h => hpan c_ (Act.put a_ _ _) a_ w_ (by rfl) h) (Or.inl ⟨by rfl, ?_⟩) hHeld ?_ ?_
     rotate_left
     ·
      rintro w' ⟨s0, s1, s2, s3⟩
      go_simp
      with_reducible rfl
     rotate_left
     ·
      simp only [Act.put, List.setIfInBounds_toArray, List.set_cons_zero, List.set_cons_succ, i64_w, i32_w]
      rfl
     refine pure_ (i := 8) (N := some 140) (v := ?_) (a' := ?_) #[true, true, true, true, true, true, true, true, true, true, false, false, false, false, false, false] rfl rfl (by kernel_rfl) (fun c_ a_ w_ h => hpan c_ (Act.put a_ _ _) a_ w_ (by rfl) h) (Or.inl ⟨by rfl, ?_⟩) ?_ ?_
     rotate_left
     ·
      intro w'
      go_simp
      with_reducible rfl
     rotate_left
     ·
      simp only [Act.put, List.setIfInBounds_toArray, List.set_cons_zero, List.set_cons_succ, i64_w, i32_w]
      rfl
     refine take_ (i := 10) (N := some 142) (v := ?_) (a' := ?_) #[true, true, true, true, true, true, true, true, true, true, true, false, false, false, false, false] rfl rfl (by kernel_rfl) (fun c_ a_ w_ h => hpan c_ (Act.put a_ _ _) a_ w_ (by rfl) h) (Or.inl ⟨by rfl, ?_⟩) hHeld ?_ ?_
     rotate_left
     ·
      rintro w' ⟨s0, s1, s2, s3⟩
      go_simp
      with_reducible rfl
     rotate_left
     ·
      simp only [Act.put, List.setIfInBounds_toArray, List.set_cons_zero, List.set_cons_succ, i64_w, i32_w]
      rfl
     refine pure_ (i := 11) (N := some 143) (v := ?_) (a' := ?_) #[true, true, true, true, true, true, true, true, true, true, true, true, false, false, false, false] rfl rfl (by kernel_rfl) (fun c_ a_ w_ h => hpan c_ (Act.put a_ _ _) a_ w_ (by rfl) h) (Or.inl ⟨by rfl, ?_⟩) ?_ ?_
     rotate_left
     ·
      intro w'
      go_simp
      with_reducible rfl
     rotate_left
     ·
      simp only [Act.put, List.setIfInBounds_toArray, List.set_cons_zero, List.set_cons_succ, i64_w, i32_w]
      rfl
     refine pure_ (i := 12) (N := some 144) (v := ?_) (a' := ?_) #[true, true, true, true, true, true, true, true, true, true, true, true, true, false, false, false] rfl rfl (by kernel_rfl) (fun c_ a_ w_ h => hpan c_ (Act.put a_ _ _) a_ w_ (by rfl) h) (Or.inl ⟨by rfl, ?_⟩) ?_ ?_
     rotate_left
     ·
      intro w'
      go_simp
      with_reducible rfl
     rotate_left
     ·
      simp only [Act.put, List.setIfInBounds_toArray, List.set_cons_zero, List.set_cons_succ, i64_w, i32_w]
      rfl
     refine pure_ (i := 13) (N := some 145) (v := ?_) (a' := ?_) #[true, true, true, true, true, true, true, true, true, true, true, true, true, true, false, false] rfl rfl (by kernel_rfl) (fun c_ a_ w_ h => hpan c_ (Act.put a_ _ _) a_ w_ (by rfl) h) (Or.inl ⟨by rfl, ?_⟩) ?_ ?_
     rotate_left
     ·
      intro w'
      go_simp
      with_reducible rfl
     rotate_left
     ·
      simp only [Act.put, List.setIfInBounds_toArray, List.set_cons_zero, List.set_cons_succ, i64_w, i32_w]
      rfl
     refine pure_ (i := 14) (N := some 146) (v := ?_) (a' := ?_) #[true, true, true, true, true, true, true, true, true, true, true, true, true, true, true, false] rfl rfl (by kernel_rfl) (fun c_ a_ w_ h => hpan c_ (Act.put a_ _ _) a_ w_ (by rfl) h) (Or.inl ⟨by rfl, ?_⟩) ?_ ?_
     rotate_left
     ·
      intro w'
      go_simp
      with_reducible rfl
     rotate_left
     ·
      simp only [Act.put, List.setIfInBounds_toArray, List.set_cons_zero, List.set_cons_succ, i64_w, i32_w]
      rfl
     refine last_ (i := 15) (N := none) #[true, true, true, true, true, true, true, true, true, true, true, true, true, true, true, true] rfl rfl (by kernel_rfl) (by decide) (fun K hK => ?_)
     have kf := blk_frozen BK8.out 3
     have kc := hHeld.1
     refine skip_ (w1 := ?_) (by rfl) rfl ?_ ?_
     rotate_left
     ·
      go_simp
      rfl
     refine hK.out _ _ ?_
     clear hK K
     refine done_ (by kernel_rfl) ?_
     clear hHeld kf kc hs0 ht0 hs1 ht1 hs2 ht2
     have n_HB := Aside0.mk (HB.out.setCell (p := ⟨g8, 3, none⟩) (show w.heap.size ≤ g8 by omega) (.int .i64 vn))
     have n_BK2 := Aside0.mk ((Below.heap_setCell z2 ⟨g8, 3, none⟩ (.int .i64 vn) w.heap.size (show w.heap.size ≠ g8 by omega)).trans BK2.out)
     have n_BK4 := Aside0.mk ((Below.heap_setCell z2 ⟨g8, 3, none⟩ (.int .i64 vn) g4 (show g4 ≠ g8 by omega)).trans BK4.out)
     have n_BK7 := Aside0.mk ((Below.heap_setCell z2 ⟨g8, 3, none⟩ (.int .i64 vn) g7 (show g7 ≠ g8 by omega)).trans BK7.out)
     have n_BK8 := Aside0.mk (blk_put BK8.out 3 (.int .i64 vn) (show (row18 _ _ _).setIfInBounds 3 _ = row18 ⟨o0, ia, ua, vn, wa, 0⟩ ra rb from rfl))
     clear HB BK8 BK2 BK4 BK7
     generalize z2.setCell ⟨g8, 3, none⟩ (.int .i64 vn) = z3 at n_HB n_BK8 n_BK2 n_BK4 n_BK7 ⊢
     have HB := n_HB
     clear n_HB
     have BK8 := n_BK8
     clear n_BK8
     have BK2 := n_BK2
     clear n_BK2
     have BK4 := n_BK4
     clear n_BK4
     have BK7 := n_BK7
     clear n_BK7
     have hk0 : z3.cell? ⟨g7, 0, none⟩ = some (.int .i64 x.f0) := blk_cell BK7.out 0
     have hk1 : z3.cell? ⟨g7, 1, none⟩ = some (.int .i64 x.f1) := blk_cell BK7.out 1
     have hk2 : z3.cell? ⟨g7, 2, none⟩ = some (.int .i64 x.f2) := blk_cell BK7.out 2
     have hk3 : z3.cell? ⟨g7, 3, none⟩ = some (.int .i64 x.f3) := blk_cell BK7.out 3
     have hk4 : z3.cell? ⟨g7, 4, none⟩ = some (.int .i64 x.f4) := blk_cell BK7.out 4
     go_wp2_with fail
     clear hk0 hk1 hk2 hk3 hk4
     have n_HB := Aside0.mk (below_drew1 HB.out)
     have n_BK2 := Aside0.mk (blk_drew BK2.out)
     have n_BK4 := Aside0.mk (blk_drew BK4.out)
     have n_BK8 := Aside0.mk (blk_drew BK8.out)
     have n_BK7 := Aside0.mk (blk_drew BK7.out)
     clear HB BK2 BK4 BK8 BK7
     have HB := n_HB
     clear n_HB
     have BK2 := n_BK2
     clear n_BK2
     have BK4 := n_BK4
     clear n_BK4
     have BK8 := n_BK8
     clear n_BK8
     have BK7 := n_BK7
     clear n_BK7
     have hs0 := QW.out
     have ht0 := (i64_w _).trans QW.out
     refine start_ (n := 10) (S := fun w' => w'.cell? ⟨g8, 4, none⟩ = some (.int .i64 wa) ∧ w'.cell? ⟨g7, 4, none⟩ = some (.int .i64 x.f4)) (ds := [9]) #[false, false, false, false, false, false, false, false, false, false] (by kernel_rfl) rfl rfl ⟨(blk_cell BK8.out 4).trans rfl, (blk_cell BK7.out 4).trans rfl⟩ (fun hHeld => ?_)
     generalize z3.drew = z4 at HB BK2 BK4 BK8 BK7 hHeld ⊢
     refine pure_ (i := 0) (N := some 147) (v := ?_) (a' := ?_) #[true, false, false, false, false, false, false, false, false, false] rfl rfl (by kernel_rfl) (fun c_ a_ w_ h => hpan c_ (Act.put a_ _ _) a_ w_ (by rfl) h) (Or.inl ⟨by rfl, ?_⟩) ?_ ?_
     rotate_left
     ·
      intro w'
      go_simp
      with_reducible rfl
     rotate_left
     ·
      simp only [Act.put, List.setIfInBounds_toArray, List.set_cons_zero, List.set_cons_succ, i64_w, i32_w]
      rfl
     refine pure_ (i := 1) (N := some 148) (v := ?_) (a' := ?_) #[true, true, false, false, false, false, false, false, false, false] rfl rfl (by kernel_rfl) (fun c_ a_ w_ h => hpan c_ (Act.put a_ _ _) a_ w_ (by rfl) h) (Or.inl ⟨by rfl, ?_⟩) ?_ ?_
     rotate_left
     ·
      intro w'
      go_simp
      with_reducible rfl
     rotate_left
     ·
      simp only [Act.put, List.setIfInBounds_toArray, List.set_cons_zero, List.set_cons_succ, i64_w, i32_w]
      rfl
     refine pure_ (i := 2) (N := some 149) (v := ?_) (a' := ?_) #[true, true, true, false, false, false, false, false, false, false] rfl rfl (by kernel_rfl) (fun c_ a_ w_ h => hpan c_ (Act.put a_ _ _) a_ w_ (by rfl) h) (Or.inl ⟨by rfl, ?_⟩) ?_ ?_
     rotate_left
     ·
      intro w'
      go_simp
      with_reducible rfl
     rotate_left
     ·
      simp only [Act.put, List.setIfInBounds_toArray, List.set_cons_zero, List.set_cons_succ, i64_w, i32_w]
      rfl
     refine pure_ (i := 4) (N := some 151) (v := ?_) (a' := ?_) #[true, true, true, false, true, false, false, false, false, false] rfl rfl (by kernel_rfl) (fun c_ a_ w_ h => hpan c_ (Act.put a_ _ _) a_ w_ (by rfl) h) (Or.inl ⟨by rfl, ?_⟩) ?_ ?_
     rotate_left
     ·
      intro w'
      go_simp
      with_reducible rfl
     rotate_left
     ·
      simp only [Act.put, List.setIfInBounds_toArray, List.set_cons_zero, List.set_cons_succ, i64_w, i32_w]
      rfl
     refine take_ (i := 3) (N := some 150) (v := ?_) (a' := ?_) #[true, true, true, true, true, false, false, false, false, false] rfl rfl (by kernel_rfl) (fun c_ a_ w_ h => hpan c_ (Act.put a_ _ _) a_ w_ (by rfl) h) (Or.inl ⟨by rfl, ?_⟩) hHeld ?_ ?_
     rotate_left
     ·
      rintro w' ⟨s0, s1⟩
      go_simp
      with_reducible rfl
     rotate_left
     ·
      simp only [Act.put, List.setIfInBounds_toArray, List.set_cons_zero, List.set_cons_succ, i64_w, i32_w]
      rfl
     refine take_ (i := 5) (N := some 152) (v := ?_) (a' := ?_) #[true, true, true, true, true, true, false, false, false, false] rfl rfl (by kernel_rfl) (fun c_ a_ w_ h => hpan c_ (Act.put a_ _ _) a_ w_ (by rfl) h) (Or.inl ⟨by rfl, ?_⟩) hHeld ?_ ?_
     rotate_left
     ·
      rintro w' ⟨s0, s1⟩
      go_simp
      with_reducible rfl
     rotate_left
     ·
      simp only [Act.put, List.setIfInBounds_toArray, List.set_cons_zero, List.set_cons_succ, i64_w, i32_w]
      rfl
     refine pure_ (i := 6) (N := some 153) (v := ?_) (a' := ?_) #[true, true, true, true, true, true, true, false, false, false] rfl rfl (by kernel_rfl) (fun c_ a_ w_ h => hpan c_ (Act.put a_ _ _) a_ w_ (by rfl) h) (Or.inl ⟨by rfl, ?_⟩) ?_ ?_
     rotate_left
     ·
      intro w'
      go_simp
      with_reducible rfl
     rotate_left
     ·
      simp only [Act.put, List.setIfInBounds_toArray, List.set_cons_zero, List.set_cons_succ, i64_w, i32_w]
      rfl
     refine pure_ (i := 7) (N := some 154) (v := ?_) (a' := ?_) #[true, true, true, true, true, true, true, true, false, false] rfl rfl (by kernel_rfl) (fun c_ a_ w_ h => hpan c_ (Act.put a_ _ _) a_ w_ (by rfl) h) (Or.inl ⟨by rfl, ?_⟩) ?_ ?_
     rotate_left
     ·
      intro w'
      go_simp
      with_reducible rfl
     rotate_left
     ·
      simp only [Act.put, List.setIfInBounds_toArray, List.set_cons_zero, List.set_cons_succ, i64_w, i32_w]
      rfl
     refine pure_ (i := 8) (N := some 155) (v := ?_) (a' := ?_) #[true, true, true, true, true, true, true, true, true, false] rfl rfl (by kernel_rfl) (fun c_ a_ w_ h => hpan c_ (Act.put a_ _ _) a_ w_ (by rfl) h) (Or.inl ⟨by rfl, ?_⟩) ?_ ?_
     rotate_left
     ·
      intro w'
      go_simp
      with_reducible rfl
     rotate_left
     ·
      simp only [Act.put, List.setIfInBounds_toArray, List.set_cons_zero, List.set_cons_succ, i64_w, i32_w]
      rfl
     refine last_ (i := 9) (N := none) #[true, true, true, true, true, true, true, true, true, true] rfl rfl (by kernel_rfl) (by decide) (fun K hK => ?_)
     have kf := blk_frozen BK8.out 4
     have kc := hHeld.1
     refine skip_ (w1 := ?_) (by rfl) rfl ?_ ?_
     rotate_left
     ·
      go_simp
      rfl
     refine hK.out _ _ ?_
     clear hK K
     refine done_ (by kernel_rfl) ?_
     clear hHeld kf kc hs0 ht0
     have n_HB := Aside0.mk (HB.out.setCell (p := ⟨g8, 4, none⟩) (show w.heap.size ≤ g8 by omega) (.int .i64 vw))
     have n_BK2 := Aside0.mk ((Below.heap_setCell z4 ⟨g8, 4, none⟩ (.int .i64 vw) w.heap.size (show w.heap.size ≠ g8 by omega)).trans BK2.out)
     have n_BK4 := Aside0.mk ((Below.heap_setCell z4 ⟨g8, 4, none⟩ (.int .i64 vw) g4 (show g4 ≠ g8 by omega)).trans BK4.out)
     have n_BK7 := Aside0.mk ((Below.heap_setCell z4 ⟨g8, 4, none⟩ (.int .i64 vw) g7 (show g7 ≠ g8 by omega)).trans BK7.out)
     have n_BK8 := Aside0.mk (blk_put BK8.out 4 (.int .i64 vw) (show (row18 _ _ _).setIfInBounds 4 _ = row18 ⟨o0, ia, ua, vn, vw, 0⟩ ra rb from rfl))
     clear HB BK8 BK2 BK4 BK7
     generalize z4.setCell ⟨g8, 4, none⟩ (.int .i64 vw) = z5 at n_HB n_BK8 n_BK2 n_BK4 n_BK7 ⊢
     have HB := n_HB
     clear n_HB
     have BK8 := n_BK8
     clear n_BK8
     have BK2 := n_BK2
     clear n_BK2
     have BK4 := n_BK4
     clear n_BK4
     have BK7 := n_BK7
     clear n_BK7
     have hk0 : z5.cell? ⟨g7, 0, none⟩ = some (.int .i64 x.f0) := blk_cell BK7.out 0
     have hk1 : z5.cell? ⟨g7, 1, none⟩ = some (.int .i64 x.f1) := blk_cell BK7.out 1
     have hk2 : z5.cell? ⟨g7, 2, none⟩ = some (.int .i64 x.f2) := blk_cell BK7.out 2
     have hk3 : z5.cell? ⟨g7, 3, none⟩ = some (.int .i64 x.f3) := blk_cell BK7.out 3
     have hk4 : z5.cell? ⟨g7, 4, none⟩ = some (.int .i64 x.f4) := blk_cell BK7.out 4
     go_wp2_with fail
     go_roundw
     case measure => simp [intOf]; omega
     case rel =>
      refine ⟨k + 1, by omega, by go_num, BK2, BK4, ⟨?_⟩, HB⟩
      rw [HT.out, lombardref16_Roll.wayA HP.out E1.out E2.out]
      rw [← HVN.out, ← HVW.out]; exact BK8.out
    ·
     have E1 := Aside0.mk e1
     have E2 := Aside0.mk e2
     clear HE3
     have t1 : (x.f0 != x.f1) = false := by simpa using e1
     have t2 : (x.f1 == 1) = false := by simpa using e2
     clear e1 e2
     go_wp2_with fail
     go_roundw
     case measure => simp [intOf]; omega
     case rel =>
      refine ⟨k + 1, by omega, by go_num, BK2, BK4, ⟨?_⟩, HB⟩
      rw [HT.out, lombardref16_Roll.wayB HP.out E2.out (Or.inl E1.out)]
      exact BK8.out
   ·
    rcases HE2 with e2 | e2
    ·
     have E1 := Aside0.mk e1
     have E2 := Aside0.mk e2
     have e3 : ¬ x.f0 = 1 := fun z => e1 (z.trans e2.symm)
     clear HE3
     have t1 : (x.f0 != x.f1) = true := by simpa using e1
     have t2 : (x.f1 == 1) = true := by simpa using e2
     have t3 : (x.f0 == 1) = false := by simpa using e3
     clear e1 e2 e3
     go_wp2_with fail
     clear hk0 hk1 hk2 hk3 hk4
     have n_HB := Aside0.mk (below_drew1 HB.out)
     have n_BK2 := Aside0.mk (blk_drew BK2.out)
     have n_BK4 := Aside0.mk (blk_drew BK4.out)
     have n_BK8 := Aside0.mk (blk_drew BK8.out)
     have n_BK7 := Aside0.mk (blk_drew BK7.out)
     clear HB BK2 BK4 BK8 BK7
     have HB := n_HB
     clear n_HB
     have BK2 := n_BK2
     clear n_BK2
     have BK4 := n_BK4
     clear n_BK4
     have BK8 := n_BK8
     clear n_BK8
     have BK7 := n_BK7
     clear n_BK7
     have hs0 := QI.out
     have ht0 := (i64_w _).trans QI.out
     refine start_ (n := 10) (S := fun w' => w'.cell? ⟨g8, 1, none⟩ = some (.int .i64 ia) ∧ w'.cell? ⟨g7, 2, none⟩ = some (.int .i64 x.f2)) (ds := [9]) #[false, false, false, false, false, false, false, false, false, false] (by kernel_rfl) rfl rfl ⟨(blk_cell BK8.out 1).trans rfl, (blk_cell BK7.out 2).trans rfl⟩ (fun hHeld => ?_)
     generalize z1.drew = z2 at HB BK2 BK4 BK8 BK7 hHeld ⊢
     refine pure_ (i := 0) (N := some 118) (v := ?_) (a' := ?_) #[true, false, false, false, false, false, false, false, false, false] rfl rfl (by kernel_rfl) (fun c_ a_ w_ h => hpan c_ (Act.put a_ _ _) a_ w_ (by rfl) h) (Or.inl ⟨by rfl, ?_⟩) ?_ ?_
     rotate_left
     ·
      intro w'
      go_simp
      with_reducible rfl
     rotate_left
     ·
      simp only [Act.put, List.setIfInBounds_toArray, List.set_cons_zero, List.set_cons_succ, i64_w, i32_w]
      rfl
     refine pure_ (i := 1) (N := some 119) (v := ?_) (a' := ?_) #[true, true, false, false, false, false, false, false, false, false] rfl rfl (by kernel_rfl) (fun c_ a_ w_ h => hpan c_ (Act.put a_ _ _) a_ w_ (by rfl) h) (Or.inl ⟨by rfl, ?_⟩) ?_ ?_
     rotate_left
     ·
      intro w'
      go_simp
      with_reducible rfl
     rotate_left
     ·
      simp only [Act.put, List.setIfInBounds_toArray, List.set_cons_zero, List.set_cons_succ, i64_w, i32_w]
      rfl
     refine pure_ (i := 2) (N := some 120) (v := ?_) (a' := ?_) #[true, true, true, false, false, false, false, false, false, false] rfl rfl (by kernel_rfl) (fun c_ a_ w_ h => hpan c_ (Act.put a_ _ _) a_ w_ (by rfl) h) (Or.inl ⟨by rfl, ?_⟩) ?_ ?_
     rotate_left
     ·
      intro w'
      go_simp
      with_reducible rfl
     rotate_left
     ·
      simp only [Act.put, List.setIfInBounds_toArray, List.set_cons_zero, List.set_cons_succ, i64_w, i32_w]
      rfl
     refine pure_ (i := 4) (N := some 122) (v := ?_) (a' := ?_) #[true, true, true, false, true, false, false, false, false, false] rfl rfl (by kernel_rfl) (fun c_ a_ w_ h => hpan c_ (Act.put a_ _ _) a_ w_ (by rfl) h) (Or.inl ⟨by rfl, ?_⟩) ?_ ?_
     rotate_left
     ·
      intro w'
      go_simp
      with_reducible rfl
     rotate_left
     ·
      simp only [Act.put, List.setIfInBounds_toArray, List.set_cons_zero, List.set_cons_succ, i64_w, i32_w]
      rfl
     refine take_ (i := 3) (N := some 121) (v := ?_) (a' := ?_) #[true, true, true, true, true, false, false, false, false, false] rfl rfl (by kernel_rfl) (fun c_ a_ w_ h => hpan c_ (Act.put a_ _ _) a_ w_ (by rfl) h) (Or.inl ⟨by rfl, ?_⟩) hHeld ?_ ?_
     rotate_left
     ·
      rintro w' ⟨s0, s1⟩
      go_simp
      with_reducible rfl
     rotate_left
     ·
      simp only [Act.put, List.setIfInBounds_toArray, List.set_cons_zero, List.set_cons_succ, i64_w, i32_w]
      rfl
     refine take_ (i := 5) (N := some 123) (v := ?_) (a' := ?_) #[true, true, true, true, true, true, false, false, false, false] rfl rfl (by kernel_rfl) (fun c_ a_ w_ h => hpan c_ (Act.put a_ _ _) a_ w_ (by rfl) h) (Or.inl ⟨by rfl, ?_⟩) hHeld ?_ ?_
     rotate_left
     ·
      rintro w' ⟨s0, s1⟩
      go_simp
      with_reducible rfl
     rotate_left
     ·
      simp only [Act.put, List.setIfInBounds_toArray, List.set_cons_zero, List.set_cons_succ, i64_w, i32_w]
      rfl
     refine pure_ (i := 6) (N := some 124) (v := ?_) (a' := ?_) #[true, true, true, true, true, true, true, false, false, false] rfl rfl (by kernel_rfl) (fun c_ a_ w_ h => hpan c_ (Act.put a_ _ _) a_ w_ (by rfl) h) (Or.inl ⟨by rfl, ?_⟩) ?_ ?_
     rotate_left
     ·
      intro w'
      go_simp
      with_reducible rfl
     rotate_left
     ·
      simp only [Act.put, List.setIfInBounds_toArray, List.set_cons_zero, List.set_cons_succ, i64_w, i32_w]
      rfl
     refine pure_ (i := 7) (N := some 125) (v := ?_) (a' := ?_) #[true, true, true, true, true, true, true, true, false, false] rfl rfl (by kernel_rfl) (fun c_ a_ w_ h => hpan c_ (Act.put a_ _ _) a_ w_ (by rfl) h) (Or.inl ⟨by rfl, ?_⟩) ?_ ?_
     rotate_left
     ·
      intro w'
      go_simp
      with_reducible rfl
     rotate_left
     ·
      simp only [Act.put, List.setIfInBounds_toArray, List.set_cons_zero, List.set_cons_succ, i64_w, i32_w]
      rfl
     refine pure_ (i := 8) (N := some 126) (v := ?_) (a' := ?_) #[true, true, true, true, true, true, true, true, true, false] rfl rfl (by kernel_rfl) (fun c_ a_ w_ h => hpan c_ (Act.put a_ _ _) a_ w_ (by rfl) h) (Or.inl ⟨by rfl, ?_⟩) ?_ ?_
     rotate_left
     ·
      intro w'
      go_simp
      with_reducible rfl
     rotate_left
     ·
      simp only [Act.put, List.setIfInBounds_toArray, List.set_cons_zero, List.set_cons_succ, i64_w, i32_w]
      rfl
     refine last_ (i := 9) (N := none) #[true, true, true, true, true, true, true, true, true, true] rfl rfl (by kernel_rfl) (by decide) (fun K hK => ?_)
     have kf := blk_frozen BK8.out 1
     have kc := hHeld.1
     refine skip_ (w1 := ?_) (by rfl) rfl ?_ ?_
     rotate_left
     ·
      go_simp
      rfl
     refine hK.out _ _ ?_
     clear hK K
     refine done_ (by kernel_rfl) ?_
     clear hHeld kf kc hs0 ht0
     have n_HB := Aside0.mk (HB.out.setCell (p := ⟨g8, 1, none⟩) (show w.heap.size ≤ g8 by omega) (.int .i64 vi))
     have n_BK2 := Aside0.mk ((Below.heap_setCell z2 ⟨g8, 1, none⟩ (.int .i64 vi) w.heap.size (show w.heap.size ≠ g8 by omega)).trans BK2.out)
     have n_BK4 := Aside0.mk ((Below.heap_setCell z2 ⟨g8, 1, none⟩ (.int .i64 vi) g4 (show g4 ≠ g8 by omega)).trans BK4.out)
     have n_BK7 := Aside0.mk ((Below.heap_setCell z2 ⟨g8, 1, none⟩ (.int .i64 vi) g7 (show g7 ≠ g8 by omega)).trans BK7.out)
     have n_BK8 := Aside0.mk (blk_put BK8.out 1 (.int .i64 vi) (show (row18 _ _ _).setIfInBounds 1 _ = row18 ⟨o0, vi, ua, na, wa, 0⟩ ra rb from rfl))
     clear HB BK8 BK2 BK4 BK7
     generalize z2.setCell ⟨g8, 1, none⟩ (.int .i64 vi) = z3 at n_HB n_BK8 n_BK2 n_BK4 n_BK7 ⊢
     have HB := n_HB
     clear n_HB
     have BK8 := n_BK8
     clear n_BK8
     have BK2 := n_BK2
     clear n_BK2
     have BK4 := n_BK4
     clear n_BK4
     have BK7 := n_BK7
     clear n_BK7
     have hk0 : z3.cell? ⟨g7, 0, none⟩ = some (.int .i64 x.f0) := blk_cell BK7.out 0
     have hk1 : z3.cell? ⟨g7, 1, none⟩ = some (.int .i64 x.f1) := blk_cell BK7.out 1
     have hk2 : z3.cell? ⟨g7, 2, none⟩ = some (.int .i64 x.f2) := blk_cell BK7.out 2
     have hk3 : z3.cell? ⟨g7, 3, none⟩ = some (.int .i64 x.f3) := blk_cell BK7.out 3
     have hk4 : z3.cell? ⟨g7, 4, none⟩ = some (.int .i64 x.f4) := blk_cell BK7.out 4
     go_wp2_with fail
     clear hk0 hk1 hk2 hk3 hk4
     have n_HB := Aside0.mk (below_drew1 HB.out)
     have n_BK2 := Aside0.mk (blk_drew BK2.out)
     have n_BK4 := Aside0.mk (blk_drew BK4.out)
     have n_BK8 := Aside0.mk (blk_drew BK8.out)
     have n_BK7 := Aside0.mk (blk_drew BK7.out)
     clear HB BK2 BK4 BK8 BK7
     have HB := n_HB
     clear n_HB
     have BK2 := n_BK2
     clear n_BK2
     have BK4 := n_BK4
     clear n_BK4
     have BK8 := n_BK8
     clear n_BK8
     have BK7 := n_BK7
     clear n_BK7
     have hs0 := QD1.out
     have ht0 := (i64_w _).trans QD1.out
     have hs1 := QD2.out
     have ht1 := (i64_w _).trans QD2.out
     have hs2 := QN.out
     have ht2 := (i64_w _).trans QN.out
     refine start_ (n := 16) (S := fun w' => w'.cell? ⟨g8, 3, none⟩ = some (.int .i64 na) ∧ w'.cell? ⟨g7, 2, none⟩ = some (.int .i64 x.f2) ∧ w'.cell? ⟨g7, 3, none⟩ = some (.int .i64 x.f3) ∧ w'.cell? ⟨g7, 4, none⟩ = some (.int .i64 x.f4)) (ds := [15]) #[false, false, false, false, false, false, false, false, false, false, false, false, false, false, false, false] (by kernel_rfl) rfl rfl ⟨(blk_cell BK8.out 3).trans rfl, (blk_cell BK7.out 2).trans rfl, (blk_cell BK7.out 3).trans rfl, (blk_cell BK7.out 4).trans rfl⟩ (fun hHeld => ?_)
     generalize z3.drew = z4 at HB BK2 BK4 BK8 BK7 hHeld ⊢
     refine pure_ (i := 0) (N := some 132) (v := ?_) (a' := ?_) #[true, false, false, false, false, false, false, false, false, false, false, false, false, false, false, false] rfl rfl (by kernel_rfl) (fun c_ a_ w_ h => hpan c_ (Act.put a_ _ _) a_ w_ (by rfl) h) (Or.inl ⟨by rfl, ?_⟩) ?_ ?_
     rotate_left
     ·
      intro w'
      go_simp
      with_reducible rfl
     rotate_left
     ·
      simp only [Act.put, List.setIfInBounds_toArray, List.set_cons_zero, List.set_cons_succ, i64_w, i32_w]
      rfl
     refine pure_ (i := 1) (N := some 133) (v := ?_) (a' := ?_) #[true, true, false, false, false, false, false, false, false, false, false, false, false, false, false, false] rfl rfl (by kernel_rfl) (fun c_ a_ w_ h => hpan c_ (Act.put a_ _ _) a_ w_ (by rfl) h) (Or.inl ⟨by rfl, ?_⟩) ?_ ?_
     rotate_left
     ·
      intro w'
      go_simp
      with_reducible rfl
     rotate_left
     ·
      simp only [Act.put, List.setIfInBounds_toArray, List.set_cons_zero, List.set_cons_succ, i64_w, i32_w]
      rfl
     refine pure_ (i := 2) (N := some 134) (v := ?_) (a' := ?_) #[true, true, true, false, false, false, false, false, false, false, false, false, false, false, false, false] rfl rfl (by kernel_rfl) (fun c_ a_ w_ h => hpan c_ (Act.put a_ _ _) a_ w_ (by rfl) h) (Or.inl ⟨by rfl, ?_⟩) ?_ ?_
     rotate_left
     ·
      intro w'
      go_simp
      with_reducible rfl
     rotate_left
     ·
      simp only [Act.put, List.setIfInBounds_toArray, List.set_cons_zero, List.set_cons_succ, i64_w, i32_w]
      rfl
     refine pure_ (i := 4) (N := some 136) (v := ?_) (a' := ?_) #[true, true, true, false, true, false, false, false, false, false, false, false, false, false, false, false] rfl rfl (by kernel_rfl) (fun c_ a_ w_ h => hpan c_ (Act.put a_ _ _) a_ w_ (by rfl) h) (Or.inl ⟨by rfl, ?_⟩) ?_ ?_
     rotate_left
     ·
      intro w'
      go_simp
      with_reducible rfl
     rotate_left
     ·
      simp only [Act.put, List.setIfInBounds_toArray, List.set_cons_zero, List.set_cons_succ, i64_w, i32_w]
      rfl
     refine pure_ (i := 6) (N := some 138) (v := ?_) (a' := ?_) #[true, true, true, false, true, false, true, false, false, false, false, false, false, false, false, false] rfl rfl (by kernel_rfl) (fun c_ a_ w_ h => hpan c_ (Act.put a_ _ _) a_ w_ (by rfl) h) (Or.inl ⟨by rfl, ?_⟩) ?_ ?_
     rotate_left
     ·
      intro w'
      go_simp
      with_reducible rfl
     rotate_left
     ·
      simp only [Act.put, List.setIfInBounds_toArray, List.set_cons_zero, List.set_cons_succ, i64_w, i32_w]
      rfl
     refine pure_ (i := 9) (N := some 141) (v := ?_) (a' := ?_) #[true, true, true, false, true, false, true, false, false, true, false, false, false, false, false, false] rfl rfl (by kernel_rfl) (fun c_ a_ w_ h => hpan c_ (Act.put a_ _ _) a_ w_ (by rfl) h) (Or.inl ⟨by rfl, ?_⟩) ?_ ?_
     rotate_left
     ·
      intro w'
      go_simp
      with_reducible rfl
     rotate_left
     ·
      simp only [Act.put, List.setIfInBounds_toArray, List.set_cons_zero, List.set_cons_succ, i64_w, i32_w]
      rfl
     refine take_ (i := 3) (N := some 135) (v := ?_) (a' := ?_) #[true, true, true, true, true, false, true, false, false, true, false, false, false, false, false, false] rfl rfl (by kernel_rfl) (fun c_ a_ w_ h => hpan c_ (Act.put a_ _ _) a_ w_ (by rfl) h) (Or.inl ⟨by rfl, ?_⟩) hHeld ?_ ?_
     rotate_left
     ·
      rintro w' ⟨s0, s1, s2, s3⟩
      go_simp
      with_reducible rfl
     rotate_left
     ·
      simp only [Act.put, List.setIfInBounds_toArray, List.set_cons_zero, List.set_cons_succ, i64_w, i32_w]
      rfl
     refine take_ (i := 5) (N := some 137) (v := ?_) (a' := ?_) #[true, true, true, true, true, true, true, false, false, true, false, false, false, false, false, false] rfl rfl (by kernel_rfl) (fun c_ a_ w_ h => hpan c_ (Act.put a_ _ _) a_ w_ (by rfl) h) (Or.inl ⟨by rfl, ?_⟩) hHeld ?_ ?_
     rotate_left
     ·
      rintro w' ⟨s0, s1, s2, s3⟩
      go_simp
      with_reducible rfl
     rotate_left
     ·
      simp only [Act.put, List.setIfInBounds_toArray, List.set_cons_zero, List.set_cons_succ, i64_w, i32_w]
      rfl
     refine take_ (i := 7) (N := some 139) (v := ?_) (a' := ?_) #[true, true, true, true, true, true, true, true, false, true, false, false, false, false, false, false] rfl rfl (by kernel_rfl) (fun c_ a_ w_ h => hpan c_ (Act.put a_ _ _) a_ w_ (by rfl) h) (Or.inl ⟨by rfl, ?_⟩) hHeld ?_ ?_
     rotate_left
     ·
      rintro w' ⟨s0, s1, s2, s3⟩
      go_simp
      with_reducible rfl
     rotate_left
     ·
      simp only [Act.put, List.setIfInBounds_toArray, List.set_cons_zero, List.set_cons_succ, i64_w, i32_w]
      rfl
     refine pure_ (i := 8) (N := some 140) (v := ?_) (a' := ?_) #[true, true, true, true, true, true, true, true, true, true, false, false, false, false, false, false] rfl rfl (by kernel_rfl) (fun c_ a_ w_ h => hpan c_ (Act.put a_ _ _) a_ w_ (by rfl) h) (Or.inl ⟨by rfl, ?_⟩) ?_ ?_
     rotate_left
     ·
      intro w'
      go_simp
      with_reducible rfl
     rotate_left
     ·
      simp only [Act.put, List.setIfInBounds_toArray, List.set_cons_zero, List.set_cons_succ, i64_w, i32_w]
      rfl
     refine take_ (i := 10) (N := some 142) (v := ?_) (a' := ?_) #[true, true, true, true, true, true, true, true, true, true, true, false, false, false, false, false] rfl rfl (by kernel_rfl) (fun c_ a_ w_ h => hpan c_ (Act.put a_ _ _) a_ w_ (by rfl) h) (Or.inl ⟨by rfl, ?_⟩) hHeld ?_ ?_
     rotate_left
     ·
      rintro w' ⟨s0, s1, s2, s3⟩
      go_simp
      with_reducible rfl
     rotate_left
     ·
      simp only [Act.put, List.setIfInBounds_toArray, List.set_cons_zero, List.set_cons_succ, i64_w, i32_w]
      rfl
     refine pure_ (i := 11) (N := some 143) (v := ?_) (a' := ?_) #[true, true, true, true, true, true, true, true, true, true, true, true, false, false, false, false] rfl rfl (by kernel_rfl) (fun c_ a_ w_ h => hpan c_ (Act.put a_ _ _) a_ w_ (by rfl) h) (Or.inl ⟨by rfl, ?_⟩) ?_ ?_
     rotate_left
     ·
      intro w'
      go_simp
      with_reducible rfl
     rotate_left
     ·
      simp only [Act.put, List.setIfInBounds_toArray, List.set_cons_zero, List.set_cons_succ, i64_w, i32_w]
      rfl
     refine pure_ (i := 12) (N := some 144) (v := ?_) (a' := ?_) #[true, true, true, true, true, true, true, true, true, true, true, true, true, false, false, false] rfl rfl (by kernel_rfl) (fun c_ a_ w_ h => hpan c_ (Act.put a_ _ _) a_ w_ (by rfl) h) (Or.inl ⟨by rfl, ?_⟩) ?_ ?_
     rotate_left
     ·
      intro w'
      go_simp
      with_reducible rfl
     rotate_left
     ·
      simp only [Act.put, List.setIfInBounds_toArray, List.set_cons_zero, List.set_cons_succ, i64_w, i32_w]
      rfl
     refine pure_ (i := 13) (N := some 145) (v := ?_) (a' := ?_) #[true, true, true, true, true, true, true, true, true, true, true, true, true, true, false, false] rfl rfl (by kernel_rfl) (fun c_ a_ w_ h => hpan c_ (Act.put a_ _ _) a_ w_ (by rfl) h) (Or.inl ⟨by rfl, ?_⟩) ?_ ?_
     rotate_left
     ·
      intro w'
      go_simp
      with_reducible rfl
     rotate_left
     ·
      simp only [Act.put, List.setIfInBounds_toArray, List.set_cons_zero, List.set_cons_succ, i64_w, i32_w]
      rfl
     refine pure_ (i := 14) (N := some 146) (v := ?_) (a' := ?_) #[true, true, true, true, true, true, true, true, true, true, true, true, true, true, true, false] rfl rfl (by kernel_rfl) (fun c_ a_ w_ h => hpan c_ (Act.put a_ _ _) a_ w_ (by rfl) h) (Or.inl ⟨by rfl, ?_⟩) ?_ ?_
     rotate_left
     ·
      intro w'
      go_simp
      with_reducible rfl
     rotate_left
     ·
      simp only [Act.put, List.setIfInBounds_toArray, List.set_cons_zero, List.set_cons_succ, i64_w, i32_w]
      rfl
     refine last_ (i := 15) (N := none) #[true, true, true, true, true, true, true, true, true, true, true, true, true, true, true, true] rfl rfl (by kernel_rfl) (by decide) (fun K hK => ?_)
     have kf := blk_frozen BK8.out 3
     have kc := hHeld.1
     refine skip_ (w1 := ?_) (by rfl) rfl ?_ ?_
     rotate_left
     ·
      go_simp
      rfl
     refine hK.out _ _ ?_
     clear hK K
     refine done_ (by kernel_rfl) ?_
     clear hHeld kf kc hs0 ht0 hs1 ht1 hs2 ht2
     have n_HB := Aside0.mk (HB.out.setCell (p := ⟨g8, 3, none⟩) (show w.heap.size ≤ g8 by omega) (.int .i64 vn))
     have n_BK2 := Aside0.mk ((Below.heap_setCell z4 ⟨g8, 3, none⟩ (.int .i64 vn) w.heap.size (show w.heap.size ≠ g8 by omega)).trans BK2.out)
     have n_BK4 := Aside0.mk ((Below.heap_setCell z4 ⟨g8, 3, none⟩ (.int .i64 vn) g4 (show g4 ≠ g8 by omega)).trans BK4.out)
     have n_BK7 := Aside0.mk ((Below.heap_setCell z4 ⟨g8, 3, none⟩ (.int .i64 vn) g7 (show g7 ≠ g8 by omega)).trans BK7.out)
     have n_BK8 := Aside0.mk (blk_put BK8.out 3 (.int .i64 vn) (show (row18 _ _ _).setIfInBounds 3 _ = row18 ⟨o0, vi, ua, vn, wa, 0⟩ ra rb from rfl))
     clear HB BK8 BK2 BK4 BK7
     generalize z4.setCell ⟨g8, 3, none⟩ (.int .i64 vn) = z5 at n_HB n_BK8 n_BK2 n_BK4 n_BK7 ⊢
     have HB := n_HB
     clear n_HB
     have BK8 := n_BK8
     clear n_BK8
     have BK2 := n_BK2
     clear n_BK2
     have BK4 := n_BK4
     clear n_BK4
     have BK7 := n_BK7
     clear n_BK7
     have hk0 : z5.cell? ⟨g7, 0, none⟩ = some (.int .i64 x.f0) := blk_cell BK7.out 0
     have hk1 : z5.cell? ⟨g7, 1, none⟩ = some (.int .i64 x.f1) := blk_cell BK7.out 1
     have hk2 : z5.cell? ⟨g7, 2, none⟩ = some (.int .i64 x.f2) := blk_cell BK7.out 2
     have hk3 : z5.cell? ⟨g7, 3, none⟩ = some (.int .i64 x.f3) := blk_cell BK7.out 3
     have hk4 : z5.cell? ⟨g7, 4, none⟩ = some (.int .i64 x.f4) := blk_cell BK7.out 4
     go_wp2_with fail
     clear hk0 hk1 hk2 hk3 hk4
     have n_HB := Aside0.mk (below_drew1 HB.out)
     have n_BK2 := Aside0.mk (blk_drew BK2.out)
     have n_BK4 := Aside0.mk (blk_drew BK4.out)
     have n_BK8 := Aside0.mk (blk_drew BK8.out)
     have n_BK7 := Aside0.mk (blk_drew BK7.out)
     clear HB BK2 BK4 BK8 BK7
     have HB := n_HB
     clear n_HB
     have BK2 := n_BK2
     clear n_BK2
     have BK4 := n_BK4
     clear n_BK4
     have BK8 := n_BK8
     clear n_BK8
     have BK7 := n_BK7
     clear n_BK7
     have hs0 := QW.out
     have ht0 := (i64_w _).trans QW.out
     refine start_ (n := 10) (S := fun w' => w'.cell? ⟨g8, 4, none⟩ = some (.int .i64 wa) ∧ w'.cell? ⟨g7, 4, none⟩ = some (.int .i64 x.f4)) (ds := [9]) #[false, false, false, false, false, false, false, false, false, false] (by kernel_rfl) rfl rfl ⟨(blk_cell BK8.out 4).trans rfl, (blk_cell BK7.out 4).trans rfl⟩ (fun hHeld => ?_)
     generalize z5.drew = z6 at HB BK2 BK4 BK8 BK7 hHeld ⊢
     refine pure_ (i := 0) (N := some 147) (v := ?_) (a' := ?_) #[true, false, false, false, false, false, false, false, false, false] rfl rfl (by kernel_rfl) (fun c_ a_ w_ h => hpan c_ (Act.put a_ _ _) a_ w_ (by rfl) h) (Or.inl ⟨by rfl, ?_⟩) ?_ ?_
     rotate_left
     ·
      intro w'
      go_simp
      with_reducible rfl
     rotate_left
     ·
      simp only [Act.put, List.setIfInBounds_toArray, List.set_cons_zero, List.set_cons_succ, i64_w, i32_w]
      rfl
     refine pure_ (i := 1) (N := some 148) (v := ?_) (a' := ?_) #[true, true, false, false, false, false, false, false, false, false] rfl rfl (by kernel_rfl) (fun c_ a_ w_ h => hpan c_ (Act.put a_ _ _) a_ w_ (by rfl) h) (Or.inl ⟨by rfl, ?_⟩) ?_ ?_
     rotate_left
     ·
      intro w'
      go_simp
      with_reducible rfl
     rotate_left
     ·
      simp only [Act.put, List.setIfInBounds_toArray, List.set_cons_zero, List.set_cons_succ, i64_w, i32_w]
      rfl
     refine pure_ (i := 2) (N := some 149) (v := ?_) (a' := ?_) #[true, true, true, false, false, false, false, false, false, false] rfl rfl (by kernel_rfl) (fun c_ a_ w_ h => hpan c_ (Act.put a_ _ _) a_ w_ (by rfl) h) (Or.inl ⟨by rfl, ?_⟩) ?_ ?_
     rotate_left
     ·
      intro w'
      go_simp
      with_reducible rfl
     rotate_left
     ·
      simp only [Act.put, List.setIfInBounds_toArray, List.set_cons_zero, List.set_cons_succ, i64_w, i32_w]
      rfl
     refine pure_ (i := 4) (N := some 151) (v := ?_) (a' := ?_) #[true, true, true, false, true, false, false, false, false, false] rfl rfl (by kernel_rfl) (fun c_ a_ w_ h => hpan c_ (Act.put a_ _ _) a_ w_ (by rfl) h) (Or.inl ⟨by rfl, ?_⟩) ?_ ?_
     rotate_left
     ·
      intro w'
      go_simp
      with_reducible rfl
     rotate_left
     ·
      simp only [Act.put, List.setIfInBounds_toArray, List.set_cons_zero, List.set_cons_succ, i64_w, i32_w]
      rfl
     refine take_ (i := 3) (N := some 150) (v := ?_) (a' := ?_) #[true, true, true, true, true, false, false, false, false, false] rfl rfl (by kernel_rfl) (fun c_ a_ w_ h => hpan c_ (Act.put a_ _ _) a_ w_ (by rfl) h) (Or.inl ⟨by rfl, ?_⟩) hHeld ?_ ?_
     rotate_left
     ·
      rintro w' ⟨s0, s1⟩
      go_simp
      with_reducible rfl
     rotate_left
     ·
      simp only [Act.put, List.setIfInBounds_toArray, List.set_cons_zero, List.set_cons_succ, i64_w, i32_w]
      rfl
     refine take_ (i := 5) (N := some 152) (v := ?_) (a' := ?_) #[true, true, true, true, true, true, false, false, false, false] rfl rfl (by kernel_rfl) (fun c_ a_ w_ h => hpan c_ (Act.put a_ _ _) a_ w_ (by rfl) h) (Or.inl ⟨by rfl, ?_⟩) hHeld ?_ ?_
     rotate_left
     ·
      rintro w' ⟨s0, s1⟩
      go_simp
      with_reducible rfl
     rotate_left
     ·
      simp only [Act.put, List.setIfInBounds_toArray, List.set_cons_zero, List.set_cons_succ, i64_w, i32_w]
      rfl
     refine pure_ (i := 6) (N := some 153) (v := ?_) (a' := ?_) #[true, true, true, true, true, true, true, false, false, false] rfl rfl (by kernel_rfl) (fun c_ a_ w_ h => hpan c_ (Act.put a_ _ _) a_ w_ (by rfl) h) (Or.inl ⟨by rfl, ?_⟩) ?_ ?_
     rotate_left
     ·
      intro w'
      go_simp
      with_reducible rfl
     rotate_left
     ·
      simp only [Act.put, List.setIfInBounds_toArray, List.set_cons_zero, List.set_cons_succ, i64_w, i32_w]
      rfl
     refine pure_ (i := 7) (N := some 154) (v := ?_) (a' := ?_) #[true, true, true, true, true, true, true, true, false, false] rfl rfl (by kernel_rfl) (fun c_ a_ w_ h => hpan c_ (Act.put a_ _ _) a_ w_ (by rfl) h) (Or.inl ⟨by rfl, ?_⟩) ?_ ?_
     rotate_left
     ·
      intro w'
      go_simp
      with_reducible rfl
     rotate_left
     ·
      simp only [Act.put, List.setIfInBounds_toArray, List.set_cons_zero, List.set_cons_succ, i64_w, i32_w]
      rfl
     refine pure_ (i := 8) (N := some 155) (v := ?_) (a' := ?_) #[true, true, true, true, true, true, true, true, true, false] rfl rfl (by kernel_rfl) (fun c_ a_ w_ h => hpan c_ (Act.put a_ _ _) a_ w_ (by rfl) h) (Or.inl ⟨by rfl, ?_⟩) ?_ ?_
     rotate_left
     ·
      intro w'
      go_simp
      with_reducible rfl
     rotate_left
     ·
      simp only [Act.put, List.setIfInBounds_toArray, List.set_cons_zero, List.set_cons_succ, i64_w, i32_w]
      rfl
     refine last_ (i := 9) (N := none) #[true, true, true, true, true, true, true, true, true, true] rfl rfl (by kernel_rfl) (by decide) (fun K hK => ?_)
     have kf := blk_frozen BK8.out 4
     have kc := hHeld.1
     refine skip_ (w1 := ?_) (by rfl) rfl ?_ ?_
     rotate_left
     ·
      go_simp
      rfl
     refine hK.out _ _ ?_
     clear hK K
     refine done_ (by kernel_rfl) ?_
     clear hHeld kf kc hs0 ht0
     have n_HB := Aside0.mk (HB.out.setCell (p := ⟨g8, 4, none⟩) (show w.heap.size ≤ g8 by omega) (.int .i64 vw))
     have n_BK2 := Aside0.mk ((Below.heap_setCell z6 ⟨g8, 4, none⟩ (.int .i64 vw) w.heap.size (show w.heap.size ≠ g8 by omega)).trans BK2.out)
     have n_BK4 := Aside0.mk ((Below.heap_setCell z6 ⟨g8, 4, none⟩ (.int .i64 vw) g4 (show g4 ≠ g8 by omega)).trans BK4.out)
     have n_BK7 := Aside0.mk ((Below.heap_setCell z6 ⟨g8, 4, none⟩ (.int .i64 vw) g7 (show g7 ≠ g8 by omega)).trans BK7.out)
     have n_BK8 := Aside0.mk (blk_put BK8.out 4 (.int .i64 vw) (show (row18 _ _ _).setIfInBounds 4 _ = row18 ⟨o0, vi, ua, vn, vw, 0⟩ ra rb from rfl))
     clear HB BK8 BK2 BK4 BK7
     generalize z6.setCell ⟨g8, 4, none⟩ (.int .i64 vw) = z7 at n_HB n_BK8 n_BK2 n_BK4 n_BK7 ⊢
     have HB := n_HB
     clear n_HB
     have BK8 := n_BK8
     clear n_BK8
     have BK2 := n_BK2
     clear n_BK2
     have BK4 := n_BK4
     clear n_BK4
     have BK7 := n_BK7
     clear n_BK7
     have hk0 : z7.cell? ⟨g7, 0, none⟩ = some (.int .i64 x.f0) := blk_cell BK7.out 0
     have hk1 : z7.cell? ⟨g7, 1, none⟩ = some (.int .i64 x.f1) := blk_cell BK7.out 1
     have hk2 : z7.cell? ⟨g7, 2, none⟩ = some (.int .i64 x.f2) := blk_cell BK7.out 2
     have hk3 : z7.cell? ⟨g7, 3, none⟩ = some (.int .i64 x.f3) := blk_cell BK7.out 3
     have hk4 : z7.cell? ⟨g7, 4, none⟩ = some (.int .i64 x.f4) := blk_cell BK7.out 4
     go_wp2_with fail
     go_roundw
     case measure => simp [intOf]; omega
     case rel =>
      refine ⟨k + 1, by omega, by go_num, BK2, BK4, ⟨?_⟩, HB⟩
      rw [HT.out, lombardref16_Roll.wayD HP.out E1.out E2.out]
      rw [← HVI.out, ← HVN.out, ← HVW.out]; exact BK8.out
    ·
     have E1 := Aside0.mk e1
     have E2 := Aside0.mk e2
     rcases HE3 with e3 | e3
     ·
      have E3 := Aside0.mk e3
      have t1 : (x.f0 != x.f1) = true := by simpa using e1
      have t2 : (x.f1 == 1) = false := by simpa using e2
      have t3 : (x.f0 == 1) = true := by simpa using e3
      clear e1 e2 e3
      go_wp2_with fail
      clear hk0 hk1 hk2 hk3 hk4
      have n_HB := Aside0.mk (below_drew1 HB.out)
      have n_BK2 := Aside0.mk (blk_drew BK2.out)
      have n_BK4 := Aside0.mk (blk_drew BK4.out)
      have n_BK8 := Aside0.mk (blk_drew BK8.out)
      have n_BK7 := Aside0.mk (blk_drew BK7.out)
      clear HB BK2 BK4 BK8 BK7
      have HB := n_HB
      clear n_HB
      have BK2 := n_BK2
      clear n_BK2
      have BK4 := n_BK4
      clear n_BK4
      have BK8 := n_BK8
      clear n_BK8
      have BK7 := n_BK7
      clear n_BK7
      have hs0 := QU.out
      have ht0 := (i64_w _).trans QU.out
      refine start_ (n := 10) (S := fun w' => w'.cell? ⟨g8, 2, none⟩ = some (.int .i64 ua) ∧ w'.cell? ⟨g7, 2, none⟩ = some (.int .i64 x.f2)) (ds := [9]) #[false, false, false, false, false, false, false, false, false, false] (by kernel_rfl) rfl rfl ⟨(blk_cell BK8.out 2).trans rfl, (blk_cell BK7.out 2).trans rfl⟩ (fun hHeld => ?_)
      generalize z1.drew = z2 at HB BK2 BK4 BK8 BK7 hHeld ⊢
      refine pure_ (i := 0) (N := some 97) (v := ?_) (a' := ?_) #[true, false, false, false, false, false, false, false, false, false] rfl rfl (by kernel_rfl) (fun c_ a_ w_ h => hpan c_ (Act.put a_ _ _) a_ w_ (by rfl) h) (Or.inl ⟨by rfl, ?_⟩) ?_ ?_
      rotate_left
      ·
       intro w'
       go_simp
       with_reducible rfl
      rotate_left
      ·
       simp only [Act.put, List.setIfInBounds_toArray, List.set_cons_zero, List.set_cons_succ, i64_w, i32_w]
       rfl
      refine pure_ (i := 1) (N := some 98) (v := ?_) (a' := ?_) #[true, true, false, false, false, false, false, false, false, false] rfl rfl (by kernel_rfl) (fun c_ a_ w_ h => hpan c_ (Act.put a_ _ _) a_ w_ (by rfl) h) (Or.inl ⟨by rfl, ?_⟩) ?_ ?_
      rotate_left
      ·
       intro w'
       go_simp
       with_reducible rfl
      rotate_left
      ·
       simp only [Act.put, List.setIfInBounds_toArray, List.set_cons_zero, List.set_cons_succ, i64_w, i32_w]
       rfl
      refine pure_ (i := 2) (N := some 99) (v := ?_) (a' := ?_) #[true, true, true, false, false, false, false, false, false, false] rfl rfl (by kernel_rfl) (fun c_ a_ w_ h => hpan c_ (Act.put a_ _ _) a_ w_ (by rfl) h) (Or.inl ⟨by rfl, ?_⟩) ?_ ?_
      rotate_left
      ·
       intro w'
       go_simp
       with_reducible rfl
      rotate_left
      ·
       simp only [Act.put, List.setIfInBounds_toArray, List.set_cons_zero, List.set_cons_succ, i64_w, i32_w]
       rfl
      refine pure_ (i := 4) (N := some 101) (v := ?_) (a' := ?_) #[true, true, true, false, true, false, false, false, false, false] rfl rfl (by kernel_rfl) (fun c_ a_ w_ h => hpan c_ (Act.put a_ _ _) a_ w_ (by rfl) h) (Or.inl ⟨by rfl, ?_⟩) ?_ ?_
      rotate_left
      ·
       intro w'
       go_simp
       with_reducible rfl
      rotate_left
      ·
       simp only [Act.put, List.setIfInBounds_toArray, List.set_cons_zero, List.set_cons_succ, i64_w, i32_w]
       rfl
      refine take_ (i := 3) (N := some 100) (v := ?_) (a' := ?_) #[true, true, true, true, true, false, false, false, false, false] rfl rfl (by kernel_rfl) (fun c_ a_ w_ h => hpan c_ (Act.put a_ _ _) a_ w_ (by rfl) h) (Or.inl ⟨by rfl, ?_⟩) hHeld ?_ ?_
      rotate_left
      ·
       rintro w' ⟨s0, s1⟩
       go_simp
       with_reducible rfl
      rotate_left
      ·
       simp only [Act.put, List.setIfInBounds_toArray, List.set_cons_zero, List.set_cons_succ, i64_w, i32_w]
       rfl
      refine take_ (i := 5) (N := some 102) (v := ?_) (a' := ?_) #[true, true, true, true, true, true, false, false, false, false] rfl rfl (by kernel_rfl) (fun c_ a_ w_ h => hpan c_ (Act.put a_ _ _) a_ w_ (by rfl) h) (Or.inl ⟨by rfl, ?_⟩) hHeld ?_ ?_
      rotate_left
      ·
       rintro w' ⟨s0, s1⟩
       go_simp
       with_reducible rfl
      rotate_left
      ·
       simp only [Act.put, List.setIfInBounds_toArray, List.set_cons_zero, List.set_cons_succ, i64_w, i32_w]
       rfl
      refine pure_ (i := 6) (N := some 103) (v := ?_) (a' := ?_) #[true, true, true, true, true, true, true, false, false, false] rfl rfl (by kernel_rfl) (fun c_ a_ w_ h => hpan c_ (Act.put a_ _ _) a_ w_ (by rfl) h) (Or.inl ⟨by rfl, ?_⟩) ?_ ?_
      rotate_left
      ·
       intro w'
       go_simp
       with_reducible rfl
      rotate_left
      ·
       simp only [Act.put, List.setIfInBounds_toArray, List.set_cons_zero, List.set_cons_succ, i64_w, i32_w]
       rfl
      refine pure_ (i := 7) (N := some 104) (v := ?_) (a' := ?_) #[true, true, true, true, true, true, true, true, false, false] rfl rfl (by kernel_rfl) (fun c_ a_ w_ h => hpan c_ (Act.put a_ _ _) a_ w_ (by rfl) h) (Or.inl ⟨by rfl, ?_⟩) ?_ ?_
      rotate_left
      ·
       intro w'
       go_simp
       with_reducible rfl
      rotate_left
      ·
       simp only [Act.put, List.setIfInBounds_toArray, List.set_cons_zero, List.set_cons_succ, i64_w, i32_w]
       rfl
      refine pure_ (i := 8) (N := some 105) (v := ?_) (a' := ?_) #[true, true, true, true, true, true, true, true, true, false] rfl rfl (by kernel_rfl) (fun c_ a_ w_ h => hpan c_ (Act.put a_ _ _) a_ w_ (by rfl) h) (Or.inl ⟨by rfl, ?_⟩) ?_ ?_
      rotate_left
      ·
       intro w'
       go_simp
       with_reducible rfl
      rotate_left
      ·
       simp only [Act.put, List.setIfInBounds_toArray, List.set_cons_zero, List.set_cons_succ, i64_w, i32_w]
       rfl
      refine last_ (i := 9) (N := none) #[true, true, true, true, true, true, true, true, true, true] rfl rfl (by kernel_rfl) (by decide) (fun K hK => ?_)
      have kf := blk_frozen BK8.out 2
      have kc := hHeld.1
      refine skip_ (w1 := ?_) (by rfl) rfl ?_ ?_
      rotate_left
      ·
       go_simp
       rfl
      refine hK.out _ _ ?_
      clear hK K
      refine done_ (by kernel_rfl) ?_
      clear hHeld kf kc hs0 ht0
      have n_HB := Aside0.mk (HB.out.setCell (p := ⟨g8, 2, none⟩) (show w.heap.size ≤ g8 by omega) (.int .i64 vu))
      have n_BK2 := Aside0.mk ((Below.heap_setCell z2 ⟨g8, 2, none⟩ (.int .i64 vu) w.heap.size (show w.heap.size ≠ g8 by omega)).trans BK2.out)
      have n_BK4 := Aside0.mk ((Below.heap_setCell z2 ⟨g8, 2, none⟩ (.int .i64 vu) g4 (show g4 ≠ g8 by omega)).trans BK4.out)
      have n_BK7 := Aside0.mk ((Below.heap_setCell z2 ⟨g8, 2, none⟩ (.int .i64 vu) g7 (show g7 ≠ g8 by omega)).trans BK7.out)
      have n_BK8 := Aside0.mk (blk_put BK8.out 2 (.int .i64 vu) (show (row18 _ _ _).setIfInBounds 2 _ = row18 ⟨o0, ia, vu, na, wa, 0⟩ ra rb from rfl))
      clear HB BK8 BK2 BK4 BK7
      generalize z2.setCell ⟨g8, 2, none⟩ (.int .i64 vu) = z3 at n_HB n_BK8 n_BK2 n_BK4 n_BK7 ⊢
      have HB := n_HB
      clear n_HB
      have BK8 := n_BK8
      clear n_BK8
      have BK2 := n_BK2
      clear n_BK2
      have BK4 := n_BK4
      clear n_BK4
      have BK7 := n_BK7
      clear n_BK7
      have hk0 : z3.cell? ⟨g7, 0, none⟩ = some (.int .i64 x.f0) := blk_cell BK7.out 0
      have hk1 : z3.cell? ⟨g7, 1, none⟩ = some (.int .i64 x.f1) := blk_cell BK7.out 1
      have hk2 : z3.cell? ⟨g7, 2, none⟩ = some (.int .i64 x.f2) := blk_cell BK7.out 2
      have hk3 : z3.cell? ⟨g7, 3, none⟩ = some (.int .i64 x.f3) := blk_cell BK7.out 3
      have hk4 : z3.cell? ⟨g7, 4, none⟩ = some (.int .i64 x.f4) := blk_cell BK7.out 4
      go_wp2_with fail
      go_roundw
      case measure => simp [intOf]; omega
      case rel =>
       refine ⟨k + 1, by omega, by go_num, BK2, BK4, ⟨?_⟩, HB⟩
       rw [HT.out, lombardref16_Roll.wayC HP.out E1.out E3.out]
       rw [← HVU.out]; exact BK8.out
     ·
      have E3 := Aside0.mk e3
      have t1 : (x.f0 != x.f1) = true := by simpa using e1
      have t2 : (x.f1 == 1) = false := by simpa using e2
      have t3 : (x.f0 == 1) = false := by simpa using e3
      clear e1 e2 e3
      go_wp2_with fail
      go_roundw
      case measure => simp [intOf]; omega
      case rel =>
       refine ⟨k + 1, by omega, by go_num, BK2, BK4, ⟨?_⟩, HB⟩
       rw [HT.out, lombardref16_Roll.wayB HP.out E2.out (Or.inr E3.out)]
       exact BK8.out
  case neg =>
   have hkl : k = l.length := by omega
   rw [hkl, List.take_of_length_le (Nat.le_refl _)] at HP
   rw [← HP.out] at BK8
   clear hk hlt
   subst hkl
   go_wp2_with fail
   exact ⟨BK2, BK4, BK8, HB⟩
set_option maxHeartbeats 16000000 in
set_option maxRecDepth 1000000 in
theorem lombardref16_Roll.inner1 {A : Option Addr} {c : Nat} {l : List S40} {o0 o1 o2 : Int} {w w0 : World} {g4 g8 : Nat} {ra rb : Row6} {Q0 : Exit → Act → World → Prop} {c0 c1 c2 c3 c4 c5 c6 c7 c9 c10 c12 c14 c15 c16 c17 c18 c19 c20 c21 c22 c23 c24 c25 c26 c27 c28 c29 c30 c31 c32 c33 c34 c35 c36 c37 c38 c39 c40 c41 c42 c43 c44 c45 c46 c47 c48 c49 c50 c51 c52 c53 c54 c55 c56 c57 c58 c59 c60 c61 c62 c63 c64 c65 c66 c67 c68 c69 c70 c71 c72 c73 c74 c75 c76 c77 c78 c157 c158 c159 c160 c161 c162 c163 c164 c165 c166 c167 c168 c169 c170 c171 c172 c173 c174 c175 c176 c177 c178 c179 c180 c181 c182 c183 c184 c185 : Value} {u13 u82 u83 u84 u85 u86 u87 u88 u89 u90 u91 u92 u93 u94 u95 u96 u97 u98 u99 u100 u101 u102 u103 u104 u105 u106 u107 u108 u109 u110 u111 u112 u113 u114 u115 u116 u117 u118 u119 u120 u121 u122 u123 u124 u125 u126 u127 u128 u129 u130 u131 u132 u133 u134 u135 u136 u137 u138 u139 u140 u141 u142 u143 u144 u145 u146 u147 u148 u149 u150 u151 u152 u153 u154 u155 u156 : Value}
  (HR : Aside0 (Kd.C k40 w A l.length l)) (hl : l.length ≤ 4096) (HOK : Aside0 (∀ x ∈ l, allow_Change.ok (cv x))) (hg4 : w.heap.size < g4) (hg8 : g4 < g8)
  (BK2 : Aside0 (w0.heap[w.heap.size]? = some (.cells #[.int .i64 o0, .int .i64 o1, .int .i64 o2] 22 (0, 0)))) (BK4 : Aside0 (w0.heap[g4]? = some (.cells (row18 Row6.z Row6.z Row6.z) 34 (0, 0)))) (BK8 : Aside0 (w0.heap[g8]? = some (.cells (row18 ra ⟨o1, 0, 0, 0, 0, 0⟩ rb) 34 (0, 0)))) (HB : Aside0 (Below w.heap.size w w0))
  (hpan : ∀ c_ (a_ b_ : Act) w_, a_.defers = b_.defers → Q0 (Exit.panic c_) a_ w_ → Q0 (Exit.panic c_) b_ w_) (hexit : ∀ (x13 x81 x82 x83 x84 x85 x86 x87 x88 x89 x90 x91 x92 x93 x94 x95 x96 x97 x98 x99 x100 x101 x102 x103 x104 x105 x106 x107 x108 x109 x110 x111 x112 x113 x114 x115 x116 x117 x118 x119 x120 x121 x122 x123 x124 x125 x126 x127 x128 x129 x130 x131 x132 x133 x134 x135 x136 x137 x138 x139 x140 x141 x142 x143 x144 x145 x146 x147 x148 x149 x150 x151 x152 x153 x154 x155 x156 : Value) (w1 : World), Aside0 (w1.heap[w.heap.size]? = some (.cells #[.int .i64 o0, .int .i64 o1, .int .i64 o2] 22 (0, 0))) ∧ Aside0 (w1.heap[g4]? = some (.cells (row18 Row6.z Row6.z Row6.z) 34 (0, 0))) ∧ Aside0 (w1.heap[g8]? = some (.cells (row18 ra (lombardref16_Roll.pre l o1 2) rb) 34 (0, 0))) ∧ Aside0 (Below w.heap.size w w1) → Q0 (Exit.exit 6) ⟨List.toArray (c0 :: c1 :: c2 :: c3 :: c4 :: c5 :: c6 :: c7 :: .pointer (some ⟨g8, 0, none⟩) :: c9 :: c10 :: .int .i64 1 :: c12 :: x13 :: c14 :: c15 :: c16 :: c17 :: c18 :: c19 :: c20 :: c21 :: c22 :: c23 :: c24 :: c25 :: c26 :: c27 :: c28 :: c29 :: c30 :: c31 :: c32 :: c33 :: c34 :: c35 :: c36 :: c37 :: c38 :: c39 :: c40 :: c41 :: c42 :: c43 :: c44 :: c45 :: c46 :: c47 :: c48 :: c49 :: c50 :: c51 :: c52 :: c53 :: c54 :: c55 :: c56 :: c57 :: c58 :: c59 :: c60 :: c61 :: c62 :: c63 :: c64 :: c65 :: c66 :: c67 :: c68 :: c69 :: c70 :: c71 :: c72 :: c73 :: c74 :: c75 :: c76 :: c77 :: c78 :: .slice A l.length c :: .int .i64 (l.length : Int) :: x81 :: x82 :: x83 :: x84 :: x85 :: x86 :: x87 :: x88 :: x89 :: x90 :: x91 :: x92 :: x93 :: x94 :: x95 :: x96 :: x97 :: x98 :: x99 :: x100 :: x101 :: x102 :: x103 :: x104 :: x105 :: x106 :: x107 :: x108 :: x109 :: x110 :: x111 :: x112 :: x113 :: x114 :: x115 :: x116 :: x117 :: x118 :: x119 :: x120 :: x121 :: x122 :: x123 :: x124 :: x125 :: x126 :: x127 :: x128 :: x129 :: x130 :: x131 :: x132 :: x133 :: x134 :: x135 :: x136 :: x137 :: x138 :: x139 :: x140 :: x141 :: x142 :: x143 :: x144 :: x145 :: x146 :: x147 :: x148 :: x149 :: x150 :: x151 :: x152 :: x153 :: x154 :: x155 :: x156 :: c157 :: c158 :: c159 :: c160 :: c161 :: c162 :: c163 :: c164 :: c165 :: c166 :: c167 :: c168 :: c169 :: c170 :: c171 :: c172 :: c173 :: c174 :: c175 :: c176 :: c177 :: c178 :: c179 :: c180 :: c181 :: c182 :: c183 :: c184 :: c185 :: []), []⟩ w1) :
  Code.wp Try.prog (Code.loop lombardref16_Roll.inner) Q0 ⟨List.toArray (c0 :: c1 :: c2 :: c3 :: c4 :: c5 :: c6 :: c7 :: .pointer (some ⟨g8, 0, none⟩) :: c9 :: c10 :: .int .i64 1 :: c12 :: u13 :: c14 :: c15 :: c16 :: c17 :: c18 :: c19 :: c20 :: c21 :: c22 :: c23 :: c24 :: c25 :: c26 :: c27 :: c28 :: c29 :: c30 :: c31 :: c32 :: c33 :: c34 :: c35 :: c36 :: c37 :: c38 :: c39 :: c40 :: c41 :: c42 :: c43 :: c44 :: c45 :: c46 :: c47 :: c48 :: c49 :: c50 :: c51 :: c52 :: c53 :: c54 :: c55 :: c56 :: c57 :: c58 :: c59 :: c60 :: c61 :: c62 :: c63 :: c64 :: c65 :: c66 :: c67 :: c68 :: c69 :: c70 :: c71 :: c72 :: c73 :: c74 :: c75 :: c76 :: c77 :: c78 :: .slice A l.length c :: .int .i64 (l.length : Int) :: .int .i64 0 :: u82 :: u83 :: u84 :: u85 :: u86 :: u87 :: u88 :: u89 :: u90 :: u91 :: u92 :: u93 :: u94 :: u95 :: u96 :: u97 :: u98 :: u99 :: u100 :: u101 :: u102 :: u103 :: u104 :: u105 :: u106 :: u107 :: u108 :: u109 :: u110 :: u111 :: u112 :: u113 :: u114 :: u115 :: u116 :: u117 :: u118 :: u119 :: u120 :: u121 :: u122 :: u123 :: u124 :: u125 :: u126 :: u127 :: u128 :: u129 :: u130 :: u131 :: u132 :: u133 :: u134 :: u135 :: u136 :: u137 :: u138 :: u139 :: u140 :: u141 :: u142 :: u143 :: u144 :: u145 :: u146 :: u147 :: u148 :: u149 :: u150 :: u151 :: u152 :: u153 :: u154 :: u155 :: u156 :: c157 :: c158 :: c159 :: c160 :: c161 :: c162 :: c163 :: c164 :: c165 :: c166 :: c167 :: c168 :: c169 :: c170 :: c171 :: c172 :: c173 :: c174 :: c175 :: c176 :: c177 :: c178 :: c179 :: c180 :: c181 :: c182 :: c183 :: c184 :: c185 :: []), []⟩ w0 := by
 conv => arg 2; arg 1; whnf
 go_loopw [81] (fun j wr => ∃ k : Nat, k ≤ l.length ∧ j = .int .i64 k ∧ Aside0 (wr.heap[w.heap.size]? = some (.cells #[.int .i64 o0, .int .i64 o1, .int .i64 o2] 22 (0, 0))) ∧ Aside0 (wr.heap[g4]? = some (.cells (row18 Row6.z Row6.z Row6.z) 34 (0, 0))) ∧ Aside0 (wr.heap[g8]? = some (.cells (row18 ra (lombardref16_Roll.pre (l.take k) o1 2) rb) 34 (0, 0))) ∧ Aside0 (Below w.heap.size w wr)) (fun j _ => l.length - (intOf j).toNat)
 case atStart => exact ⟨0, Nat.zero_le _, rfl, BK2, BK4, BK8, HB⟩
 case round =>
  clear BK2 BK4 BK8 HB
  obtain ⟨k, hk, rfl, BK2, BK4, BK8, HB⟩ := hrel
  obtain ⟨v2, hv⟩ : ∃ v, v = wr := ⟨_, rfl⟩
  subst hv
  obtain ⟨ia, ua, na, wa, hpre⟩ := lombardref16_Roll.pre_some (l.take k) o1 2
  rw [hpre] at BK8
  have HP := Aside0.mk hpre
  clear hpre
  by_cases hlt : k < l.length
  case pos =>
   obtain ⟨ad, rfl, hx0, hx1, hx2, hx3, hx4⟩ := at_T40 HR.out (k : Int) (by omega) (by omega)
   replace hx0 := (HB.out.cell (World.block_lt_of_cell? w _ hx0)).trans hx0
   replace hx1 := (HB.out.cell (World.block_lt_of_cell? w _ hx1)).trans hx1
   replace hx2 := (HB.out.cell (World.block_lt_of_cell? w _ hx2)).trans hx2
   replace hx3 := (HB.out.cell (World.block_lt_of_cell? w _ hx3)).trans hx3
   replace hx4 := (HB.out.cell (World.block_lt_of_cell? w _ hx4)).trans hx4
   rw [Int.toNat_natCast] at hx0 hx1 hx2 hx3 hx4
   have hrd : rd_T40 l (k : Int) = l[k] := by simp [rd_T40, List.getElem?_eq_getElem hlt]
   have HT := Aside0.mk (List.take_succ_eq_append_getElem hlt)
   have HXO := Aside0.mk (HOK.out _ (List.getElem_mem hlt))
   rw [hrd] at hx0 hx1 hx2 hx3 hx4
   clear hrd
   generalize l[k] = x at hx0 hx1 hx2 hx3 hx4 HT HXO
   obtain ⟨hnb, hnk⟩ := newrow2 v2 #[.int .i64 0, .int .i64 0, .int .i64 0, .int .i64 0, .int .i64 0] #[.int .i64 x.f0, .int .i64 x.f1, .int .i64 x.f2, .int .i64 x.f3, .int .i64 x.f4] 40
   go_wp2_with ((with_reducible refine gate_store (t := 40) (p := 13) (v := .tmp 84) rfl ?_); refine Shut.out ?_)
   unfold Shut
   refine store_rowTo rfl 40 (.tmp 13) (.tmp 84) rfl rfl v2.heap.size #[.int .i64 x.f0, .int .i64 x.f1, .int .i64 x.f2, .int .i64 x.f3, .int .i64 x.f4] rfl rfl 40 _ (blk_new v2 _) (by kernel_rfl) rfl (all5' _ _ _ _ _) ?_
   have n_HB := Aside0.mk (below_step HB.out hnb)
   have n_BK2 := Aside0.mk (blk_below BK2.out hnb)
   have n_BK4 := Aside0.mk (blk_below BK4.out hnb)
   have n_BK8 := Aside0.mk (blk_below BK8.out hnb)
   have n_BK7 := Aside0.mk hnk
   have hg7 := blk_lt BK8.out
   clear HB BK2 BK4 BK8 hnb hnk hx0 hx1 hx2 hx3 hx4
   generalize (v2.alloc (.cells #[.int .i64 0, .int .i64 0, .int .i64 0, .int .i64 0, .int .i64 0] 40)).setRow v2.heap.size #[.int .i64 x.f0, .int .i64 x.f1, .int .i64 x.f2, .int .i64 x.f3, .int .i64 x.f4] = z1 at n_HB n_BK2 n_BK4 n_BK8 n_BK7 ⊢
   generalize v2.heap.size = g7 at n_BK7 hg7 ⊢
   have HB := n_HB
   clear n_HB
   have BK2 := n_BK2
   clear n_BK2
   have BK4 := n_BK4
   clear n_BK4
   have BK8 := n_BK8
   clear n_BK8
   have BK7 := n_BK7
   clear n_BK7
   have hbd := lombardref16_Roll.pre_bd _ _ _ HP.out (fun y hy => HOK.out y (List.mem_of_mem_take hy)) (by rw [List.length_take]; omega)
   have hxo := HXO.out
   simp only [allow_Change.ok, cv] at hxo
   obtain ⟨vi, hvi⟩ : ∃ v, v = ia + x.f2 := ⟨_, rfl⟩
   obtain ⟨vu, hvu⟩ : ∃ v, v = ua + x.f2 := ⟨_, rfl⟩
   obtain ⟨d1, hd1⟩ : ∃ v, v = x.f3 - x.f2 := ⟨_, rfl⟩
   obtain ⟨d2, hd2⟩ : ∃ v, v = d1 + x.f4 := ⟨_, rfl⟩
   obtain ⟨vn, hvn⟩ : ∃ v, v = na + d2 := ⟨_, rfl⟩
   obtain ⟨vw, hvw⟩ : ∃ v, v = wa + x.f4 := ⟨_, rfl⟩
   have HVI := Aside0.mk hvi
   have HVU := Aside0.mk hvu
   have HVN := Aside0.mk (show vn = na + (x.f3 - x.f2 + x.f4) by omega)
   have HVW := Aside0.mk hvw
   have QI := Aside0.mk (show wrap64 (ia + x.f2) = vi by unfold wrap64; omega)
   have QU := Aside0.mk (show wrap64 (ua + x.f2) = vu by unfold wrap64; omega)
   have QD1 := Aside0.mk (show wrap64 (x.f3 - x.f2) = d1 by unfold wrap64; omega)
   have QD2 := Aside0.mk (show wrap64 (d1 + x.f4) = d2 by unfold wrap64; omega)
   have QN := Aside0.mk (show wrap64 (na + d2) = vn by unfold wrap64; omega)
   have QW := Aside0.mk (show wrap64 (wa + x.f4) = vw by unfold wrap64; omega)
   have hg74 : g7 ≠ g4 := by omega
   clear hvi hvu hd1 hd2 hvn hvw hbd hxo
   have hk0 : z1.cell? ⟨g7, 0, none⟩ = some (.int .i64 x.f0) := blk_cell BK7.out 0
   have hk1 : z1.cell? ⟨g7, 1, none⟩ = some (.int .i64 x.f1) := blk_cell BK7.out 1
   have hk2 : z1.cell? ⟨g7, 2, none⟩ = some (.int .i64 x.f2) := blk_cell BK7.out 2
   have hk3 : z1.cell? ⟨g7, 3, none⟩ = some (.int .i64 x.f3) := blk_cell BK7.out 3
   have hk4 : z1.cell? ⟨g7, 4, none⟩ = some (.int .i64 x.f4) := blk_cell BK7.out 4
   have HE1 : x.f0 = x.f1 ∨ ¬ x.f0 = x.f1 := Classical.em _
   have HE2 : x.f1 = 2 ∨ ¬ x.f1 = 2 := Classical.em _
   have HE3 : x.f0 = 2 ∨ ¬ x.f0 = 2 := Classical.em _
   rcases HE1 with e1 | e1
   ·
    rcases HE2 with e2 | e2
    ·
     have E1 := Aside0.mk e1
     have E2 := Aside0.mk e2
     have e3 : x.f0 = 2 := e1.trans e2
     clear HE3
     have t1 : (x.f0 != x.f1) = false := by simpa using e1
     have t2 : (x.f1 == 2) = true := by simpa using e2
     clear e1 e2 e3
     go_wp2_with fail
     clear hk0 hk1 hk2 hk3 hk4
     have n_HB := Aside0.mk (below_drew1 HB.out)
     have n_BK2 := Aside0.mk (blk_drew BK2.out)
     have n_BK4 := Aside0.mk (blk_drew BK4.out)
     have n_BK8 := Aside0.mk (blk_drew BK8.out)
     have n_BK7 := Aside0.mk (blk_drew BK7.out)
     clear HB BK2 BK4 BK8 BK7
     have HB := n_HB
     clear n_HB
     have BK2 := n_BK2
     clear n_BK2
     have BK4 := n_BK4
     clear n_BK4
     have BK8 := n_BK8
     clear n_BK8
     have BK7 := n_BK7
     clear n_BK7
     have hs0 := QD1.out
     have ht0 := (i64_w _).trans QD1.out
     have hs1 := QD2.out
     have ht1 := (i64_w _).trans QD2.out
     have hs2 := QN.out
     have ht2 := (i64_w _).trans QN.out
     refine start_ (n := 16) (S := fun w' => w'.cell? ⟨g8, 9, none⟩ = some (.int .i64 na) ∧ w'.cell? ⟨g7, 2, none⟩ = some (.int .i64 x.f2) ∧ w'.cell? ⟨g7, 3, none⟩ = some (.int .i64 x.f3) ∧ w'.cell? ⟨g7, 4, none⟩ = some (.int .i64 x.f4)) (ds := [15]) #[false, false, false, false, false, false, false, false, false, false, false, false, false, false, false, false] (by kernel_rfl) rfl rfl ⟨(blk_cell BK8.out 9).trans rfl, (blk_cell BK7.out 2).trans rfl, (blk_cell BK7.out 3).trans rfl, (blk_cell BK7.out 4).trans rfl⟩ (fun hHeld => ?_)
     generalize z1.drew = z2 at HB BK2 BK4 BK8 BK7 hHeld ⊢
     refine pure_ (i := 0) (N := some 132) (v := ?_) (a' := ?_) #[true, false, false, false, false, false, false, false, false, false, false, false, false, false, false, false] rfl rfl (by kernel_rfl) (fun c_ a_ w_ h => hpan c_ (Act.put a_ _ _) a_ w_ (by rfl) h) (Or.inl ⟨by rfl, ?_⟩) ?_ ?_
     rotate_left
     ·
      intro w'
      go_simp
      with_reducible rfl
     rotate_left
     ·
      simp only [Act.put, List.setIfInBounds_toArray, List.set_cons_zero, List.set_cons_succ, i64_w, i32_w]
      rfl
     refine pure_ (i := 1) (N := some 133) (v := ?_) (a' := ?_) #[true, true, false, false, false, false, false, false, false, false, false, false, false, false, false, false] rfl rfl (by kernel_rfl) (fun c_ a_ w_ h => hpan c_ (Act.put a_ _ _) a_ w_ (by rfl) h) (Or.inl ⟨by rfl, ?_⟩) ?_ ?_
     rotate_left
     ·
      intro w'
      go_simp
      with_reducible rfl
     rotate_left
     ·
      simp only [Act.put, List.setIfInBounds_toArray, List.set_cons_zero, List.set_cons_succ, i64_w, i32_w]
      rfl
     refine pure_ (i := 2) (N := some 134) (v := ?_) (a' := ?_) #[true, true, true, false, false, false, false, false, false, false, false, false, false, false, false, false] rfl rfl (by kernel_rfl) (fun c_ a_ w_ h => hpan c_ (Act.put a_ _ _) a_ w_ (by rfl) h) (Or.inl ⟨by rfl, ?_⟩) ?_ ?_
     rotate_left
     ·
      intro w'
      go_simp
      with_reducible rfl
     rotate_left
     ·
      simp only [Act.put, List.setIfInBounds_toArray, List.set_cons_zero, List.set_cons_succ, i64_w, i32_w]
      rfl
     refine pure_ (i := 4) (N := some 136) (v := ?_) (a' := ?_) #[true, true, true, false, true, false, false, false, false, false, false, false, false, false, false, false] rfl rfl (by kernel_rfl) (fun c_ a_ w_ h => hpan c_ (Act.put a_ _ _) a_ w_ (by rfl) h) (Or.inl ⟨by rfl, ?_⟩) ?_ ?_
     rotate_left
     ·
      intro w'
      go_simp
      with_reducible rfl
     rotate_left
     ·
      simp only [Act.put, List.setIfInBounds_toArray, List.set_cons_zero, List.set_cons_succ, i64_w, i32_w]
      rfl
     refine pure_ (i := 6) (N := some 138) (v := ?_) (a' := ?_) #[true, true, true, false, true, false, true, false, false, false, false, false, false, false, false, false] rfl rfl (by kernel_rfl) (fun c_ a_ w_ h => hpan c_ (Act.put a_ _ _) a_ w_ (by rfl) h) (Or.inl ⟨by rfl, ?_⟩) ?_ ?_
     rotate_left
     ·
      intro w'
      go_simp
      with_reducible rfl
     rotate_left
     ·
      simp only [Act.put, List.setIfInBounds_toArray, List.set_cons_zero, List.set_cons_succ, i64_w, i32_w]
      rfl
     refine pure_ (i := 9) (N := some 141) (v := ?_) (a' := ?_) #[true, true, true, false, true, false, true, false, false, true, false, false, false, false, false, false] rfl rfl (by kernel_rfl) (fun c_ a_ w_ h => hpan c_ (Act.put a_ _ _) a_ w_ (by rfl) h) (Or.inl ⟨by rfl, ?_⟩) ?_ ?_
     rotate_left
     ·
      intro w'
      go_simp
      with_reducible rfl
     rotate_left
     ·
      simp only [Act.put, List.setIfInBounds_toArray, List.set_cons_zero, List.set_cons_succ, i64_w, i32_w]
      rfl
     refine take_ (i := 3) (N := some 135) (v := ?_) (a' := ?_) #[true, true, true, true, true, false, true, false, false, true, false, false, false, false, false, false] rfl rfl (by kernel_rfl) (fun c_ a_ w_ h => hpan c_ (Act.put a_ _ _) a_ w_ (by rfl) h) (Or.inl ⟨by rfl, ?_⟩) hHeld ?_ ?_
     rotate_left
     ·
      rintro w' ⟨s0, s1, s2, s3⟩
      go_simp
      with_reducible rfl
     rotate_left
     ·
      simp only [Act.put, List.setIfInBounds_toArray, List.set_cons_zero, List.set_cons_succ, i64_w, i32_w]
      rfl
     refine take_ (i := 5) (N := some 137) (v := ?_) (a' := ?_) #[true, true, true, true, true, true, true, false, false, true, false, false, false, false, false, false] rfl rfl (by kernel_rfl) (fun c_ a_ w_ h => hpan c_ (Act.put a_ _ _) a_ w_ (by rfl) h) (Or.inl ⟨by rfl, ?_⟩) hHeld ?_ ?_
     rotate_left
     ·
      rintro w' ⟨s0, s1, s2, s3⟩
      go_simp
      with_reducible rfl
     rotate_left
     ·
      simp only [Act.put, List.setIfInBounds_toArray, List.set_cons_zero, List.set_cons_succ, i64_w, i32_w]
      rfl
     refine take_ (i := 7) (N := some 139) (v := ?_) (a' := ?_) #[true, true, true, true, true, true, true, true, false, true, false, false, false, false, false, false] rfl rfl (by kernel_rfl) (fun c_ a_ w_ h => hpan c_ (Act.put a_ _ _) a_ w_ (by rfl) h) (Or.inl ⟨by rfl, ?_⟩) hHeld ?_ ?_
     rotate_left
     ·
      rintro w' ⟨s0, s1, s2, s3⟩
      go_simp
      with_reducible rfl
     rotate_left
     ·
      simp only [Act.put, List.setIfInBounds_toArray, List.set_cons_zero, List.set_cons_succ, i64_w, i32_w]
      rfl
     refine pure_ (i := 8) (N := some 140) (v := ?_) (a' := ?_) #[true, true, true, true, true, true, true, true, true, true, false, false, false, false, false, false] rfl rfl (by kernel_rfl) (fun c_ a_ w_ h => hpan c_ (Act.put a_ _ _) a_ w_ (by rfl) h) (Or.inl ⟨by rfl, ?_⟩) ?_ ?_
     rotate_left
     ·
      intro w'
      go_simp
      with_reducible rfl
     rotate_left
     ·
      simp only [Act.put, List.setIfInBounds_toArray, List.set_cons_zero, List.set_cons_succ, i64_w, i32_w]
      rfl
     refine take_ (i := 10) (N := some 142) (v := ?_) (a' := ?_) #[true, true, true, true, true, true, true, true, true, true, true, false, false, false, false, false] rfl rfl (by kernel_rfl) (fun c_ a_ w_ h => hpan c_ (Act.put a_ _ _) a_ w_ (by rfl) h) (Or.inl ⟨by rfl, ?_⟩) hHeld ?_ ?_
     rotate_left
     ·
      rintro w' ⟨s0, s1, s2, s3⟩
      go_simp
      with_reducible rfl
     rotate_left
     ·
      simp only [Act.put, List.setIfInBounds_toArray, List.set_cons_zero, List.set_cons_succ, i64_w, i32_w]
      rfl
     refine pure_ (i := 11) (N := some 143) (v := ?_) (a' := ?_) #[true, true, true, true, true, true, true, true, true, true, true, true, false, false, false, false] rfl rfl (by kernel_rfl) (fun c_ a_ w_ h => hpan c_ (Act.put a_ _ _) a_ w_ (by rfl) h) (Or.inl ⟨by rfl, ?_⟩) ?_ ?_
     rotate_left
     ·
      intro w'
      go_simp
      with_reducible rfl
     rotate_left
     ·
      simp only [Act.put, List.setIfInBounds_toArray, List.set_cons_zero, List.set_cons_succ, i64_w, i32_w]
      rfl
     refine pure_ (i := 12) (N := some 144) (v := ?_) (a' := ?_) #[true, true, true, true, true, true, true, true, true, true, true, true, true, false, false, false] rfl rfl (by kernel_rfl) (fun c_ a_ w_ h => hpan c_ (Act.put a_ _ _) a_ w_ (by rfl) h) (Or.inl ⟨by rfl, ?_⟩) ?_ ?_
     rotate_left
     ·
      intro w'
      go_simp
      with_reducible rfl
     rotate_left
     ·
      simp only [Act.put, List.setIfInBounds_toArray, List.set_cons_zero, List.set_cons_succ, i64_w, i32_w]
      rfl
     refine pure_ (i := 13) (N := some 145) (v := ?_) (a' := ?_) #[true, true, true, true, true, true, true, true, true, true, true, true, true, true, false, false] rfl rfl (by kernel_rfl) (fun c_ a_ w_ h => hpan c_ (Act.put a_ _ _) a_ w_ (by rfl) h) (Or.inl ⟨by rfl, ?_⟩) ?_ ?_
     rotate_left
     ·
      intro w'
      go_simp
      with_reducible rfl
     rotate_left
     ·
      simp only [Act.put, List.setIfInBounds_toArray, List.set_cons_zero, List.set_cons_succ, i64_w, i32_w]
      rfl
     refine pure_ (i := 14) (N := some 146) (v := ?_) (a' := ?_) #[true, true, true, true, true, true, true, true, true, true, true, true, true, true, true, false] rfl rfl (by kernel_rfl) (fun c_ a_ w_ h => hpan c_ (Act.put a_ _ _) a_ w_ (by rfl) h) (Or.inl ⟨by rfl, ?_⟩) ?_ ?_
     rotate_left
     ·
      intro w'
      go_simp
      with_reducible rfl
     rotate_left
     ·
      simp only [Act.put, List.setIfInBounds_toArray, List.set_cons_zero, List.set_cons_succ, i64_w, i32_w]
      rfl
     refine last_ (i := 15) (N := none) #[true, true, true, true, true, true, true, true, true, true, true, true, true, true, true, true] rfl rfl (by kernel_rfl) (by decide) (fun K hK => ?_)
     have kf := blk_frozen BK8.out 9
     have kc := hHeld.1
     refine skip_ (w1 := ?_) (by rfl) rfl ?_ ?_
     rotate_left
     ·
      go_simp
      rfl
     refine hK.out _ _ ?_
     clear hK K
     refine done_ (by kernel_rfl) ?_
     clear hHeld kf kc hs0 ht0 hs1 ht1 hs2 ht2
     have n_HB := Aside0.mk (HB.out.setCell (p := ⟨g8, 9, none⟩) (show w.heap.size ≤ g8 by omega) (.int .i64 vn))
     have n_BK2 := Aside0.mk ((Below.heap_setCell z2 ⟨g8, 9, none⟩ (.int .i64 vn) w.heap.size (show w.heap.size ≠ g8 by omega)).trans BK2.out)
     have n_BK4 := Aside0.mk ((Below.heap_setCell z2 ⟨g8, 9, none⟩ (.int .i64 vn) g4 (show g4 ≠ g8 by omega)).trans BK4.out)
     have n_BK7 := Aside0.mk ((Below.heap_setCell z2 ⟨g8, 9, none⟩ (.int .i64 vn) g7 (show g7 ≠ g8 by omega)).trans BK7.out)
     have n_BK8 := Aside0.mk (blk_put BK8.out 9 (.int .i64 vn) (show (row18 _ _ _).setIfInBounds 9 _ = row18 ra ⟨o1, ia, ua, vn, wa, 0⟩ rb from rfl))
     clear HB BK8 BK2 BK4 BK7
     generalize z2.setCell ⟨g8, 9, none⟩ (.int .i64 vn) = z3 at n_HB n_BK8 n_BK2 n_BK4 n_BK7 ⊢
     have HB := n_HB
     clear n_HB
     have BK8 := n_BK8
     clear n_BK8
     have BK2 := n_BK2
     clear n_BK2
     have BK4 := n_BK4
     clear n_BK4
     have BK7 := n_BK7
     clear n_BK7
     have hk0 : z3.cell? ⟨g7, 0, none⟩ = some (.int .i64 x.f0) := blk_cell BK7.out 0
     have hk1 : z3.cell? ⟨g7, 1, none⟩ = some (.int .i64 x.f1) := blk_cell BK7.out 1
     have hk2 : z3.cell? ⟨g7, 2, none⟩ = some (.int .i64 x.f2) := blk_cell BK7.out 2
     have hk3 : z3.cell? ⟨g7, 3, none⟩ = some (.int .i64 x.f3) := blk_cell BK7.out 3
     have hk4 : z3.cell? ⟨g7, 4, none⟩ = some (.int .i64 x.f4) := blk_cell BK7.out 4
     go_wp2_with fail
     clear hk0 hk1 hk2 hk3 hk4
     have n_HB := Aside0.mk (below_drew1 HB.out)
     have n_BK2 := Aside0.mk (blk_drew BK2.out)
     have n_BK4 := Aside0.mk (blk_drew BK4.out)
     have n_BK8 := Aside0.mk (blk_drew BK8.out)
     have n_BK7 := Aside0.mk (blk_drew BK7.out)
     clear HB BK2 BK4 BK8 BK7
     have HB := n_HB
     clear n_HB
     have BK2 := n_BK2
     clear n_BK2
     have BK4 := n_BK4
     clear n_BK4
     have BK8 := n_BK8
     clear n_BK8
     have BK7 := n_BK7
     clear n_BK7
     have hs0 := QW.out
     have ht0 := (i64_w _).trans QW.out
     refine start_ (n := 10) (S := fun w' => w'.cell? ⟨g8, 10, none⟩ = some (.int .i64 wa) ∧ w'.cell? ⟨g7, 4, none⟩ = some (.int .i64 x.f4)) (ds := [9]) #[false, false, false, false, false, false, false, false, false, false] (by kernel_rfl) rfl rfl ⟨(blk_cell BK8.out 10).trans rfl, (blk_cell BK7.out 4).trans rfl⟩ (fun hHeld => ?_)
     generalize z3.drew = z4 at HB BK2 BK4 BK8 BK7 hHeld ⊢
     refine pure_ (i := 0) (N := some 147) (v := ?_) (a' := ?_) #[true, false, false, false, false, false, false, false, false, false] rfl rfl (by kernel_rfl) (fun c_ a_ w_ h => hpan c_ (Act.put a_ _ _) a_ w_ (by rfl) h) (Or.inl ⟨by rfl, ?_⟩) ?_ ?_
     rotate_left
     ·
      intro w'
      go_simp
      with_reducible rfl
     rotate_left
     ·
      simp only [Act.put, List.setIfInBounds_toArray, List.set_cons_zero, List.set_cons_succ, i64_w, i32_w]
      rfl
     refine pure_ (i := 1) (N := some 148) (v := ?_) (a' := ?_) #[true, true, false, false, false, false, false, false, false, false] rfl rfl (by kernel_rfl) (fun c_ a_ w_ h => hpan c_ (Act.put a_ _ _) a_ w_ (by rfl) h) (Or.inl ⟨by rfl, ?_⟩) ?_ ?_
     rotate_left
     ·
      intro w'
      go_simp
      with_reducible rfl
     rotate_left
     ·
      simp only [Act.put, List.setIfInBounds_toArray, List.set_cons_zero, List.set_cons_succ, i64_w, i32_w]
      rfl
     refine pure_ (i := 2) (N := some 149) (v := ?_) (a' := ?_) #[true, true, true, false, false, false, false, false, false, false] rfl rfl (by kernel_rfl) (fun c_ a_ w_ h => hpan c_ (Act.put a_ _ _) a_ w_ (by rfl) h) (Or.inl ⟨by rfl, ?_⟩) ?_ ?_
     rotate_left
     ·
      intro w'
      go_simp
      with_reducible rfl
     rotate_left
     ·
      simp only [Act.put, List.setIfInBounds_toArray, List.set_cons_zero, List.set_cons_succ, i64_w, i32_w]
      rfl
     refine pure_ (i := 4) (N := some 151) (v := ?_) (a' := ?_) #[true, true, true, false, true, false, false, false, false, false] rfl rfl (by kernel_rfl) (fun c_ a_ w_ h => hpan c_ (Act.put a_ _ _) a_ w_ (by rfl) h) (Or.inl ⟨by rfl, ?_⟩) ?_ ?_
     rotate_left
     ·
      intro w'
      go_simp
      with_reducible rfl
     rotate_left
     ·
      simp only [Act.put, List.setIfInBounds_toArray, List.set_cons_zero, List.set_cons_succ, i64_w, i32_w]
      rfl
     refine take_ (i := 3) (N := some 150) (v := ?_) (a' := ?_) #[true, true, true, true, true, false, false, false, false, false] rfl rfl (by kernel_rfl) (fun c_ a_ w_ h => hpan c_ (Act.put a_ _ _) a_ w_ (by rfl) h) (Or.inl ⟨by rfl, ?_⟩) hHeld ?_ ?_
     rotate_left
     ·
      rintro w' ⟨s0, s1⟩
      go_simp
      with_reducible rfl
     rotate_left
     ·
      simp only [Act.put, List.setIfInBounds_toArray, List.set_cons_zero, List.set_cons_succ, i64_w, i32_w]
      rfl
     refine take_ (i := 5) (N := some 152) (v := ?_) (a' := ?_) #[true, true, true, true, true, true, false, false, false, false] rfl rfl (by kernel_rfl) (fun c_ a_ w_ h => hpan c_ (Act.put a_ _ _) a_ w_ (by rfl) h) (Or.inl ⟨by rfl, ?_⟩) hHeld ?_ ?_
     rotate_left
     ·
      rintro w' ⟨s0, s1⟩
      go_simp
      with_reducible rfl
     rotate_left
     ·
      simp only [Act.put, List.setIfInBounds_toArray, List.set_cons_zero, List.set_cons_succ, i64_w, i32_w]
      rfl
     refine pure_ (i := 6) (N := some 153) (v := ?_) (a' := ?_) #[true, true, true, true, true, true, true, false, false, false] rfl rfl (by kernel_rfl) (fun c_ a_ w_ h => hpan c_ (Act.put a_ _ _) a_ w_ (by rfl) h) (Or.inl ⟨by rfl, ?_⟩) ?_ ?_
     rotate_left
     ·
      intro w'
      go_simp
      with_reducible rfl
     rotate_left
     ·
      simp only [Act.put, List.setIfInBounds_toArray, List.set_cons_zero, List.set_cons_succ, i64_w, i32_w]
      rfl
     refine pure_ (i := 7) (N := some 154) (v := ?_) (a' := ?_) #[true, true, true, true, true, true, true, true, false, false] rfl rfl (by kernel_rfl) (fun c_ a_ w_ h => hpan c_ (Act.put a_ _ _) a_ w_ (by rfl) h) (Or.inl ⟨by rfl, ?_⟩) ?_ ?_
     rotate_left
     ·
      intro w'
      go_simp
      with_reducible rfl
     rotate_left
     ·
      simp only [Act.put, List.setIfInBounds_toArray, List.set_cons_zero, List.set_cons_succ, i64_w, i32_w]
      rfl
     refine pure_ (i := 8) (N := some 155) (v := ?_) (a' := ?_) #[true, true, true, true, true, true, true, true, true, false] rfl rfl (by kernel_rfl) (fun c_ a_ w_ h => hpan c_ (Act.put a_ _ _) a_ w_ (by rfl) h) (Or.inl ⟨by rfl, ?_⟩) ?_ ?_
     rotate_left
     ·
      intro w'
      go_simp
      with_reducible rfl
     rotate_left
     ·
      simp only [Act.put, List.setIfInBounds_toArray, List.set_cons_zero, List.set_cons_succ, i64_w, i32_w]
      rfl
     refine last_ (i := 9) (N := none) #[true, true, true, true, true, true, true, true, true, true] rfl rfl (by kernel_rfl) (by decide) (fun K hK => ?_)
     have kf := blk_frozen BK8.out 10
     have kc := hHeld.1
     refine skip_ (w1 := ?_) (by rfl) rfl ?_ ?_
     rotate_left
     ·
      go_simp
      rfl
     refine hK.out _ _ ?_
     clear hK K
     refine done_ (by kernel_rfl) ?_
     clear hHeld kf kc hs0 ht0
     have n_HB := Aside0.mk (HB.out.setCell (p := ⟨g8, 10, none⟩) (show w.heap.size ≤ g8 by omega) (.int .i64 vw))
     have n_BK2 := Aside0.mk ((Below.heap_setCell z4 ⟨g8, 10, none⟩ (.int .i64 vw) w.heap.size (show w.heap.size ≠ g8 by omega)).trans BK2.out)
     have n_BK4 := Aside0.mk ((Below.heap_setCell z4 ⟨g8, 10, none⟩ (.int .i64 vw) g4 (show g4 ≠ g8 by omega)).trans BK4.out)
     have n_BK7 := Aside0.mk ((Below.heap_setCell z4 ⟨g8, 10, none⟩ (.int .i64 vw) g7 (show g7 ≠ g8 by omega)).trans BK7.out)
     have n_BK8 := Aside0.mk (blk_put BK8.out 10 (.int .i64 vw) (show (row18 _ _ _).setIfInBounds 10 _ = row18 ra ⟨o1, ia, ua, vn, vw, 0⟩ rb from rfl))
     clear HB BK8 BK2 BK4 BK7
     generalize z4.setCell ⟨g8, 10, none⟩ (.int .i64 vw) = z5 at n_HB n_BK8 n_BK2 n_BK4 n_BK7 ⊢
     have HB := n_HB
     clear n_HB
     have BK8 := n_BK8
     clear n_BK8
     have BK2 := n_BK2
     clear n_BK2
     have BK4 := n_BK4
     clear n_BK4
     have BK7 := n_BK7
     clear n_BK7
     have hk0 : z5.cell? ⟨g7, 0, none⟩ = some (.int .i64 x.f0) := blk_cell BK7.out 0
     have hk1 : z5.cell? ⟨g7, 1, none⟩ = some (.int .i64 x.f1) := blk_cell BK7.out 1
     have hk2 : z5.cell? ⟨g7, 2, none⟩ = some (.int .i64 x.f2) := blk_cell BK7.out 2
     have hk3 : z5.cell? ⟨g7, 3, none⟩ = some (.int .i64 x.f3) := blk_cell BK7.out 3
     have hk4 : z5.cell? ⟨g7, 4, none⟩ = some (.int .i64 x.f4) := blk_cell BK7.out 4
     go_wp2_with fail
     go_roundw
     case measure => simp [intOf]; omega
     case rel =>
      refine ⟨k + 1, by omega, by go_num, BK2, BK4, ⟨?_⟩, HB⟩
      rw [HT.out, lombardref16_Roll.wayA HP.out E1.out E2.out]
      rw [← HVN.out, ← HVW.out]; exact BK8.out
    ·
     have E1 := Aside0.mk e1
     have E2 := Aside0.mk e2
     clear HE3
     have t1 : (x.f0 != x.f1) = false := by simpa using e1
     have t2 : (x.f1 == 2) = false := by simpa using e2
     clear e1 e2
     go_wp2_with fail
     go_roundw
     case measure => simp [intOf]; omega
     case rel =>
      refine ⟨k + 1, by omega, by go_num, BK2, BK4, ⟨?_⟩, HB⟩
      rw [HT.out, lombardref16_Roll.wayB HP.out E2.out (Or.inl E1.out)]
      exact BK8.out
   ·
    rcases HE2 with e2 | e2
    ·
     have E1 := Aside0.mk e1
     have E2 := Aside0.mk e2
     have e3 : ¬ x.f0 = 2 := fun z => e1 (z.trans e2.symm)
     clear HE3
     have t1 : (x.f0 != x.f1) = true := by simpa using e1
     have t2 : (x.f1 == 2) = true := by simpa using e2
     have t3 : (x.f0 == 2) = false := by simpa using e3
     clear e1 e2 e3
     go_wp2_with fail
     clear hk0 hk1 hk2 hk3 hk4
     have n_HB := Aside0.mk (below_drew1 HB.out)
     have n_BK2 := Aside0.mk (blk_drew BK2.out)
     have n_BK4 := Aside0.mk (blk_drew BK4.out)
     have n_BK8 := Aside0.mk (blk_drew BK8.out)
     have n_BK7 := Aside0.mk (blk_drew BK7.out)
     clear HB BK2 BK4 BK8 BK7
     have HB := n_HB
     clear n_HB
     have BK2 := n_BK2
     clear n_BK2
     have BK4 := n_BK4
     clear n_BK4
     have BK8 := n_BK8
     clear n_BK8
     have BK7 := n_BK7
     clear n_BK7
     have hs0 := QI.out
     have ht0 := (i64_w _).trans QI.out
     refine start_ (n := 10) (S := fun w' => w'.cell? ⟨g8, 7, none⟩ = some (.int .i64 ia) ∧ w'.cell? ⟨g7, 2, none⟩ = some (.int .i64 x.f2)) (ds := [9]) #[false, false, false, false, false, false, false, false, false, false] (by kernel_rfl) rfl rfl ⟨(blk_cell BK8.out 7).trans rfl, (blk_cell BK7.out 2).trans rfl⟩ (fun hHeld => ?_)
     generalize z1.drew = z2 at HB BK2 BK4 BK8 BK7 hHeld ⊢
     refine pure_ (i := 0) (N := some 118) (v := ?_) (a' := ?_) #[true, false, false, false, false, false, false, false, false, false] rfl rfl (by kernel_rfl) (fun c_ a_ w_ h => hpan c_ (Act.put a_ _ _) a_ w_ (by rfl) h) (Or.inl ⟨by rfl, ?_⟩) ?_ ?_
     rotate_left
     ·
      intro w'
      go_simp
      with_reducible rfl
     rotate_left
     ·
      simp only [Act.put, List.setIfInBounds_toArray, List.set_cons_zero, List.set_cons_succ, i64_w, i32_w]
      rfl
     refine pure_ (i := 1) (N := some 119) (v := ?_) (a' := ?_) #[true, true, false, false, false, false, false, false, false, false] rfl rfl (by kernel_rfl) (fun c_ a_ w_ h => hpan c_ (Act.put a_ _ _) a_ w_ (by rfl) h) (Or.inl ⟨by rfl, ?_⟩) ?_ ?_
     rotate_left
     ·
      intro w'
      go_simp
      with_reducible rfl
     rotate_left
     ·
      simp only [Act.put, List.setIfInBounds_toArray, List.set_cons_zero, List.set_cons_succ, i64_w, i32_w]
      rfl
     refine pure_ (i := 2) (N := some 120) (v := ?_) (a' := ?_) #[true, true, true, false, false, false, false, false, false, false] rfl rfl (by kernel_rfl) (fun c_ a_ w_ h => hpan c_ (Act.put a_ _ _) a_ w_ (by rfl) h) (Or.inl ⟨by rfl, ?_⟩) ?_ ?_
     rotate_left
     ·
      intro w'
      go_simp
      with_reducible rfl
     rotate_left
     ·
      simp only [Act.put, List.setIfInBounds_toArray, List.set_cons_zero, List.set_cons_succ, i64_w, i32_w]
      rfl
     refine pure_ (i := 4) (N := some 122) (v := ?_) (a' := ?_) #[true, true, true, false, true, false, false, false, false, false] rfl rfl (by kernel_rfl) (fun c_ a_ w_ h => hpan c_ (Act.put a_ _ _) a_ w_ (by rfl) h) (Or.inl ⟨by rfl, ?_⟩) ?_ ?_
     rotate_left
     ·
      intro w'
      go_simp
      with_reducible rfl
     rotate_left
     ·
      simp only [Act.put, List.setIfInBounds_toArray, List.set_cons_zero, List.set_cons_succ, i64_w, i32_w]
      rfl
     refine take_ (i := 3) (N := some 121) (v := ?_) (a' := ?_) #[true, true, true, true, true, false, false, false, false, false] rfl rfl (by kernel_rfl) (fun c_ a_ w_ h => hpan c_ (Act.put a_ _ _) a_ w_ (by rfl) h) (Or.inl ⟨by rfl, ?_⟩) hHeld ?_ ?_
     rotate_left
     ·
      rintro w' ⟨s0, s1⟩
      go_simp
      with_reducible rfl
     rotate_left
     ·
      simp only [Act.put, List.setIfInBounds_toArray, List.set_cons_zero, List.set_cons_succ, i64_w, i32_w]
      rfl
     refine take_ (i := 5) (N := some 123) (v := ?_) (a' := ?_) #[true, true, true, true, true, true, false, false, false, false] rfl rfl (by kernel_rfl) (fun c_ a_ w_ h => hpan c_ (Act.put a_ _ _) a_ w_ (by rfl) h) (Or.inl ⟨by rfl, ?_⟩) hHeld ?_ ?_
     rotate_left
     ·
      rintro w' ⟨s0, s1⟩
      go_simp
      with_reducible rfl
     rotate_left
     ·
      simp only [Act.put, List.setIfInBounds_toArray, List.set_cons_zero, List.set_cons_succ, i64_w, i32_w]
      rfl
     refine pure_ (i := 6) (N := some 124) (v := ?_) (a' := ?_) #[true, true, true, true, true, true, true, false, false, false] rfl rfl (by kernel_rfl) (fun c_ a_ w_ h => hpan c_ (Act.put a_ _ _) a_ w_ (by rfl) h) (Or.inl ⟨by rfl, ?_⟩) ?_ ?_
     rotate_left
     ·
      intro w'
      go_simp
      with_reducible rfl
     rotate_left
     ·
      simp only [Act.put, List.setIfInBounds_toArray, List.set_cons_zero, List.set_cons_succ, i64_w, i32_w]
      rfl
     refine pure_ (i := 7) (N := some 125) (v := ?_) (a' := ?_) #[true, true, true, true, true, true, true, true, false, false] rfl rfl (by kernel_rfl) (fun c_ a_ w_ h => hpan c_ (Act.put a_ _ _) a_ w_ (by rfl) h) (Or.inl ⟨by rfl, ?_⟩) ?_ ?_
     rotate_left
     ·
      intro w'
      go_simp
      with_reducible rfl
     rotate_left
     ·
      simp only [Act.put, List.setIfInBounds_toArray, List.set_cons_zero, List.set_cons_succ, i64_w, i32_w]
      rfl
     refine pure_ (i := 8) (N := some 126) (v := ?_) (a' := ?_) #[true, true, true, true, true, true, true, true, true, false] rfl rfl (by kernel_rfl) (fun c_ a_ w_ h => hpan c_ (Act.put a_ _ _) a_ w_ (by rfl) h) (Or.inl ⟨by rfl, ?_⟩) ?_ ?_
     rotate_left
     ·
      intro w'
      go_simp
      with_reducible rfl
     rotate_left
     ·
      simp only [Act.put, List.setIfInBounds_toArray, List.set_cons_zero, List.set_cons_succ, i64_w, i32_w]
      rfl
     refine last_ (i := 9) (N := none) #[true, true, true, true, true, true, true, true, true, true] rfl rfl (by kernel_rfl) (by decide) (fun K hK => ?_)
     have kf := blk_frozen BK8.out 7
     have kc := hHeld.1
     refine skip_ (w1 := ?_) (by rfl) rfl ?_ ?_
     rotate_left
     ·
      go_simp
      rfl
     refine hK.out _ _ ?_
     clear hK K
     refine done_ (by kernel_rfl) ?_
     clear hHeld kf kc hs0 ht0
     have n_HB := Aside0.mk (HB.out.setCell (p := ⟨g8, 7, none⟩) (show w.heap.size ≤ g8 by omega) (.int .i64 vi))
     have n_BK2 := Aside0.mk ((Below.heap_setCell z2 ⟨g8, 7, none⟩ (.int .i64 vi) w.heap.size (show w.heap.size ≠ g8 by omega)).trans BK2.out)
     have n_BK4 := Aside0.mk ((Below.heap_setCell z2 ⟨g8, 7, none⟩ (.int .i64 vi) g4 (show g4 ≠ g8 by omega)).trans BK4.out)
     have n_BK7 := Aside0.mk ((Below.heap_setCell z2 ⟨g8, 7, none⟩ (.int .i64 vi) g7 (show g7 ≠ g8 by omega)).trans BK7.out)
     have n_BK8 := Aside0.mk (blk_put BK8.out 7 (.int .i64 vi) (show (row18 _ _ _).setIfInBounds 7 _ = row18 ra ⟨o1, vi, ua, na, wa, 0⟩ rb from rfl))
     clear HB BK8 BK2 BK4 BK7
     generalize z2.setCell ⟨g8, 7, none⟩ (.int .i64 vi) = z3 at n_HB n_BK8 n_BK2 n_BK4 n_BK7 ⊢
     have HB := n_HB
     clear n_HB
     have BK8 := n_BK8
     clear n_BK8
     have BK2 := n_BK2
     clear n_BK2
     have BK4 := n_BK4
     clear n_BK4
     have BK7 := n_BK7
     clear n_BK7
     have hk0 : z3.cell? ⟨g7, 0, none⟩ = some (.int .i64 x.f0) := blk_cell BK7.out 0
     have hk1 : z3.cell? ⟨g7, 1, none⟩ = some (.int .i64 x.f1) := blk_cell BK7.out 1
     have hk2 : z3.cell? ⟨g7, 2, none⟩ = some (.int .i64 x.f2) := blk_cell BK7.out 2
     have hk3 : z3.cell? ⟨g7, 3, none⟩ = some (.int .i64 x.f3) := blk_cell BK7.out 3
     have hk4 : z3.cell? ⟨g7, 4, none⟩ = some (.int .i64 x.f4) := blk_cell BK7.out 4
     go_wp2_with fail
     clear hk0 hk1 hk2 hk3 hk4
     have n_HB := Aside0.mk (below_drew1 HB.out)
     have n_BK2 := Aside0.mk (blk_drew BK2.out)
     have n_BK4 := Aside0.mk (blk_drew BK4.out)
     have n_BK8 := Aside0.mk (blk_drew BK8.out)
     have n_BK7 := Aside0.mk (blk_drew BK7.out)
     clear HB BK2 BK4 BK8 BK7
     have HB := n_HB
     clear n_HB
     have BK2 := n_BK2
     clear n_BK2
     have BK4 := n_BK4
     clear n_BK4
     have BK8 := n_BK8
     clear n_BK8
     have BK7 := n_BK7
     clear n_BK7
     have hs0 := QD1.out
     have ht0 := (i64_w _).trans QD1.out
     have hs1 := QD2.out
     have ht1 := (i64_w _).trans QD2.out
     have hs2 := QN.out
     have ht2 := (i64_w _).trans QN.out
     refine start_ (n := 16) (S := fun w' => w'.cell? ⟨g8, 9, none⟩ = some (.int .i64 na) ∧ w'.cell? ⟨g7, 2, none⟩ = some (.int .i64 x.f2) ∧ w'.cell? ⟨g7, 3, none⟩ = some (.int .i64 x.f3) ∧ w'.cell? ⟨g7, 4, none⟩ = some (.int .i64 x.f4)) (ds := [15]) #[false, false, false, false, false, false, false, false, false, false, false, false, false, false, false, false] (by kernel_rfl) rfl rfl ⟨(blk_cell BK8.out 9).trans rfl, (blk_cell BK7.out 2).trans rfl, (blk_cell BK7.out 3).trans rfl, (blk_cell BK7.out 4).trans rfl⟩ (fun hHeld => ?_)
     generalize z3.drew = z4 at HB BK2 BK4 BK8 BK7 hHeld ⊢
     refine pure_ (i := 0) (N := some 132) (v := ?_) (a' := ?_) #[true, false, false, false, false, false, false, false, false, false, false, false, false, false, false, false] rfl rfl (by kernel_rfl) (fun c_ a_ w_ h => hpan c_ (Act.put a_ _ _) a_ w_ (by rfl) h) (Or.inl ⟨by rfl, ?_⟩) ?_ ?_
     rotate_left
     ·
      intro w'
      go_simp
      with_reducible rfl
     rotate_left
     ·
      simp only [Act.put, List.setIfInBounds_toArray, List.set_cons_zero, List.set_cons_succ, i64_w, i32_w]
      rfl
     refine pure_ (i := 1) (N := some 133) (v := ?_) (a' := ?_) #[true, true, false, false, false, false, false, false, false, false, false, false, false, false, false, false] rfl rfl (by kernel_rfl) (fun c_ a_ w_ h => hpan c_ (Act.put a_ _ _) a_ w_ (by rfl) h) (Or.inl ⟨by rfl, ?_⟩) ?_ ?_
     rotate_left
     ·
      intro w'
      go_simp
      with_reducible rfl
     rotate_left
     ·
      simp only [Act.put, List.setIfInBounds_toArray, List.set_cons_zero, List.set_cons_succ, i64_w, i32_w]
      rfl
     refine pure_ (i := 2) (N := some 134) (v := ?_) (a' := ?_) #[true, true, true, false, false, false, false, false, false, false, false, false, false, false, false, false] rfl rfl (by kernel_rfl) (fun c_ a_ w_ h => hpan c_ (Act.put a_ _ _) a_ w_ (by rfl) h) (Or.inl ⟨by rfl, ?_⟩) ?_ ?_
     rotate_left
     ·
      intro w'
      go_simp
      with_reducible rfl
     rotate_left
     ·
      simp only [Act.put, List.setIfInBounds_toArray, List.set_cons_zero, List.set_cons_succ, i64_w, i32_w]
      rfl
     refine pure_ (i := 4) (N := some 136) (v := ?_) (a' := ?_) #[true, true, true, false, true, false, false, false, false, false, false, false, false, false, false, false] rfl rfl (by kernel_rfl) (fun c_ a_ w_ h => hpan c_ (Act.put a_ _ _) a_ w_ (by rfl) h) (Or.inl ⟨by rfl, ?_⟩) ?_ ?_
     rotate_left
     ·
      intro w'
      go_simp
      with_reducible rfl
     rotate_left
     ·
      simp only [Act.put, List.setIfInBounds_toArray, List.set_cons_zero, List.set_cons_succ, i64_w, i32_w]
      rfl
     refine pure_ (i := 6) (N := some 138) (v := ?_) (a' := ?_) #[true, true, true, false, true, false, true, false, false, false, false, false, false, false, false, false] rfl rfl (by kernel_rfl) (fun c_ a_ w_ h => hpan c_ (Act.put a_ _ _) a_ w_ (by rfl) h) (Or.inl ⟨by rfl, ?_⟩) ?_ ?_
     rotate_left
     ·
      intro w'
      go_simp
      with_reducible rfl
     rotate_left
     ·
      simp only [Act.put, List.setIfInBounds_toArray, List.set_cons_zero, List.set_cons_succ, i64_w, i32_w]
      rfl
     refine pure_ (i := 9) (N := some 141) (v := ?_) (a' := ?_) #[true, true, true, false, true, false, true, false, false, true, false, false, false, false, false, false] rfl rfl (by kernel_rfl) (fun c_ a_ w_ h => hpan c_ (Act.put a_ _ _) a_ w_ (by rfl) h) (Or.inl ⟨by rfl, ?_⟩) ?_ ?_
     rotate_left
     ·
      intro w'
      go_simp
      with_reducible rfl
     rotate_left
     ·
      simp only [Act.put, List.setIfInBounds_toArray, List.set_cons_zero, List.set_cons_succ, i64_w, i32_w]
      rfl
     refine take_ (i := 3) (N := some 135) (v := ?_) (a' := ?_) #[true, true, true, true, true, false, true, false, false, true, false, false, false, false, false, false] rfl rfl (by kernel_rfl) (fun c_ a_ w_ h => hpan c_ (Act.put a_ _ _) a_ w_ (by rfl) h) (Or.inl ⟨by rfl, ?_⟩) hHeld ?_ ?_
     rotate_left
     ·
      rintro w' ⟨s0, s1, s2, s3⟩
      go_simp
      with_reducible rfl
     rotate_left
     ·
      simp only [Act.put, List.setIfInBounds_toArray, List.set_cons_zero, List.set_cons_succ, i64_w, i32_w]
      rfl
     refine take_ (i := 5) (N := some 137) (v := ?_) (a' := ?_) #[true, true, true, true, true, true, true, false, false, true, false, false, false, false, false, false] rfl rfl (by kernel_rfl) (fun c_ a_ w_ h => hpan c_ (Act.put a_ _ _) a_ w_ (by rfl) h) (Or.inl ⟨by rfl, ?_⟩) hHeld ?_ ?_
     rotate_left
     ·
      rintro w' ⟨s0, s1, s2, s3⟩
      go_simp
      with_reducible rfl
     rotate_left
     ·
      simp only [Act.put, List.setIfInBounds_toArray, List.set_cons_zero, List.set_cons_succ, i64_w, i32_w]
      rfl
     refine take_ (i := 7) (N := some 139) (v := ?_) (a' := ?_) #[true, true, true, true, true, true, true, true, false, true, false, false, false, false, false, false] rfl rfl (by kernel_rfl) (fun c_ a_ w_ h => hpan c_ (Act.put a_ _ _) a_ w_ (by rfl) h) (Or.inl ⟨by rfl, ?_⟩) hHeld ?_ ?_
     rotate_left
     ·
      rintro w' ⟨s0, s1, s2, s3⟩
      go_simp
      with_reducible rfl
     rotate_left
     ·
      simp only [Act.put, List.setIfInBounds_toArray, List.set_cons_zero, List.set_cons_succ, i64_w, i32_w]
      rfl
     refine pure_ (i := 8) (N := some 140) (v := ?_) (a' := ?_) #[true, true, true, true, true, true, true, true, true, true, false, false, false, false, false, false] rfl rfl (by kernel_rfl) (fun c_ a_ w_ h => hpan c_ (Act.put a_ _ _) a_ w_ (by rfl) h) (Or.inl ⟨by rfl, ?_⟩) ?_ ?_
     rotate_left
     ·
      intro w'
      go_simp
      with_reducible rfl
     rotate_left
     ·
      simp only [Act.put, List.setIfInBounds_toArray, List.set_cons_zero, List.set_cons_succ, i64_w, i32_w]
      rfl
     refine take_ (i := 10) (N := some 142) (v := ?_) (a' := ?_) #[true, true, true, true, true, true, true, true, true, true, true, false, false, false, false, false] rfl rfl (by kernel_rfl) (fun c_ a_ w_ h => hpan c_ (Act.put a_ _ _) a_ w_ (by rfl) h) (Or.inl ⟨by rfl, ?_⟩) hHeld ?_ ?_
     rotate_left
     ·
      rintro w' ⟨s0, s1, s2, s3⟩
      go_simp
      with_reducible rfl
     rotate_left
     ·
      simp only [Act.put, List.setIfInBounds_toArray, List.set_cons_zero, List.set_cons_succ, i64_w, i32_w]
      rfl
     refine pure_ (i := 11) (N := some 143) (v := ?_) (a' := ?_) #[true, true, true, true, true, true, true, true, true, true, true, true, false, false, false, false] rfl rfl (by kernel_rfl) (fun c_ a_ w_ h => hpan c_ (Act.put a_ _ _) a_ w_ (by rfl) h) (Or.inl ⟨by rfl, ?_⟩) ?_ ?_
     rotate_left
     ·
      intro w'
      go_simp
      with_reducible rfl
     rotate_left
     ·
      simp only [Act.put, List.setIfInBounds_toArray, List.set_cons_zero, List.set_cons_succ, i64_w, i32_w]
      rfl
     refine pure_ (i := 12) (N := some 144) (v := ?_) (a' := ?_) #[true, true, true, true, true, true, true, true, true, true, true, true, true, false, false, false] rfl rfl (by kernel_rfl) (fun c_ a_ w_ h => hpan c_ (Act.put a_ _ _) a_ w_ (by rfl) h) (Or.inl ⟨by rfl, ?_⟩) ?_ ?_
     rotate_left
     ·
      intro w'
      go_simp
      with_reducible rfl
     rotate_left
     ·
      simp only [Act.put, List.setIfInBounds_toArray, List.set_cons_zero, List.set_cons_succ, i64_w, i32_w]
      rfl
     refine pure_ (i := 13) (N := some 145) (v := ?_) (a' := ?_) #[true, true, true, true, true, true, true, true, true, true, true, true, true, true, false, false] rfl rfl (by kernel_rfl) (fun c_ a_ w_ h => hpan c_ (Act.put a_ _ _) a_ w_ (by rfl) h) (Or.inl ⟨by rfl, ?_⟩) ?_ ?_
     rotate_left
     ·
      intro w'
      go_simp
      with_reducible rfl
     rotate_left
     ·
      simp only [Act.put, List.setIfInBounds_toArray, List.set_cons_zero, List.set_cons_succ, i64_w, i32_w]
      rfl
     refine pure_ (i := 14) (N := some 146) (v := ?_) (a' := ?_) #[true, true, true, true, true, true, true, true, true, true, true, true, true, true, true, false] rfl rfl (by kernel_rfl) (fun c_ a_ w_ h => hpan c_ (Act.put a_ _ _) a_ w_ (by rfl) h) (Or.inl ⟨by rfl, ?_⟩) ?_ ?_
     rotate_left
     ·
      intro w'
      go_simp
      with_reducible rfl
     rotate_left
     ·
      simp only [Act.put, List.setIfInBounds_toArray, List.set_cons_zero, List.set_cons_succ, i64_w, i32_w]
      rfl
     refine last_ (i := 15) (N := none) #[true, true, true, true, true, true, true, true, true, true, true, true, true, true, true, true] rfl rfl (by kernel_rfl) (by decide) (fun K hK => ?_)
     have kf := blk_frozen BK8.out 9
     have kc := hHeld.1
     refine skip_ (w1 := ?_) (by rfl) rfl ?_ ?_
     rotate_left
     ·
      go_simp
      rfl
     refine hK.out _ _ ?_
     clear hK K
     refine done_ (by kernel_rfl) ?_
     clear hHeld kf kc hs0 ht0 hs1 ht1 hs2 ht2
     have n_HB := Aside0.mk (HB.out.setCell (p := ⟨g8, 9, none⟩) (show w.heap.size ≤ g8 by omega) (.int .i64 vn))
     have n_BK2 := Aside0.mk ((Below.heap_setCell z4 ⟨g8, 9, none⟩ (.int .i64 vn) w.heap.size (show w.heap.size ≠ g8 by omega)).trans BK2.out)
     have n_BK4 := Aside0.mk ((Below.heap_setCell z4 ⟨g8, 9, none⟩ (.int .i64 vn) g4 (show g4 ≠ g8 by omega)).trans BK4.out)
     have n_BK7 := Aside0.mk ((Below.heap_setCell z4 ⟨g8, 9, none⟩ (.int .i64 vn) g7 (show g7 ≠ g8 by omega)).trans BK7.out)
     have n_BK8 := Aside0.mk (blk_put BK8.out 9 (.int .i64 vn) (show (row18 _ _ _).setIfInBounds 9 _ = row18 ra ⟨o1, vi, ua, vn, wa, 0⟩ rb from rfl))
     clear HB BK8 BK2 BK4 BK7
     generalize z4.setCell ⟨g8, 9, none⟩ (.int .i64 vn) = z5 at n_HB n_BK8 n_BK2 n_BK4 n_BK7 ⊢
     have HB := n_HB
     clear n_HB
     have BK8 := n_BK8
     clear n_BK8
     have BK2 := n_BK2
     clear n_BK2
     have BK4 := n_BK4
     clear n_BK4
     have BK7 := n_BK7
     clear n_BK7
     have hk0 : z5.cell? ⟨g7, 0, none⟩ = some (.int .i64 x.f0) := blk_cell BK7.out 0
     have hk1 : z5.cell? ⟨g7, 1, none⟩ = some (.int .i64 x.f1) := blk_cell BK7.out 1
     have hk2 : z5.cell? ⟨g7, 2, none⟩ = some (.int .i64 x.f2) := blk_cell BK7.out 2
     have hk3 : z5.cell? ⟨g7, 3, none⟩ = some (.int .i64 x.f3) := blk_cell BK7.out 3
     have hk4 : z5.cell? ⟨g7, 4, none⟩ = some (.int .i64 x.f4) := blk_cell BK7.out 4
     go_wp2_with fail
     clear hk0 hk1 hk2 hk3 hk4
     have n_HB := Aside0.mk (below_drew1 HB.out)
     have n_BK2 := Aside0.mk (blk_drew BK2.out)
     have n_BK4 := Aside0.mk (blk_drew BK4.out)
     have n_BK8 := Aside0.mk (blk_drew BK8.out)
     have n_BK7 := Aside0.mk (blk_drew BK7.out)
     clear HB BK2 BK4 BK8 BK7
     have HB := n_HB
     clear n_HB
     have BK2 := n_BK2
     clear n_BK2
     have BK4 := n_BK4
     clear n_BK4
     have BK8 := n_BK8
     clear n_BK8
     have BK7 := n_BK7
     clear n_BK7
     have hs0 := QW.out
     have ht0 := (i64_w _).trans QW.out
     refine start_ (n := 10) (S := fun w' => w'.cell? ⟨g8, 10, none⟩ = some (.int .i64 wa) ∧ w'.cell? ⟨g7, 4, none⟩ = some (.int .i64 x.f4)) (ds := [9]) #[false, false, false, false, false, false, false, false, false, false] (by kernel_rfl) rfl rfl ⟨(blk_cell BK8.out 10).trans rfl, (blk_cell BK7.out 4).trans rfl⟩ (fun hHeld => ?_)
     generalize z5.drew = z6 at HB BK2 BK4 BK8 BK7 hHeld ⊢
     refine pure_ (i := 0) (N := some 147) (v := ?_) (a' := ?_) #[true, false, false, false, false, false, false, false, false, false] rfl rfl (by kernel_rfl) (fun c_ a_ w_ h => hpan c_ (Act.put a_ _ _) a_ w_ (by rfl) h) (Or.inl ⟨by rfl, ?_⟩) ?_ ?_
     rotate_left
     ·
      intro w'
      go_simp
      with_reducible rfl
     rotate_left
     ·
      simp only [Act.put, List.setIfInBounds_toArray, List.set_cons_zero, List.set_cons_succ, i64_w, i32_w]
      rfl
     refine pure_ (i := 1) (N := some 148) (v := ?_) (a' := ?_) #[true, true, false, false, false, false, false, false, false, false] rfl rfl (by kernel_rfl) (fun c_ a_ w_ h => hpan c_ (Act.put a_ _ _) a_ w_ (by rfl) h) (Or.inl ⟨by rfl, ?_⟩) ?_ ?_
     rotate_left
     ·
      intro w'
      go_simp
      with_reducible rfl
     rotate_left
     ·
      simp only [Act.put, List.setIfInBounds_toArray, List.set_cons_zero, List.set_cons_succ, i64_w, i32_w]
      rfl
     refine pure_ (i := 2) (N := some 149) (v := ?_) (a' := ?_) #[true, true, true, false, false, false, false, false, false, false] rfl rfl (by kernel_rfl) (fun c_ a_ w_ h => hpan c_ (Act.put a_ _ _) a_ w_ (by rfl) h) (Or.inl ⟨by rfl, ?_⟩) ?_ ?_
     rotate_left
     ·
      intro w'
      go_simp
      with_reducible rfl
     rotate_left
     ·
      simp only [Act.put, List.setIfInBounds_toArray, List.set_cons_zero, List.set_cons_succ, i64_w, i32_w]
      rfl
     refine pure_ (i := 4) (N := some 151) (v := ?_) (a' := ?_) #[true, true, true, false, true, false, false, false, false, false] rfl rfl (by kernel_rfl) (fun c_ a_ w_ h => hpan c_ (Act.put a_ _ _) a_ w_ (by rfl) h) (Or.inl ⟨by rfl, ?_⟩) ?_ ?_
     rotate_left
     ·
      intro w'
      go_simp
      with_reducible rfl
     rotate_left
     ·
      simp only [Act.put, List.setIfInBounds_toArray, List.set_cons_zero, List.set_cons_succ, i64_w, i32_w]
      rfl
     refine take_ (i := 3) (N := some 150) (v := ?_) (a' := ?_) #[true, true, true, true, true, false, false, false, false, false] rfl rfl (by kernel_rfl) (fun c_ a_ w_ h => hpan c_ (Act.put a_ _ _) a_ w_ (by rfl) h) (Or.inl ⟨by rfl, ?_⟩) hHeld ?_ ?_
     rotate_left
     ·
      rintro w' ⟨s0, s1⟩
      go_simp
      with_reducible rfl
     rotate_left
     ·
      simp only [Act.put, List.setIfInBounds_toArray, List.set_cons_zero, List.set_cons_succ, i64_w, i32_w]
      rfl
     refine take_ (i := 5) (N := some 152) (v := ?_) (a' := ?_) #[true, true, true, true, true, true, false, false, false, false] rfl rfl (by kernel_rfl) (fun c_ a_ w_ h => hpan c_ (Act.put a_ _ _) a_ w_ (by rfl) h) (Or.inl ⟨by rfl, ?_⟩) hHeld ?_ ?_
     rotate_left
     ·
      rintro w' ⟨s0, s1⟩
      go_simp
      with_reducible rfl
     rotate_left
     ·
      simp only [Act.put, List.setIfInBounds_toArray, List.set_cons_zero, List.set_cons_succ, i64_w, i32_w]
      rfl
     refine pure_ (i := 6) (N := some 153) (v := ?_) (a' := ?_) #[true, true, true, true, true, true, true, false, false, false] rfl rfl (by kernel_rfl) (fun c_ a_ w_ h => hpan c_ (Act.put a_ _ _) a_ w_ (by rfl) h) (Or.inl ⟨by rfl, ?_⟩) ?_ ?_
     rotate_left
     ·
      intro w'
      go_simp
      with_reducible rfl
     rotate_left
     ·
      simp only [Act.put, List.setIfInBounds_toArray, List.set_cons_zero, List.set_cons_succ, i64_w, i32_w]
      rfl
     refine pure_ (i := 7) (N := some 154) (v := ?_) (a' := ?_) #[true, true, true, true, true, true, true, true, false, false] rfl rfl (by kernel_rfl) (fun c_ a_ w_ h => hpan c_ (Act.put a_ _ _) a_ w_ (by rfl) h) (Or.inl ⟨by rfl, ?_⟩) ?_ ?_
     rotate_left
     ·
      intro w'
      go_simp
      with_reducible rfl
     rotate_left
     ·
      simp only [Act.put, List.setIfInBounds_toArray, List.set_cons_zero, List.set_cons_succ, i64_w, i32_w]
      rfl
     refine pure_ (i := 8) (N := some 155) (v := ?_) (a' := ?_) #[true, true, true, true, true, true, true, true, true, false] rfl rfl (by kernel_rfl) (fun c_ a_ w_ h => hpan c_ (Act.put a_ _ _) a_ w_ (by rfl) h) (Or.inl ⟨by rfl, ?_⟩) ?_ ?_
     rotate_left
     ·
      intro w'
      go_simp
      with_reducible rfl
     rotate_left
     ·
      simp only [Act.put, List.setIfInBounds_toArray, List.set_cons_zero, List.set_cons_succ, i64_w, i32_w]
      rfl
     refine last_ (i := 9) (N := none) #[true, true, true, true, true, true, true, true, true, true] rfl rfl (by kernel_rfl) (by decide) (fun K hK => ?_)
     have kf := blk_frozen BK8.out 10
     have kc := hHeld.1
     refine skip_ (w1 := ?_) (by rfl) rfl ?_ ?_
     rotate_left
     ·
      go_simp
      rfl
     refine hK.out _ _ ?_
     clear hK K
     refine done_ (by kernel_rfl) ?_
     clear hHeld kf kc hs0 ht0
     have n_HB := Aside0.mk (HB.out.setCell (p := ⟨g8, 10, none⟩) (show w.heap.size ≤ g8 by omega) (.int .i64 vw))
     have n_BK2 := Aside0.mk ((Below.heap_setCell z6 ⟨g8, 10, none⟩ (.int .i64 vw) w.heap.size (show w.heap.size ≠ g8 by omega)).trans BK2.out)
     have n_BK4 := Aside0.mk ((Below.heap_setCell z6 ⟨g8, 10, none⟩ (.int .i64 vw) g4 (show g4 ≠ g8 by omega)).trans BK4.out)
     have n_BK7 := Aside0.mk ((Below.heap_setCell z6 ⟨g8, 10, none⟩ (.int .i64 vw) g7 (show g7 ≠ g8 by omega)).trans BK7.out)
     have n_BK8 := Aside0.mk (blk_put BK8.out 10 (.int .i64 vw) (show (row18 _ _ _).setIfInBounds 10 _ = row18 ra ⟨o1, vi, ua, vn, vw, 0⟩ rb from rfl))
     clear HB BK8 BK2 BK4 BK7
     generalize z6.setCell ⟨g8, 10, none⟩ (.int .i64 vw) = z7 at n_HB n_BK8 n_BK2 n_BK4 n_BK7 ⊢
     have HB := n_HB
     clear n_HB
     have BK8 := n_BK8
     clear n_BK8
     have BK2 := n_BK2
     clear n_BK2
     have BK4 := n_BK4
     clear n_BK4
     have BK7 := n_BK7
     clear n_BK7
     have hk0 : z7.cell? ⟨g7, 0, none⟩ = some (.int .i64 x.f0) := blk_cell BK7.out 0
     have hk1 : z7.cell? ⟨g7, 1, none⟩ = some (.int .i64 x.f1) := blk_cell BK7.out 1
     have hk2 : z7.cell? ⟨g7, 2, none⟩ = some (.int .i64 x.f2) := blk_cell BK7.out 2
     have hk3 : z7.cell? ⟨g7, 3, none⟩ = some (.int .i64 x.f3) := blk_cell BK7.out 3
     have hk4 : z7.cell? ⟨g7, 4, none⟩ = some (.int .i64 x.f4) := blk_cell BK7.out 4
     go_wp2_with fail
     go_roundw
     case measure => simp [intOf]; omega
     case rel =>
      refine ⟨k + 1, by omega, by go_num, BK2, BK4, ⟨?_⟩, HB⟩
      rw [HT.out, lombardref16_Roll.wayD HP.out E1.out E2.out]
      rw [← HVI.out, ← HVN.out, ← HVW.out]; exact BK8.out
    ·
     have E1 := Aside0.mk e1
     have E2 := Aside0.mk e2
     rcases HE3 with e3 | e3
     ·
      have E3 := Aside0.mk e3
      have t1 : (x.f0 != x.f1) = true := by simpa using e1
      have t2 : (x.f1 == 2) = false := by simpa using e2
      have t3 : (x.f0 == 2) = true := by simpa using e3
      clear e1 e2 e3
      go_wp2_with fail
      clear hk0 hk1 hk2 hk3 hk4
      have n_HB := Aside0.mk (below_drew1 HB.out)
      have n_BK2 := Aside0.mk (blk_drew BK2.out)
      have n_BK4 := Aside0.mk (blk_drew BK4.out)
      have n_BK8 := Aside0.mk (blk_drew BK8.out)
      have n_BK7 := Aside0.mk (blk_drew BK7.out)
      clear HB BK2 BK4 BK8 BK7
      have HB := n_HB
      clear n_HB
      have BK2 := n_BK2
      clear n_BK2
      have BK4 := n_BK4
      clear n_BK4
      have BK8 := n_BK8
      clear n_BK8
      have BK7 := n_BK7
      clear n_BK7
      have hs0 := QU.out
      have ht0 := (i64_w _).trans QU.out
      refine start_ (n := 10) (S := fun w' => w'.cell? ⟨g8, 8, none⟩ = some (.int .i64 ua) ∧ w'.cell? ⟨g7, 2, none⟩ = some (.int .i64 x.f2)) (ds := [9]) #[false, false, false, false, false, false, false, false, false, false] (by kernel_rfl) rfl rfl ⟨(blk_cell BK8.out 8).trans rfl, (blk_cell BK7.out 2).trans rfl⟩ (fun hHeld => ?_)
      generalize z1.drew = z2 at HB BK2 BK4 BK8 BK7 hHeld ⊢
      refine pure_ (i := 0) (N := some 97) (v := ?_) (a' := ?_) #[true, false, false, false, false, false, false, false, false, false] rfl rfl (by kernel_rfl) (fun c_ a_ w_ h => hpan c_ (Act.put a_ _ _) a_ w_ (by rfl) h) (Or.inl ⟨by rfl, ?_⟩) ?_ ?_
      rotate_left
      ·
       intro w'
       go_simp
       with_reducible rfl
      rotate_left
      ·
       simp only [Act.put, List.setIfInBounds_toArray, List.set_cons_zero, List.set_cons_succ, i64_w, i32_w]
       rfl
      refine pure_ (i := 1) (N := some 98) (v := ?_) (a' := ?_) #[true, true, false, false, false, false, false, false, false, false] rfl rfl (by kernel_rfl) (fun c_ a_ w_ h => hpan c_ (Act.put a_ _ _) a_ w_ (by rfl) h) (Or.inl ⟨by rfl, ?_⟩) ?_ ?_
      rotate_left
      ·
       intro w'
       go_simp
       with_reducible rfl
      rotate_left
      ·
       simp only [Act.put, List.setIfInBounds_toArray, List.set_cons_zero, List.set_cons_succ, i64_w, i32_w]
       rfl
      refine pure_ (i := 2) (N := some 99) (v := ?_) (a' := ?_) #[true, true, true, false, false, false, false, false, false, false] rfl rfl (by kernel_rfl) (fun c_ a_ w_ h => hpan c_ (Act.put a_ _ _) a_ w_ (by rfl) h) (Or.inl ⟨by rfl, ?_⟩) ?_ ?_
      rotate_left
      ·
       intro w'
       go_simp
       with_reducible rfl
      rotate_left
      ·
       simp only [Act.put, List.setIfInBounds_toArray, List.set_cons_zero, List.set_cons_succ, i64_w, i32_w]
       rfl
      refine pure_ (i := 4) (N := some 101) (v := ?_) (a' := ?_) #[true, true, true, false, true, false, false, false, false, false] rfl rfl (by kernel_rfl) (fun c_ a_ w_ h => hpan c_ (Act.put a_ _ _) a_ w_ (by rfl) h) (Or.inl ⟨by rfl, ?_⟩) ?_ ?_
      rotate_left
      ·
       intro w'
       go_simp
       with_reducible rfl
      rotate_left
      ·
       simp only [Act.put, List.setIfInBounds_toArray, List.set_cons_zero, List.set_cons_succ, i64_w, i32_w]
       rfl
      refine take_ (i := 3) (N := some 100) (v := ?_) (a' := ?_) #[true, true, true, true, true, false, false, false, false, false] rfl rfl (by kernel_rfl) (fun c_ a_ w_ h => hpan c_ (Act.put a_ _ _) a_ w_ (by rfl) h) (Or.inl ⟨by rfl, ?_⟩) hHeld ?_ ?_
      rotate_left
      ·
       rintro w' ⟨s0, s1⟩
       go_simp
       with_reducible rfl
      rotate_left
      ·
       simp only [Act.put, List.setIfInBounds_toArray, List.set_cons_zero, List.set_cons_succ, i64_w, i32_w]
       rfl
      refine take_ (i := 5) (N := some 102) (v := ?_) (a' := ?_) #[true, true, true, true, true, true, false, false, false, false] rfl rfl (by kernel_rfl) (fun c_ a_ w_ h => hpan c_ (Act.put a_ _ _) a_ w_ (by rfl) h) (Or.inl ⟨by rfl, ?_⟩) hHeld ?_ ?_
      rotate_left
      ·
       rintro w' ⟨s0, s1⟩
       go_simp
       with_reducible rfl
      rotate_left
      ·
       simp only [Act.put, List.setIfInBounds_toArray, List.set_cons_zero, List.set_cons_succ, i64_w, i32_w]
       rfl
      refine pure_ (i := 6) (N := some 103) (v := ?_) (a' := ?_) #[true, true, true, true, true, true, true, false, false, false] rfl rfl (by kernel_rfl) (fun c_ a_ w_ h => hpan c_ (Act.put a_ _ _) a_ w_ (by rfl) h) (Or.inl ⟨by rfl, ?_⟩) ?_ ?_
      rotate_left
      ·
       intro w'
       go_simp
       with_reducible rfl
      rotate_left
      ·
       simp only [Act.put, List.setIfInBounds_toArray, List.set_cons_zero, List.set_cons_succ, i64_w, i32_w]
       rfl
      refine pure_ (i := 7) (N := some 104) (v := ?_) (a' := ?_) #[true, true, true, true, true, true, true, true, false, false] rfl rfl (by kernel_rfl) (fun c_ a_ w_ h => hpan c_ (Act.put a_ _ _) a_ w_ (by rfl) h) (Or.inl ⟨by rfl, ?_⟩) ?_ ?_
      rotate_left
      ·
       intro w'
       go_simp
       with_reducible rfl
      rotate_left
      ·
       simp only [Act.put, List.setIfInBounds_toArray, List.set_cons_zero, List.set_cons_succ, i64_w, i32_w]
       rfl
      refine pure_ (i := 8) (N := some 105) (v := ?_) (a' := ?_) #[true, true, true, true, true, true, true, true, true, false] rfl rfl (by kernel_rfl) (fun c_ a_ w_ h => hpan c_ (Act.put a_ _ _) a_ w_ (by rfl) h) (Or.inl ⟨by rfl, ?_⟩) ?_ ?_
      rotate_left
      ·
       intro w'
       go_simp
       with_reducible rfl
      rotate_left
      ·
       simp only [Act.put, List.setIfInBounds_toArray, List.set_cons_zero, List.set_cons_succ, i64_w, i32_w]
       rfl
      refine last_ (i := 9) (N := none) #[true, true, true, true, true, true, true, true, true, true] rfl rfl (by kernel_rfl) (by decide) (fun K hK => ?_)
      have kf := blk_frozen BK8.out 8
      have kc := hHeld.1
      refine skip_ (w1 := ?_) (by rfl) rfl ?_ ?_
      rotate_left
      ·
       go_simp
       rfl
      refine hK.out _ _ ?_
      clear hK K
      refine done_ (by kernel_rfl) ?_
      clear hHeld kf kc hs0 ht0
      have n_HB := Aside0.mk (HB.out.setCell (p := ⟨g8, 8, none⟩) (show w.heap.size ≤ g8 by omega) (.int .i64 vu))
      have n_BK2 := Aside0.mk ((Below.heap_setCell z2 ⟨g8, 8, none⟩ (.int .i64 vu) w.heap.size (show w.heap.size ≠ g8 by omega)).trans BK2.out)
      have n_BK4 := Aside0.mk ((Below.heap_setCell z2 ⟨g8, 8, none⟩ (.int .i64 vu) g4 (show g4 ≠ g8 by omega)).trans BK4.out)
      have n_BK7 := Aside0.mk ((Below.heap_setCell z2 ⟨g8, 8, none⟩ (.int .i64 vu) g7 (show g7 ≠ g8 by omega)).trans BK7.out)
      have n_BK8 := Aside0.mk (blk_put BK8.out 8 (.int .i64 vu) (show (row18 _ _ _).setIfInBounds 8 _ = row18 ra ⟨o1, ia, vu, na, wa, 0⟩ rb from rfl))
      clear HB BK8 BK2 BK4 BK7
      generalize z2.setCell ⟨g8, 8, none⟩ (.int .i64 vu) = z3 at n_HB n_BK8 n_BK2 n_BK4 n_BK7 ⊢
      have HB := n_HB
      clear n_HB
      have BK8 := n_BK8
      clear n_BK8
      have BK2 := n_BK2
      clear n_BK2
      have BK4 := n_BK4
      clear n_BK4
      have BK7 := n_BK7
      clear n_BK7
      have hk0 : z3.cell? ⟨g7, 0, none⟩ = some (.int .i64 x.f0) := blk_cell BK7.out 0
      have hk1 : z3.cell? ⟨g7, 1, none⟩ = some (.int .i64 x.f1) := blk_cell BK7.out 1
      have hk2 : z3.cell? ⟨g7, 2, none⟩ = some (.int .i64 x.f2) := blk_cell BK7.out 2
      have hk3 : z3.cell? ⟨g7, 3, none⟩ = some (.int .i64 x.f3) := blk_cell BK7.out 3
      have hk4 : z3.cell? ⟨g7, 4, none⟩ = some (.int .i64 x.f4) := blk_cell BK7.out 4
      go_wp2_with fail
      go_roundw
      case measure => simp [intOf]; omega
      case rel =>
       refine ⟨k + 1, by omega, by go_num, BK2, BK4, ⟨?_⟩, HB⟩
       rw [HT.out, lombardref16_Roll.wayC HP.out E1.out E3.out]
       rw [← HVU.out]; exact BK8.out
     ·
      have E3 := Aside0.mk e3
      have t1 : (x.f0 != x.f1) = true := by simpa using e1
      have t2 : (x.f1 == 2) = false := by simpa using e2
      have t3 : (x.f0 == 2) = false := by simpa using e3
      clear e1 e2 e3
      go_wp2_with fail
      go_roundw
      case measure => simp [intOf]; omega
      case rel =>
       refine ⟨k + 1, by omega, by go_num, BK2, BK4, ⟨?_⟩, HB⟩
       rw [HT.out, lombardref16_Roll.wayB HP.out E2.out (Or.inr E3.out)]
       exact BK8.out
  case neg =>
   have hkl : k = l.length := by omega
   rw [hkl, List.take_of_length_le (Nat.le_refl _)] at HP
   rw [← HP.out] at BK8
   clear hk hlt
   subst hkl
   go_wp2_with fail
   exact ⟨BK2, BK4, BK8, HB⟩
set_option maxHeartbeats 16000000 in
set_option maxRecDepth 1000000 in
theorem lombardref16_Roll.inner2 {A : Option Addr} {c : Nat} {l : List S40} {o0 o1 o2 : Int} {w w0 : World} {g4 g8 : Nat} {ra rb : Row6} {Q0 : Exit → Act → World → Prop} {c0 c1 c2 c3 c4 c5 c6 c7 c9 c10 c12 c14 c15 c16 c17 c18 c19 c20 c21 c22 c23 c24 c25 c26 c27 c28 c29 c30 c31 c32 c33 c34 c35 c36 c37 c38 c39 c40 c41 c42 c43 c44 c45 c46 c47 c48 c49 c50 c51 c52 c53 c54 c55 c56 c57 c58 c59 c60 c61 c62 c63 c64 c65 c66 c67 c68 c69 c70 c71 c72 c73 c74 c75 c76 c77 c78 c157 c158 c159 c160 c161 c162 c163 c164 c165 c166 c167 c168 c169 c170 c171 c172 c173 c174 c175 c176 c177 c178 c179 c180 c181 c182 c183 c184 c185 : Value} {u13 u82 u83 u84 u85 u86 u87 u88 u89 u90 u91 u92 u93 u94 u95 u96 u97 u98 u99 u100 u101 u102 u103 u104 u105 u106 u107 u108 u109 u110 u111 u112 u113 u114 u115 u116 u117 u118 u119 u120 u121 u122 u123 u124 u125 u126 u127 u128 u129 u130 u131 u132 u133 u134 u135 u136 u137 u138 u139 u140 u141 u142 u143 u144 u145 u146 u147 u148 u149 u150 u151 u152 u153 u154 u155 u156 : Value}
  (HR : Aside0 (Kd.C k40 w A l.length l)) (hl : l.length ≤ 4096) (HOK : Aside0 (∀ x ∈ l, allow_Change.ok (cv x))) (hg4 : w.heap.size < g4) (hg8 : g4 < g8)
  (BK2 : Aside0 (w0.heap[w.heap.size]? = some (.cells #[.int .i64 o0, .int .i64 o1, .int .i64 o2] 22 (0, 0)))) (BK4 : Aside0 (w0.heap[g4]? = some (.cells (row18 Row6.z Row6.z Row6.z) 34 (0, 0)))) (BK8 : Aside0 (w0.heap[g8]? = some (.cells (row18 ra rb ⟨o2, 0, 0, 0, 0, 0⟩) 34 (0, 0)))) (HB : Aside0 (Below w.heap.size w w0))
  (hpan : ∀ c_ (a_ b_ : Act) w_, a_.defers = b_.defers → Q0 (Exit.panic c_) a_ w_ → Q0 (Exit.panic c_) b_ w_) (hexit : ∀ (x13 x81 x82 x83 x84 x85 x86 x87 x88 x89 x90 x91 x92 x93 x94 x95 x96 x97 x98 x99 x100 x101 x102 x103 x104 x105 x106 x107 x108 x109 x110 x111 x112 x113 x114 x115 x116 x117 x118 x119 x120 x121 x122 x123 x124 x125 x126 x127 x128 x129 x130 x131 x132 x133 x134 x135 x136 x137 x138 x139 x140 x141 x142 x143 x144 x145 x146 x147 x148 x149 x150 x151 x152 x153 x154 x155 x156 : Value) (w1 : World), Aside0 (w1.heap[w.heap.size]? = some (.cells #[.int .i64 o0, .int .i64 o1, .int .i64 o2] 22 (0, 0))) ∧ Aside0 (w1.heap[g4]? = some (.cells (row18 Row6.z Row6.z Row6.z) 34 (0, 0))) ∧ Aside0 (w1.heap[g8]? = some (.cells (row18 ra rb (lombardref16_Roll.pre l o2 3)) 34 (0, 0))) ∧ Aside0 (Below w.heap.size w w1) → Q0 (Exit.exit 6) ⟨List.toArray (c0 :: c1 :: c2 :: c3 :: c4 :: c5 :: c6 :: c7 :: .pointer (some ⟨g8, 0, none⟩) :: c9 :: c10 :: .int .i64 2 :: c12 :: x13 :: c14 :: c15 :: c16 :: c17 :: c18 :: c19 :: c20 :: c21 :: c22 :: c23 :: c24 :: c25 :: c26 :: c27 :: c28 :: c29 :: c30 :: c31 :: c32 :: c33 :: c34 :: c35 :: c36 :: c37 :: c38 :: c39 :: c40 :: c41 :: c42 :: c43 :: c44 :: c45 :: c46 :: c47 :: c48 :: c49 :: c50 :: c51 :: c52 :: c53 :: c54 :: c55 :: c56 :: c57 :: c58 :: c59 :: c60 :: c61 :: c62 :: c63 :: c64 :: c65 :: c66 :: c67 :: c68 :: c69 :: c70 :: c71 :: c72 :: c73 :: c74 :: c75 :: c76 :: c77 :: c78 :: .slice A l.length c :: .int .i64 (l.length : Int) :: x81 :: x82 :: x83 :: x84 :: x85 :: x86 :: x87 :: x88 :: x89 :: x90 :: x91 :: x92 :: x93 :: x94 :: x95 :: x96 :: x97 :: x98 :: x99 :: x100 :: x101 :: x102 :: x103 :: x104 :: x105 :: x106 :: x107 :: x108 :: x109 :: x110 :: x111 :: x112 :: x113 :: x114 :: x115 :: x116 :: x117 :: x118 :: x119 :: x120 :: x121 :: x122 :: x123 :: x124 :: x125 :: x126 :: x127 :: x128 :: x129 :: x130 :: x131 :: x132 :: x133 :: x134 :: x135 :: x136 :: x137 :: x138 :: x139 :: x140 :: x141 :: x142 :: x143 :: x144 :: x145 :: x146 :: x147 :: x148 :: x149 :: x150 :: x151 :: x152 :: x153 :: x154 :: x155 :: x156 :: c157 :: c158 :: c159 :: c160 :: c161 :: c162 :: c163 :: c164 :: c165 :: c166 :: c167 :: c168 :: c169 :: c170 :: c171 :: c172 :: c173 :: c174 :: c175 :: c176 :: c177 :: c178 :: c179 :: c180 :: c181 :: c182 :: c183 :: c184 :: c185 :: []), []⟩ w1) :
  Code.wp Try.prog (Code.loop lombardref16_Roll.inner) Q0 ⟨List.toArray (c0 :: c1 :: c2 :: c3 :: c4 :: c5 :: c6 :: c7 :: .pointer (some ⟨g8, 0, none⟩) :: c9 :: c10 :: .int .i64 2 :: c12 :: u13 :: c14 :: c15 :: c16 :: c17 :: c18 :: c19 :: c20 :: c21 :: c22 :: c23 :: c24 :: c25 :: c26 :: c27 :: c28 :: c29 :: c30 :: c31 :: c32 :: c33 :: c34 :: c35 :: c36 :: c37 :: c38 :: c39 :: c40 :: c41 :: c42 :: c43 :: c44 :: c45 :: c46 :: c47 :: c48 :: c49 :: c50 :: c51 :: c52 :: c53 :: c54 :: c55 :: c56 :: c57 :: c58 :: c59 :: c60 :: c61 :: c62 :: c63 :: c64 :: c65 :: c66 :: c67 :: c68 :: c69 :: c70 :: c71 :: c72 :: c73 :: c74 :: c75 :: c76 :: c77 :: c78 :: .slice A l.length c :: .int .i64 (l.length : Int) :: .int .i64 0 :: u82 :: u83 :: u84 :: u85 :: u86 :: u87 :: u88 :: u89 :: u90 :: u91 :: u92 :: u93 :: u94 :: u95 :: u96 :: u97 :: u98 :: u99 :: u100 :: u101 :: u102 :: u103 :: u104 :: u105 :: u106 :: u107 :: u108 :: u109 :: u110 :: u111 :: u112 :: u113 :: u114 :: u115 :: u116 :: u117 :: u118 :: u119 :: u120 :: u121 :: u122 :: u123 :: u124 :: u125 :: u126 :: u127 :: u128 :: u129 :: u130 :: u131 :: u132 :: u133 :: u134 :: u135 :: u136 :: u137 :: u138 :: u139 :: u140 :: u141 :: u142 :: u143 :: u144 :: u145 :: u146 :: u147 :: u148 :: u149 :: u150 :: u151 :: u152 :: u153 :: u154 :: u155 :: u156 :: c157 :: c158 :: c159 :: c160 :: c161 :: c162 :: c163 :: c164 :: c165 :: c166 :: c167 :: c168 :: c169 :: c170 :: c171 :: c172 :: c173 :: c174 :: c175 :: c176 :: c177 :: c178 :: c179 :: c180 :: c181 :: c182 :: c183 :: c184 :: c185 :: []), []⟩ w0 := by
 conv => arg 2; arg 1; whnf
 go_loopw [81] (fun j wr => ∃ k : Nat, k ≤ l.length ∧ j = .int .i64 k ∧ Aside0 (wr.heap[w.heap.size]? = some (.cells #[.int .i64 o0, .int .i64 o1, .int .i64 o2] 22 (0, 0))) ∧ Aside0 (wr.heap[g4]? = some (.cells (row18 Row6.z Row6.z Row6.z) 34 (0, 0))) ∧ Aside0 (wr.heap[g8]? = some (.cells (row18 ra rb (lombardref16_Roll.pre (l.take k) o2 3)) 34 (0, 0))) ∧ Aside0 (Below w.heap.size w wr)) (fun j _ => l.length - (intOf j).toNat)
 case atStart => exact ⟨0, Nat.zero_le _, rfl, BK2, BK4, BK8, HB⟩
 case round =>
  clear BK2 BK4 BK8 HB
  obtain ⟨k, hk, rfl, BK2, BK4, BK8, HB⟩ := hrel
  obtain ⟨v3, hv⟩ : ∃ v, v = wr := ⟨_, rfl⟩
  subst hv
  obtain ⟨ia, ua, na, wa, hpre⟩ := lombardref16_Roll.pre_some (l.take k) o2 3
  rw [hpre] at BK8
  have HP := Aside0.mk hpre
  clear hpre
  by_cases hlt : k < l.length
  case pos =>
   obtain ⟨ad, rfl, hx0, hx1, hx2, hx3, hx4⟩ := at_T40 HR.out (k : Int) (by omega) (by omega)
   replace hx0 := (HB.out.cell (World.block_lt_of_cell? w _ hx0)).trans hx0
   replace hx1 := (HB.out.cell (World.block_lt_of_cell? w _ hx1)).trans hx1
   replace hx2 := (HB.out.cell (World.block_lt_of_cell? w _ hx2)).trans hx2
   replace hx3 := (HB.out.cell (World.block_lt_of_cell? w _ hx3)).trans hx3
   replace hx4 := (HB.out.cell (World.block_lt_of_cell? w _ hx4)).trans hx4
   rw [Int.toNat_natCast] at hx0 hx1 hx2 hx3 hx4
   have hrd : rd_T40 l (k : Int) = l[k] := by simp [rd_T40, List.getElem?_eq_getElem hlt]
   have HT := Aside0.mk (List.take_succ_eq_append_getElem hlt)
   have HXO := Aside0.mk (HOK.out _ (List.getElem_mem hlt))
   rw [hrd] at hx0 hx1 hx2 hx3 hx4
   clear hrd
   generalize l[k] = x at hx0 hx1 hx2 hx3 hx4 HT HXO
   obtain ⟨hnb, hnk⟩ := newrow2 v3 #[.int .i64 0, .int .i64 0, .int .i64 0, .int .i64 0, .int .i64 0] #[.int .i64 x.f0, .int .i64 x.f1, .int .i64 x.f2, .int .i64 x.f3, .int .i64 x.f4] 40
   go_wp2_with ((with_reducible refine gate_store (t := 40) (p := 13) (v := .tmp 84) rfl ?_); refine Shut.out ?_)
   unfold Shut
   refine store_rowTo rfl 40 (.tmp 13) (.tmp 84) rfl rfl v3.heap.size #[.int .i64 x.f0, .int .i64 x.f1, .int .i64 x.f2, .int .i64 x.f3, .int .i64 x.f4] rfl rfl 40 _ (blk_new v3 _) (by kernel_rfl) rfl (all5' _ _ _ _ _) ?_
   have n_HB := Aside0.mk (below_step HB.out hnb)
   have n_BK2 := Aside0.mk (blk_below BK2.out hnb)
   have n_BK4 := Aside0.mk (blk_below BK4.out hnb)
   have n_BK8 := Aside0.mk (blk_below BK8.out hnb)
   have n_BK7 := Aside0.mk hnk
   have hg7 := blk_lt BK8.out
   clear HB BK2 BK4 BK8 hnb hnk hx0 hx1 hx2 hx3 hx4
   generalize (v3.alloc (.cells #[.int .i64 0, .int .i64 0, .int .i64 0, .int .i64 0, .int .i64 0] 40)).setRow v3.heap.size #[.int .i64 x.f0, .int .i64 x.f1, .int .i64 x.f2, .int .i64 x.f3, .int .i64 x.f4] = z1 at n_HB n_BK2 n_BK4 n_BK8 n_BK7 ⊢
   generalize v3.heap.size = g7 at n_BK7 hg7 ⊢
   have HB := n_HB
   clear n_HB
   have BK2 := n_BK2
   clear n_BK2
   have BK4 := n_BK4
   clear n_BK4
   have BK8 := n_BK8
   clear n_BK8
   have BK7 := n_BK7
   clear n_BK7
   have hbd := lombardref16_Roll.pre_bd _ _ _ HP.out (fun y hy => HOK.out y (List.mem_of_mem_take hy)) (by rw [List.length_take]; omega)
   have hxo := HXO.out
   simp only [allow_Change.ok, cv] at hxo
   obtain ⟨vi, hvi⟩ : ∃ v, v = ia + x.f2 := ⟨_, rfl⟩
   obtain ⟨vu, hvu⟩ : ∃ v, v = ua + x.f2 := ⟨_, rfl⟩
   obtain ⟨d1, hd1⟩ : ∃ v, v = x.f3 - x.f2 := ⟨_, rfl⟩
   obtain ⟨d2, hd2⟩ : ∃ v, v = d1 + x.f4 := ⟨_, rfl⟩
   obtain ⟨vn, hvn⟩ : ∃ v, v = na + d2 := ⟨_, rfl⟩
   obtain ⟨vw, hvw⟩ : ∃ v, v = wa + x.f4 := ⟨_, rfl⟩
   have HVI := Aside0.mk hvi
   have HVU := Aside0.mk hvu
   have HVN := Aside0.mk (show vn = na + (x.f3 - x.f2 + x.f4) by omega)
   have HVW := Aside0.mk hvw
   have QI := Aside0.mk (show wrap64 (ia + x.f2) = vi by unfold wrap64; omega)
   have QU := Aside0.mk (show wrap64 (ua + x.f2) = vu by unfold wrap64; omega)
   have QD1 := Aside0.mk (show wrap64 (x.f3 - x.f2) = d1 by unfold wrap64; omega)
   have QD2 := Aside0.mk (show wrap64 (d1 + x.f4) = d2 by unfold wrap64; omega)
   have QN := Aside0.mk (show wrap64 (na + d2) = vn by unfold wrap64; omega)
   have QW := Aside0.mk (show wrap64 (wa + x.f4) = vw by unfold wrap64; omega)
   have hg74 : g7 ≠ g4 := by omega
   clear hvi hvu hd1 hd2 hvn hvw hbd hxo
   have hk0 : z1.cell? ⟨g7, 0, none⟩ = some (.int .i64 x.f0) := blk_cell BK7.out 0
   have hk1 : z1.cell? ⟨g7, 1, none⟩ = some (.int .i64 x.f1) := blk_cell BK7.out 1
   have hk2 : z1.cell? ⟨g7, 2, none⟩ = some (.int .i64 x.f2) := blk_cell BK7.out 2
   have hk3 : z1.cell? ⟨g7, 3, none⟩ = some (.int .i64 x.f3) := blk_cell BK7.out 3
   have hk4 : z1.cell? ⟨g7, 4, none⟩ = some (.int .i64 x.f4) := blk_cell BK7.out 4
   have HE1 : x.f0 = x.f1 ∨ ¬ x.f0 = x.f1 := Classical.em _
   have HE2 : x.f1 = 3 ∨ ¬ x.f1 = 3 := Classical.em _
   have HE3 : x.f0 = 3 ∨ ¬ x.f0 = 3 := Classical.em _
   rcases HE1 with e1 | e1
   ·
    rcases HE2 with e2 | e2
    ·
     have E1 := Aside0.mk e1
     have E2 := Aside0.mk e2
     have e3 : x.f0 = 3 := e1.trans e2
     clear HE3
     have t1 : (x.f0 != x.f1) = false := by simpa using e1
     have t2 : (x.f1 == 3) = true := by simpa using e2
     clear e1 e2 e3
     go_wp2_with fail
     clear hk0 hk1 hk2 hk3 hk4
     have n_HB := Aside0.mk (below_drew1 HB.out)
     have n_BK2 := Aside0.mk (blk_drew BK2.out)
     have n_BK4 := Aside0.mk (blk_drew BK4.out)
     have n_BK8 := Aside0.mk (blk_drew BK8.out)
     have n_BK7 := Aside0.mk (blk_drew BK7.out)
     clear HB BK2 BK4 BK8 BK7
     have HB := n_HB
     clear n_HB
     have BK2 := n_BK2
     clear n_BK2
     have BK4 := n_BK4
     clear n_BK4
     have BK8 := n_BK8
     clear n_BK8
     have BK7 := n_BK7
     clear n_BK7
     have hs0 := QD1.out
     have ht0 := (i64_w _).trans QD1.out
     have hs1 := QD2.out
     have ht1 := (i64_w _).trans QD2.out
     have hs2 := QN.out
     have ht2 := (i64_w _).trans QN.out
     refine start_ (n := 16) (S := fun w' => w'.cell? ⟨g8, 15, none⟩ = some (.int .i64 na) ∧ w'.cell? ⟨g7, 2, none⟩ = some (.int .i64 x.f2) ∧ w'.cell? ⟨g7, 3, none⟩ = some (.int .i64 x.f3) ∧ w'.cell? ⟨g7, 4, none⟩ = some (.int .i64 x.f4)) (ds := [15]) #[false, false, false, false, false, false, false, false, false, false, false, false, false, false, false, false] (by kernel_rfl) rfl rfl ⟨(blk_cell BK8.out 15).trans rfl, (blk_cell BK7.out 2).trans rfl, (blk_cell BK7.out 3).trans rfl, (blk_cell BK7.out 4).trans rfl⟩ (fun hHeld => ?_)
     generalize z1.drew = z2 at HB BK2 BK4 BK8 BK7 hHeld ⊢
     refine pure_ (i := 0) (N := some 132) (v := ?_) (a' := ?_) #[true, false, false, false, false, false, false, false, false, false, false, false, false, false, false, false] rfl rfl (by kernel_rfl) (fun c_ a_ w_ h => hpan c_ (Act.put a_ _ _) a_ w_ (by rfl) h) (Or.inl ⟨by rfl, ?_⟩) ?_ ?_
     rotate_left
     ·
      intro w'
      go_simp
      with_reducible rfl
     rotate_left
     ·
      simp only [Act.put, List.setIfInBounds_toArray, List.set_cons_zero, List.set_cons_succ, i64_w, i32_w]
      rfl
     refine pure_ (i := 1) (N := some 133) (v := ?_) (a' := ?_) #[true, true, false, false, false, false, false, false, false, false, false, false, false, false, false, false] rfl rfl (by kernel_rfl) (fun c_ a_ w_ h => hpan c_ (Act.put a_ _ _) a_ w_ (by rfl) h) (Or.inl ⟨by rfl, ?_⟩) ?_ ?_
     rotate_left
     ·
      intro w'
      go_simp
      with_reducible rfl
     rotate_left
     ·
      simp only [Act.put, List.setIfInBounds_toArray, List.set_cons_zero, List.set_cons_succ, i64_w, i32_w]
      rfl
     refine pure_ (i := 2) (N := some 134) (v := ?_) (a' := ?_) #[true, true, true, false, false, false, false, false, false, false, false, false, false, false, false, false] rfl rfl (by kernel_rfl) (fun c_ a_ w_ h => hpan c_ (Act.put a_ _ _) a_ w_ (by rfl) h) (Or.inl ⟨by rfl, ?_⟩) ?_ ?_
     rotate_left
     ·
      intro w'
      go_simp
      with_reducible rfl
     rotate_left
     ·
      simp only [Act.put, List.setIfInBounds_toArray, List.set_cons_zero, List.set_cons_succ, i64_w, i32_w]
      rfl
     refine pure_ (i := 4) (N := some 136) (v := ?_) (a' := ?_) #[true, true, true, false, true, false, false, false, false, false, false, false, false, false, false, false] rfl rfl (by kernel_rfl) (fun c_ a_ w_ h => hpan c_ (Act.put a_ _ _) a_ w_ (by rfl) h) (Or.inl ⟨by rfl, ?_⟩) ?_ ?_
     rotate_left
     ·
      intro w'
      go_simp
      with_reducible rfl
     rotate_left
     ·
      simp only [Act.put, List.setIfInBounds_toArray, List.set_cons_zero, List.set_cons_succ, i64_w, i32_w]
      rfl
     refine pure_ (i := 6) (N := some 138) (v := ?_) (a' := ?_) #[true, true, true, false, true, false, true, false, false, false, false, false, false, false, false, false] rfl rfl (by kernel_rfl) (fun c_ a_ w_ h => hpan c_ (Act.put a_ _ _) a_ w_ (by rfl) h) (Or.inl ⟨by rfl, ?_⟩) ?_ ?_
     rotate_left
     ·
      intro w'
      go_simp
      with_reducible rfl
     rotate_left
     ·
      simp only [Act.put, List.setIfInBounds_toArray, List.set_cons_zero, List.set_cons_succ, i64_w, i32_w]
      rfl
     refine pure_ (i := 9) (N := some 141) (v := ?_) (a' := ?_) #[true, true, true, false, true, false, true, false, false, true, false, false, false, false, false, false] rfl rfl (by kernel_rfl) (fun c_ a_ w_ h => hpan c_ (Act.put a_ _ _) a_ w_ (by rfl) h) (Or.inl ⟨by rfl, ?_⟩) ?_ ?_
     rotate_left
     ·
      intro w'
      go_simp
      with_reducible rfl
     rotate_left
     ·
      simp only [Act.put, List.setIfInBounds_toArray, List.set_cons_zero, List.set_cons_succ, i64_w, i32_w]
      rfl
     refine take_ (i := 3) (N := some 135) (v := ?_) (a' := ?_) #[true, true, true, true, true, false, true, false, false, true, false, false, false, false, false, false] rfl rfl (by kernel_rfl) (fun c_ a_ w_ h => hpan c_ (Act.put a_ _ _) a_ w_ (by rfl) h) (Or.inl ⟨by rfl, ?_⟩) hHeld ?_ ?_
     rotate_left
     ·
      rintro w' ⟨s0, s1, s2, s3⟩
      go_simp
      with_reducible rfl
     rotate_left
     ·
      simp only [Act.put, List.setIfInBounds_toArray, List.set_cons_zero, List.set_cons_succ, i64_w, i32_w]
      rfl
     refine take_ (i := 5) (N := some 137) (v := ?_) (a' := ?_) #[true, true, true, true, true, true, true, false, false, true, false, false, false, false, false, false] rfl rfl (by kernel_rfl) (fun c_ a_ w_ h => hpan c_ (Act.put a_ _ _) a_ w_ (by rfl) h) (Or.inl ⟨by rfl, ?_⟩) hHeld ?_ ?_
     rotate_left
     ·
      rintro w' ⟨s0, s1, s2, s3⟩
      go_simp
      with_reducible rfl
     rotate_left
     ·
      simp only [Act.put, List.setIfInBounds_toArray, List.set_cons_zero, List.set_cons_succ, i64_w, i32_w]
      rfl
     refine take_ (i := 7) (N := some 139) (v := ?_) (a' := ?_) #[true, true, true, true, true, true, true, true, false, true, false, false, false, false, false, false] rfl rfl (by kernel_rfl) (fun c_ a_ w_ h => hpan c_ (Act.put a_ _ _) a_ w_ (by rfl) h) (Or.inl ⟨by rfl, ?_⟩) hHeld ?_ ?_
     rotate_left
     ·
      rintro w' ⟨s0, s1, s2, s3⟩
      go_simp
      with_reducible rfl
     rotate_left
     ·
      simp only [Act.put, List.setIfInBounds_toArray, List.set_cons_zero, List.set_cons_succ, i64_w, i32_w]
      rfl
     refine pure_ (i := 8) (N := some 140) (v := ?_) (a' := ?_) #[true, true, true, true, true, true, true, true, true, true, false, false, false, false, false, false] rfl rfl (by kernel_rfl) (fun c_ a_ w_ h => hpan c_ (Act.put a_ _ _) a_ w_ (by rfl) h) (Or.inl ⟨by rfl, ?_⟩) ?_ ?_
     rotate_left
     ·
      intro w'
      go_simp
      with_reducible rfl
     rotate_left
     ·
      simp only [Act.put, List.setIfInBounds_toArray, List.set_cons_zero, List.set_cons_succ, i64_w, i32_w]
      rfl
     refine take_ (i := 10) (N := some 142) (v := ?_) (a' := ?_) #[true, true, true, true, true, true, true, true, true, true, true, false, false, false, false, false] rfl rfl (by kernel_rfl) (fun c_ a_ w_ h => hpan c_ (Act.put a_ _ _) a_ w_ (by rfl) h) (Or.inl ⟨by rfl, ?_⟩) hHeld ?_ ?_
     rotate_left
     ·
      rintro w' ⟨s0, s1, s2, s3⟩
      go_simp
      with_reducible rfl
     rotate_left
     ·
      simp only [Act.put, List.setIfInBounds_toArray, List.set_cons_zero, List.set_cons_succ, i64_w, i32_w]
      rfl
     refine pure_ (i := 11) (N := some 143) (v := ?_) (a' := ?_) #[true, true, true, true, true, true, true, true, true, true, true, true, false, false, false, false] rfl rfl (by kernel_rfl) (fun c_ a_ w_ h => hpan c_ (Act.put a_ _ _) a_ w_ (by rfl) h) (Or.inl ⟨by rfl, ?_⟩) ?_ ?_
     rotate_left
     ·
      intro w'
      go_simp
      with_reducible rfl
     rotate_left
     ·
      simp only [Act.put, List.setIfInBounds_toArray, List.set_cons_zero, List.set_cons_succ, i64_w, i32_w]
      rfl
     refine pure_ (i := 12) (N := some 144) (v := ?_) (a' := ?_) #[true, true, true, true, true, true, true, true, true, true, true, true, true, false, false, false] rfl rfl (by kernel_rfl) (fun c_ a_ w_ h => hpan c_ (Act.put a_ _ _) a_ w_ (by rfl) h) (Or.inl ⟨by rfl, ?_⟩) ?_ ?_
     rotate_left
     ·
      intro w'
      go_simp
      with_reducible rfl
     rotate_left
     ·
      simp only [Act.put, List.setIfInBounds_toArray, List.set_cons_zero, List.set_cons_succ, i64_w, i32_w]
      rfl
     refine pure_ (i := 13) (N := some 145) (v := ?_) (a' := ?_) #[true, true, true, true, true, true, true, true, true, true, true, true, true, true, false, false] rfl rfl (by kernel_rfl) (fun c_ a_ w_ h => hpan c_ (Act.put a_ _ _) a_ w_ (by rfl) h) (Or.inl ⟨by rfl, ?_⟩) ?_ ?_
     rotate_left
     ·
      intro w'
      go_simp
      with_reducible rfl
     rotate_left
     ·
      simp only [Act.put, List.setIfInBounds_toArray, List.set_cons_zero, List.set_cons_succ, i64_w, i32_w]
      rfl
     refine pure_ (i := 14) (N := some 146) (v := ?_) (a' := ?_) #[true, true, true, true, true, true, true, true, true, true, true, true, true, true, true, false] rfl rfl (by kernel_rfl) (fun c_ a_ w_ h => hpan c_ (Act.put a_ _ _) a_ w_ (by rfl) h) (Or.inl ⟨by rfl, ?_⟩) ?_ ?_
     rotate_left
     ·
      intro w'
      go_simp
      with_reducible rfl
     rotate_left
     ·
      simp only [Act.put, List.setIfInBounds_toArray, List.set_cons_zero, List.set_cons_succ, i64_w, i32_w]
      rfl
     refine last_ (i := 15) (N := none) #[true, true, true, true, true, true, true, true, true, true, true, true, true, true, true, true] rfl rfl (by kernel_rfl) (by decide) (fun K hK => ?_)
     have kf := blk_frozen BK8.out 15
     have kc := hHeld.1
     refine skip_ (w1 := ?_) (by rfl) rfl ?_ ?_
     rotate_left
     ·
      go_simp
      rfl
     refine hK.out _ _ ?_
     clear hK K
     refine done_ (by kernel_rfl) ?_
     clear hHeld kf kc hs0 ht0 hs1 ht1 hs2 ht2
     have n_HB := Aside0.mk (HB.out.setCell (p := ⟨g8, 15, none⟩) (show w.heap.size ≤ g8 by omega) (.int .i64 vn))
     have n_BK2 := Aside0.mk ((Below.heap_setCell z2 ⟨g8, 15, none⟩ (.int .i64 vn) w.heap.size (show w.heap.size ≠ g8 by omega)).trans BK2.out)
     have n_BK4 := Aside0.mk ((Below.heap_setCell z2 ⟨g8, 15, none⟩ (.int .i64 vn) g4 (show g4 ≠ g8 by omega)).trans BK4.out)
     have n_BK7 := Aside0.mk ((Below.heap_setCell z2 ⟨g8, 15, none⟩ (.int .i64 vn) g7 (show g7 ≠ g8 by omega)).trans BK7.out)
     have n_BK8 := Aside0.mk (blk_put BK8.out 15 (.int .i64 vn) (show (row18 _ _ _).setIfInBounds 15 _ = row18 ra rb ⟨o2, ia, ua, vn, wa, 0⟩ from rfl))
     clear HB BK8 BK2 BK4 BK7
     generalize z2.setCell ⟨g8, 15, none⟩ (.int .i64 vn) = z3 at n_HB n_BK8 n_BK2 n_BK4 n_BK7 ⊢
     have HB := n_HB
     clear n_HB
     have BK8 := n_BK8
     clear n_BK8
     have BK2 := n_BK2
     clear n_BK2
     have BK4 := n_BK4
     clear n_BK4
     have BK7 := n_BK7
     clear n_BK7
     have hk0 : z3.cell? ⟨g7, 0, none⟩ = some (.int .i64 x.f0) := blk_cell BK7.out 0
     have hk1 : z3.cell? ⟨g7, 1, none⟩ = some (.int .i64 x.f1) := blk_cell BK7.out 1
     have hk2 : z3.cell? ⟨g7, 2, none⟩ = some (.int .i64 x.f2) := blk_cell BK7.out 2
     have hk3 : z3.cell? ⟨g7, 3, none⟩ = some (.int .i64 x.f3) := blk_cell BK7.out 3
     have hk4 : z3.cell? ⟨g7, 4, none⟩ = some (.int .i64 x.f4) := blk_cell BK7.out 4
     go_wp2_with fail
     clear hk0 hk1 hk2 hk3 hk4
     have n_HB := Aside0.mk (below_drew1 HB.out)
     have n_BK2 := Aside0.mk (blk_drew BK2.out)
     have n_BK4 := Aside0.mk (blk_drew BK4.out)
     have n_BK8 := Aside0.mk (blk_drew BK8.out)
     have n_BK7 := Aside0.mk (blk_drew BK7.out)
     clear HB BK2 BK4 BK8 BK7
     have HB := n_HB
     clear n_HB
     have BK2 := n_BK2
     clear n_BK2
     have BK4 := n_BK4
     clear n_BK4
     have BK8 := n_BK8
     clear n_BK8
     have BK7 := n_BK7
     clear n_BK7
     have hs0 := QW.out
     have ht0 := (i64_w _).trans QW.out
     refine start_ (n := 10) (S := fun w' => w'.cell? ⟨g8, 16, none⟩ = some (.int .i64 wa) ∧ w'.cell? ⟨g7, 4, none⟩ = some (.int .i64 x.f4)) (ds := [9]) #[false, false, false, false, false, false, false, false, false, false] (by kernel_rfl) rfl rfl ⟨(blk_cell BK8.out 16).trans rfl, (blk_cell BK7.out 4).trans rfl⟩ (fun hHeld => ?_)
     generalize z3.drew = z4 at HB BK2 BK4 BK8 BK7 hHeld ⊢
     refine pure_ (i := 0) (N := some 147) (v := ?_) (a' := ?_) #[true, false, false, false, false, false, false, false, false, false] rfl rfl (by kernel_rfl) (fun c_ a_ w_ h => hpan c_ (Act.put a_ _ _) a_ w_ (by rfl) h) (Or.inl ⟨by rfl, ?_⟩) ?_ ?_
     rotate_left
     ·
      intro w'
      go_simp
      with_reducible rfl
     rotate_left
     ·
      simp only [Act.put, List.setIfInBounds_toArray, List.set_cons_zero, List.set_cons_succ, i64_w, i32_w]
      rfl
     refine pure_ (i := 1) (N := some 148) (v := ?_) (a' := ?_) #[true, true, false, false, false, false, false, false, false, false] rfl rfl (by kernel_rfl) (fun c_ a_ w_ h => hpan c_ (Act.put a_ _ _) a_ w_ (by rfl) h) (Or.inl ⟨by rfl, ?_⟩) ?_ ?_
     rotate_left
     ·
      intro w'
      go_simp
      with_reducible rfl
     rotate_left
     ·
      simp only [Act.put, List.setIfInBounds_toArray, List.set_cons_zero, List.set_cons_succ, i64_w, i32_w]
      rfl
     refine pure_ (i := 2) (N := some 149) (v := ?_) (a' := ?_) #[true, true, true, false, false, false, false, false, false, false] rfl rfl (by kernel_rfl) (fun c_ a_ w_ h => hpan c_ (Act.put a_ _ _) a_ w_ (by rfl) h) (Or.inl ⟨by rfl, ?_⟩) ?_ ?_
     rotate_left
     ·
      intro w'
      go_simp
      with_reducible rfl
     rotate_left
     ·
      simp only [Act.put, List.setIfInBounds_toArray, List.set_cons_zero, List.set_cons_succ, i64_w, i32_w]
      rfl
     refine pure_ (i := 4) (N := some 151) (v := ?_) (a' := ?_) #[true, true, true, false, true, false, false, false, false, false] rfl rfl (by kernel_rfl) (fun c_ a_ w_ h => hpan c_ (Act.put a_ _ _) a_ w_ (by rfl) h) (Or.inl ⟨by rfl, ?_⟩) ?_ ?_
     rotate_left
     ·
      intro w'
      go_simp
      with_reducible rfl
     rotate_left
     ·
      simp only [Act.put, List.setIfInBounds_toArray, List.set_cons_zero, List.set_cons_succ, i64_w, i32_w]
      rfl
     refine take_ (i := 3) (N := some 150) (v := ?_) (a' := ?_) #[true, true, true, true, true, false, false, false, false, false] rfl rfl (by kernel_rfl) (fun c_ a_ w_ h => hpan c_ (Act.put a_ _ _) a_ w_ (by rfl) h) (Or.inl ⟨by rfl, ?_⟩) hHeld ?_ ?_
     rotate_left
     ·
      rintro w' ⟨s0, s1⟩
      go_simp
      with_reducible rfl
     rotate_left
     ·
      simp only [Act.put, List.setIfInBounds_toArray, List.set_cons_zero, List.set_cons_succ, i64_w, i32_w]
      rfl
     refine take_ (i := 5) (N := some 152) (v := ?_) (a' := ?_) #[true, true, true, true, true, true, false, false, false, false] rfl rfl (by kernel_rfl) (fun c_ a_ w_ h => hpan c_ (Act.put a_ _ _) a_ w_ (by rfl) h) (Or.inl ⟨by rfl, ?_⟩) hHeld ?_ ?_
     rotate_left
     ·
      rintro w' ⟨s0, s1⟩
      go_simp
      with_reducible rfl
     rotate_left
     ·
      simp only [Act.put, List.setIfInBounds_toArray, List.set_cons_zero, List.set_cons_succ, i64_w, i32_w]
      rfl
     refine pure_ (i := 6) (N := some 153) (v := ?_) (a' := ?_) #[true, true, true, true, true, true, true, false, false, false] rfl rfl (by kernel_rfl) (fun c_ a_ w_ h => hpan c_ (Act.put a_ _ _) a_ w_ (by rfl) h) (Or.inl ⟨by rfl, ?_⟩) ?_ ?_
     rotate_left
     ·
      intro w'
      go_simp
      with_reducible rfl
     rotate_left
     ·
      simp only [Act.put, List.setIfInBounds_toArray, List.set_cons_zero, List.set_cons_succ, i64_w, i32_w]
      rfl
     refine pure_ (i := 7) (N := some 154) (v := ?_) (a' := ?_) #[true, true, true, true, true, true, true, true, false, false] rfl rfl (by kernel_rfl) (fun c_ a_ w_ h => hpan c_ (Act.put a_ _ _) a_ w_ (by rfl) h) (Or.inl ⟨by rfl, ?_⟩) ?_ ?_
     rotate_left
     ·
      intro w'
      go_simp
      with_reducible rfl
     rotate_left
     ·
      simp only [Act.put, List.setIfInBounds_toArray, List.set_cons_zero, List.set_cons_succ, i64_w, i32_w]
      rfl
     refine pure_ (i := 8) (N := some 155) (v := ?_) (a' := ?_) #[true, true, true, true, true, true, true, true, true, false] rfl rfl (by kernel_rfl) (fun c_ a_ w_ h => hpan c_ (Act.put a_ _ _) a_ w_ (by rfl) h) (Or.inl ⟨by rfl, ?_⟩) ?_ ?_
     rotate_left
     ·
      intro w'
      go_simp
      with_reducible rfl
     rotate_left
     ·
      simp only [Act.put, List.setIfInBounds_toArray, List.set_cons_zero, List.set_cons_succ, i64_w, i32_w]
      rfl
     refine last_ (i := 9) (N := none) #[true, true, true, true, true, true, true, true, true, true] rfl rfl (by kernel_rfl) (by decide) (fun K hK => ?_)
     have kf := blk_frozen BK8.out 16
     have kc := hHeld.1
     refine skip_ (w1 := ?_) (by rfl) rfl ?_ ?_
     rotate_left
     ·
      go_simp
      rfl
     refine hK.out _ _ ?_
     clear hK K
     refine done_ (by kernel_rfl) ?_
     clear hHeld kf kc hs0 ht0
     have n_HB := Aside0.mk (HB.out.setCell (p := ⟨g8, 16, none⟩) (show w.heap.size ≤ g8 by omega) (.int .i64 vw))
     have n_BK2 := Aside0.mk ((Below.heap_setCell z4 ⟨g8, 16, none⟩ (.int .i64 vw) w.heap.size (show w.heap.size ≠ g8 by omega)).trans BK2.out)
     have n_BK4 := Aside0.mk ((Below.heap_setCell z4 ⟨g8, 16, none⟩ (.int .i64 vw) g4 (show g4 ≠ g8 by omega)).trans BK4.out)
     have n_BK7 := Aside0.mk ((Below.heap_setCell z4 ⟨g8, 16, none⟩ (.int .i64 vw) g7 (show g7 ≠ g8 by omega)).trans BK7.out)
     have n_BK8 := Aside0.mk (blk_put BK8.out 16 (.int .i64 vw) (show (row18 _ _ _).setIfInBounds 16 _ = row18 ra rb ⟨o2, ia, ua, vn, vw, 0⟩ from rfl))
     clear HB BK8 BK2 BK4 BK7
     generalize z4.setCell ⟨g8, 16, none⟩ (.int .i64 vw) = z5 at n_HB n_BK8 n_BK2 n_BK4 n_BK7 ⊢
     have HB := n_HB
     clear n_HB
     have BK8 := n_BK8
     clear n_BK8
     have BK2 := n_BK2
     clear n_BK2
     have BK4 := n_BK4
     clear n_BK4
     have BK7 := n_BK7
     clear n_BK7
     have hk0 : z5.cell? ⟨g7, 0, none⟩ = some (.int .i64 x.f0) := blk_cell BK7.out 0
     have hk1 : z5.cell? ⟨g7, 1, none⟩ = some (.int .i64 x.f1) := blk_cell BK7.out 1
     have hk2 : z5.cell? ⟨g7, 2, none⟩ = some (.int .i64 x.f2) := blk_cell BK7.out 2
     have hk3 : z5.cell? ⟨g7, 3, none⟩ = some (.int .i64 x.f3) := blk_cell BK7.out 3
     have hk4 : z5.cell? ⟨g7, 4, none⟩ = some (.int .i64 x.f4) := blk_cell BK7.out 4
     go_wp2_with fail
     go_roundw
     case measure => simp [intOf]; omega
     case rel =>
      refine ⟨k + 1, by omega, by go_num, BK2, BK4, ⟨?_⟩, HB⟩
      rw [HT.out, lombardref16_Roll.wayA HP.out E1.out E2.out]
      rw [← HVN.out, ← HVW.out]; exact BK8.out
    ·
     have E1 := Aside0.mk e1
     have E2 := Aside0.mk e2
     clear HE3
     have t1 : (x.f0 != x.f1) = false := by simpa using e1
     have t2 : (x.f1 == 3) = false := by simpa using e2
     clear e1 e2
     go_wp2_with fail
     go_roundw
     case measure => simp [intOf]; omega
     case rel =>
      refine ⟨k + 1, by omega, by go_num, BK2, BK4, ⟨?_⟩, HB⟩
      rw [HT.out, lombardref16_Roll.wayB HP.out E2.out (Or.inl E1.out)]
      exact BK8.out
   ·
    rcases HE2 with e2 | e2
    ·
     have E1 := Aside0.mk e1
     have E2 := Aside0.mk e2
     have e3 : ¬ x.f0 = 3 := fun z => e1 (z.trans e2.symm)
     clear HE3
     have t1 : (x.f0 != x.f1) = true := by simpa using e1
     have t2 : (x.f1 == 3) = true := by simpa using e2
     have t3 : (x.f0 == 3) = false := by simpa using e3
     clear e1 e2 e3
     go_wp2_with fail
     clear hk0 hk1 hk2 hk3 hk4
     have n_HB := Aside0.mk (below_drew1 HB.out)
     have n_BK2 := Aside0.mk (blk_drew BK2.out)
     have n_BK4 := Aside0.mk (blk_drew BK4.out)
     have n_BK8 := Aside0.mk (blk_drew BK8.out)
     have n_BK7 := Aside0.mk (blk_drew BK7.out)
     clear HB BK2 BK4 BK8 BK7
     have HB := n_HB
     clear n_HB
     have BK2 := n_BK2
     clear n_BK2
     have BK4 := n_BK4
     clear n_BK4
     have BK8 := n_BK8
     clear n_BK8
     have BK7 := n_BK7
     clear n_BK7
     have hs0 := QI.out
     have ht0 := (i64_w _).trans QI.out
     refine start_ (n := 10) (S := fun w' => w'.cell? ⟨g8, 13, none⟩ = some (.int .i64 ia) ∧ w'.cell? ⟨g7, 2, none⟩ = some (.int .i64 x.f2)) (ds := [9]) #[false, false, false, false, false, false, false, false, false, false] (by kernel_rfl) rfl rfl ⟨(blk_cell BK8.out 13).trans rfl, (blk_cell BK7.out 2).trans rfl⟩ (fun hHeld => ?_)
     generalize z1.drew = z2 at HB BK2 BK4 BK8 BK7 hHeld ⊢
     refine pure_ (i := 0) (N := some 118) (v := ?_) (a' := ?_) #[true, false, false, false, false, false, false, false, false, false] rfl rfl (by kernel_rfl) (fun c_ a_ w_ h => hpan c_ (Act.put a_ _ _) a_ w_ (by rfl) h) (Or.inl ⟨by rfl, ?_⟩) ?_ ?_
     rotate_left
     ·
      intro w'
      go_simp
      with_reducible rfl
     rotate_left
     ·
      simp only [Act.put, List.setIfInBounds_toArray, List.set_cons_zero, List.set_cons_succ, i64_w, i32_w]
      rfl
     refine pure_ (i := 1) (N := some 119) (v := ?_) (a' := ?_) #[true, true, false, false, false, false, false, false, false, false] rfl rfl (by kernel_rfl) (fun c_ a_ w_ h => hpan c_ (Act.put a_ _ _) a_ w_ (by rfl) h) (Or.inl ⟨by rfl, ?_⟩) ?_ ?_
     rotate_left
     ·
      intro w'
      go_simp
      with_reducible rfl
     rotate_left
     ·
      simp only [Act.put, List.setIfInBounds_toArray, List.set_cons_zero, List.set_cons_succ, i64_w, i32_w]
      rfl
     refine pure_ (i := 2) (N := some 120) (v := ?_) (a' := ?_) #[true, true, true, false, false, false, false, false, false, false] rfl rfl (by kernel_rfl) (fun c_ a_ w_ h => hpan c_ (Act.put a_ _ _) a_ w_ (by rfl) h) (Or.inl ⟨by rfl, ?_⟩) ?_ ?_
     rotate_left
     ·
      intro w'
      go_simp
      with_reducible rfl
     rotate_left
     ·
      simp only [Act.put, List.setIfInBounds_toArray, List.set_cons_zero, List.set_cons_succ, i64_w, i32_w]
      rfl
     refine pure_ (i := 4) (N := some 122) (v := ?_) (a' := ?_) #[true, true, true, false, true, false, false, false, false, false] rfl rfl (by kernel_rfl) (fun c_ a_ w_ h => hpan c_ (Act.put a_ _ _) a_ w_ (by rfl) h) (Or.inl ⟨by rfl, ?_⟩) ?_ ?_
     rotate_left
     ·
      intro w'
      go_simp
      with_reducible rfl
     rotate_left
     ·
      simp only [Act.put, List.setIfInBounds_toArray, List.set_cons_zero, List.set_cons_succ, i64_w, i32_w]
      rfl
     refine take_ (i := 3) (N := some 121) (v := ?_) (a' := ?_) #[true, true, true, true, true, false, false, false, false, false] rfl rfl (by kernel_rfl) (fun c_ a_ w_ h => hpan c_ (Act.put a_ _ _) a_ w_ (by rfl) h) (Or.inl ⟨by rfl, ?_⟩) hHeld ?_ ?_
     rotate_left
     ·
      rintro w' ⟨s0, s1⟩
      go_simp
      with_reducible rfl
     rotate_left
     ·
      simp only [Act.put, List.setIfInBounds_toArray, List.set_cons_zero, List.set_cons_succ, i64_w, i32_w]
      rfl
     refine take_ (i := 5) (N := some 123) (v := ?_) (a' := ?_) #[true, true, true, true, true, true, false, false, false, false] rfl rfl (by kernel_rfl) (fun c_ a_ w_ h => hpan c_ (Act.put a_ _ _) a_ w_ (by rfl) h) (Or.inl ⟨by rfl, ?_⟩) hHeld ?_ ?_
     rotate_left
     ·
      rintro w' ⟨s0, s1⟩
      go_simp
      with_reducible rfl
     rotate_left
     ·
      simp only [Act.put, List.setIfInBounds_toArray, List.set_cons_zero, List.set_cons_succ, i64_w, i32_w]
      rfl
     refine pure_ (i := 6) (N := some 124) (v := ?_) (a' := ?_) #[true, true, true, true, true, true, true, false, false, false] rfl rfl (by kernel_rfl) (fun c_ a_ w_ h => hpan c_ (Act.put a_ _ _) a_ w_ (by rfl) h) (Or.inl ⟨by rfl, ?_⟩) ?_ ?_
     rotate_left
     ·
      intro w'
      go_simp
      with_reducible rfl
     rotate_left
     ·
      simp only [Act.put, List.setIfInBounds_toArray, List.set_cons_zero, List.set_cons_succ, i64_w, i32_w]
      rfl
     refine pure_ (i := 7) (N := some 125) (v := ?_) (a' := ?_) #[true, true, true, true, true, true, true, true, false, false] rfl rfl (by kernel_rfl) (fun c_ a_ w_ h => hpan c_ (Act.put a_ _ _) a_ w_ (by rfl) h) (Or.inl ⟨by rfl, ?_⟩) ?_ ?_
     rotate_left
     ·
      intro w'
      go_simp
      with_reducible rfl
     rotate_left
     ·
      simp only [Act.put, List.setIfInBounds_toArray, List.set_cons_zero, List.set_cons_succ, i64_w, i32_w]
      rfl
     refine pure_ (i := 8) (N := some 126) (v := ?_) (a' := ?_) #[true, true, true, true, true, true, true, true, true, false] rfl rfl (by kernel_rfl) (fun c_ a_ w_ h => hpan c_ (Act.put a_ _ _) a_ w_ (by rfl) h) (Or.inl ⟨by rfl, ?_⟩) ?_ ?_
     rotate_left
     ·
      intro w'
      go_simp
      with_reducible rfl
     rotate_left
     ·
      simp only [Act.put, List.setIfInBounds_toArray, List.set_cons_zero, List.set_cons_succ, i64_w, i32_w]
      rfl
     refine last_ (i := 9) (N := none) #[true, true, true, true, true, true, true, true, true, true] rfl rfl (by kernel_rfl) (by decide) (fun K hK => ?_)
     have kf := blk_frozen BK8.out 13
     have kc := hHeld.1
     refine skip_ (w1 := ?_) (by rfl) rfl ?_ ?_
     rotate_left
     ·
      go_simp
      rfl
     refine hK.out _ _ ?_
     clear hK K
     refine done_ (by kernel_rfl) ?_
     clear hHeld kf kc hs0 ht0
     have n_HB := Aside0.mk (HB.out.setCell (p := ⟨g8, 13, none⟩) (show w.heap.size ≤ g8 by omega) (.int .i64 vi))
     have n_BK2 := Aside0.mk ((Below.heap_setCell z2 ⟨g8, 13, none⟩ (.int .i64 vi) w.heap.size (show w.heap.size ≠ g8 by omega)).trans BK2.out)
     have n_BK4 := Aside0.mk ((Below.heap_setCell z2 ⟨g8, 13, none⟩ (.int .i64 vi) g4 (show g4 ≠ g8 by omega)).trans BK4.out)
     have n_BK7 := Aside0.mk ((Below.heap_setCell z2 ⟨g8, 13, none⟩ (.int .i64 vi) g7 (show g7 ≠ g8 by omega)).trans BK7.out)
     have n_BK8 := Aside0.mk (blk_put BK8.out 13 (.int .i64 vi) (show (row18 _ _ _).setIfInBounds 13 _ = row18 ra rb ⟨o2, vi, ua, na, wa, 0⟩ from rfl))
     clear HB BK8 BK2 BK4 BK7
     generalize z2.setCell ⟨g8, 13, none⟩ (.int .i64 vi) = z3 at n_HB n_BK8 n_BK2 n_BK4 n_BK7 ⊢
     have HB := n_HB
     clear n_HB
     have BK8 := n_BK8
     clear n_BK8
     have BK2 := n_BK2
     clear n_BK2
     have BK4 := n_BK4
     clear n_BK4
     have BK7 := n_BK7
     clear n_BK7
     have hk0 : z3.cell? ⟨g7, 0, none⟩ = some (.int .i64 x.f0) := blk_cell BK7.out 0
     have hk1 : z3.cell? ⟨g7, 1, none⟩ = some (.int .i64 x.f1) := blk_cell BK7.out 1
     have hk2 : z3.cell? ⟨g7, 2, none⟩ = some (.int .i64 x.f2) := blk_cell BK7.out 2
     have hk3 : z3.cell? ⟨g7, 3, none⟩ = some (.int .i64 x.f3) := blk_cell BK7.out 3
     have hk4 : z3.cell? ⟨g7, 4, none⟩ = some (.int .i64 x.f4) := blk_cell BK7.out 4
     go_wp2_with fail
     clear hk0 hk1 hk2 hk3 hk4
     have n_HB := Aside0.mk (below_drew1 HB.out)
     have n_BK2 := Aside0.mk (blk_drew BK2.out)
     have n_BK4 := Aside0.mk (blk_drew BK4.out)
     have n_BK8 := Aside0.mk (blk_drew BK8.out)
     have n_BK7 := Aside0.mk (blk_drew BK7.out)
     clear HB BK2 BK4 BK8 BK7
     have HB := n_HB
     clear n_HB
     have BK2 := n_BK2
     clear n_BK2
     have BK4 := n_BK4
     clear n_BK4
     have BK8 := n_BK8
     clear n_BK8
     have BK7 := n_BK7
     clear n_BK7
     have hs0 := QD1.out
     have ht0 := (i64_w _).trans QD1.out
     have hs1 := QD2.out
     have ht1 := (i64_w _).trans QD2.out
     have hs2 := QN.out
     have ht2 := (i64_w _).trans QN.out
     refine start_ (n := 16) (S := fun w' => w'.cell? ⟨g8, 15, none⟩ = some (.int .i64 na) ∧ w'.cell? ⟨g7, 2, none⟩ = some (.int .i64 x.f2) ∧ w'.cell? ⟨g7, 3, none⟩ = some (.int .i64 x.f3) ∧ w'.cell? ⟨g7, 4, none⟩ = some (.int .i64 x.f4)) (ds := [15]) #[false, false, false, false, false, false, false, false, false, false, false, false, false, false, false, false] (by kernel_rfl) rfl rfl ⟨(blk_cell BK8.out 15).trans rfl, (blk_cell BK7.out 2).trans rfl, (blk_cell BK7.out 3).trans rfl, (blk_cell BK7.out 4).trans rfl⟩ (fun hHeld => ?_)
     generalize z3.drew = z4 at HB BK2 BK4 BK8 BK7 hHeld ⊢
     refine pure_ (i := 0) (N := some 132) (v := ?_) (a' := ?_) #[true, false, false, false, false, false, false, false, false, false, false, false, false, false, false, false] rfl rfl (by kernel_rfl) (fun c_ a_ w_ h => hpan c_ (Act.put a_ _ _) a_ w_ (by rfl) h) (Or.inl ⟨by rfl, ?_⟩) ?_ ?_
     rotate_left
     ·
      intro w'
      go_simp
      with_reducible rfl
     rotate_left
     ·
      simp only [Act.put, List.setIfInBounds_toArray, List.set_cons_zero, List.set_cons_succ, i64_w, i32_w]
      rfl
     refine pure_ (i := 1) (N := some 133) (v := ?_) (a' := ?_) #[true, true, false, false, false, false, false, false, false, false, false, false, false, false, false, false] rfl rfl (by kernel_rfl) (fun c_ a_ w_ h => hpan c_ (Act.put a_ _ _) a_ w_ (by rfl) h) (Or.inl ⟨by rfl, ?_⟩) ?_ ?_
     rotate_left
     ·
      intro w'
      go_simp
      with_reducible rfl
     rotate_left
     ·
      simp only [Act.put, List.setIfInBounds_toArray, List.set_cons_zero, List.set_cons_succ, i64_w, i32_w]
      rfl
     refine pure_ (i := 2) (N := some 134) (v := ?_) (a' := ?_) #[true, true, true, false, false, false, false, false, false, false, false, false, false, false, false, false] rfl rfl (by kernel_rfl) (fun c_ a_ w_ h => hpan c_ (Act.put a_ _ _) a_ w_ (by rfl) h) (Or.inl ⟨by rfl, ?_⟩) ?_ ?_
     rotate_left
     ·
      intro w'
      go_simp
      with_reducible rfl
     rotate_left
     ·
      simp only [Act.put, List.setIfInBounds_toArray, List.set_cons_zero, List.set_cons_succ, i64_w, i32_w]
      rfl
     refine pure_ (i := 4) (N := some 136) (v := ?_) (a' := ?_) #[true, true, true, false, true, false, false, false, false, false, false, false, false, false, false, false] rfl rfl (by kernel_rfl) (fun c_ a_ w_ h => hpan c_ (Act.put a_ _ _) a_ w_ (by rfl) h) (Or.inl ⟨by rfl, ?_⟩) ?_ ?_
     rotate_left
     ·
      intro w'
      go_simp
      with_reducible rfl
     rotate_left
     ·
      simp only [Act.put, List.setIfInBounds_toArray, List.set_cons_zero, List.set_cons_succ, i64_w, i32_w]
      rfl
     refine pure_ (i := 6) (N := some 138) (v := ?_) (a' := ?_) #[true, true, true, false, true, false, true, false, false, false, false, false, false, false, false, false] rfl rfl (by kernel_rfl) (fun c_ a_ w_ h => hpan c_ (Act.put a_ _ _) a_ w_ (by rfl) h) (Or.inl ⟨by rfl, ?_⟩) ?_ ?_
     rotate_left
     ·
      intro w'
      go_simp
      with_reducible rfl
     rotate_left
     ·
      simp only [Act.put, List.setIfInBounds_toArray, List.set_cons_zero, List.set_cons_succ, i64_w, i32_w]
      rfl
     refine pure_ (i := 9) (N := some 141) (v := ?_) (a' := ?_) #[true, true, true, false, true, false, true, false, false, true, false, false, false, false, false, false] rfl rfl (by kernel_rfl) (fun c_ a_ w_ h => hpan c_ (Act.put a_ _ _) a_ w_ (by rfl) h) (Or.inl ⟨by rfl, ?_⟩) ?_ ?_
     rotate_left
     ·
      intro w'
      go_simp
      with_reducible rfl
     rotate_left
     ·
      simp only [Act.put, List.setIfInBounds_toArray, List.set_cons_zero, List.set_cons_succ, i64_w, i32_w]
      rfl
     refine take_ (i := 3) (N := some 135) (v := ?_) (a' := ?_) #[true, true, true, true, true, false, true, false, false, true, false, false, false, false, false, false] rfl rfl (by kernel_rfl) (fun c_ a_ w_ h => hpan c_ (Act.put a_ _ _) a_ w_ (by rfl) h) (Or.inl ⟨by rfl, ?_⟩) hHeld ?_ ?_
     rotate_left
     ·
      rintro w' ⟨s0, s1, s2, s3⟩
      go_simp
      with_reducible rfl
     rotate_left
     ·
      simp only [Act.put, List.setIfInBounds_toArray, List.set_cons_zero, List.set_cons_succ, i64_w, i32_w]
      rfl
     refine take_ (i := 5) (N := some 137) (v := ?_) (a' := ?_) #[true, true, true, true, true, true, true, false, false, true, false, false, false, false, false, false] rfl rfl (by kernel_rfl) (fun c_ a_ w_ h => hpan c_ (Act.put a_ _ _) a_ w_ (by rfl) h) (Or.inl ⟨by rfl, ?_⟩) hHeld ?_ ?_
     rotate_left
     ·
      rintro w' ⟨s0, s1, s2, s3⟩
      go_simp
      with_reducible rfl
     rotate_left
     ·
      simp only [Act.put, List.setIfInBounds_toArray, List.set_cons_zero, List.set_cons_succ, i64_w, i32_w]
      rfl
     refine take_ (i := 7) (N := some 139) (v := ?_) (a' := ?_) #[true, true, true, true, true, true, true, true, false, true, false, false, false, false, false, false] rfl rfl (by kernel_rfl) (fun c_ a_ w_ h => hpan c_ (Act.put a_ _ _) a_ w_ (by rfl) h) (Or.inl ⟨by rfl, ?_⟩) hHeld ?_ ?_
     rotate_left
     ·
      rintro w' ⟨s0, s1, s2, s3⟩
      go_simp
      with_reducible rfl
     rotate_left
     ·
      simp only [Act.put, List.setIfInBounds_toArray, List.set_cons_zero, List.set_cons_succ, i64_w, i32_w]
      rfl
     refine pure_ (i := 8) (N := some 140) (v := ?_) (a' := ?_) #[true, true, true, true, true, true, true, true, true, true, false, false, false, false, false, false] rfl rfl (by kernel_rfl) (fun c_ a_ w_ h => hpan c_ (Act.put a_ _ _) a_ w_ (by rfl) h) (Or.inl ⟨by rfl, ?_⟩) ?_ ?_
     rotate_left
     ·
      intro w'
      go_simp
      with_reducible rfl
     rotate_left
     ·
      simp only [Act.put, List.setIfInBounds_toArray, List.set_cons_zero, List.set_cons_succ, i64_w, i32_w]
      rfl
     refine take_ (i := 10) (N := some 142) (v := ?_) (a' := ?_) #[true, true, true, true, true, true, true, true, true, true, true, false, false, false, false, false] rfl rfl (by kernel_rfl) (fun c_ a_ w_ h => hpan c_ (Act.put a_ _ _) a_ w_ (by rfl) h) (Or.inl ⟨by rfl, ?_⟩) hHeld ?_ ?_
     rotate_left
     ·
      rintro w' ⟨s0, s1, s2, s3⟩
      go_simp
      with_reducible rfl
     rotate_left
     ·
      simp only [Act.put, List.setIfInBounds_toArray, List.set_cons_zero, List.set_cons_succ, i64_w, i32_w]
      rfl
     refine pure_ (i := 11) (N := some 143) (v := ?_) (a' := ?_) #[true, true, true, true, true, true, true, true, true, true, true, true, false, false, false, false] rfl rfl (by kernel_rfl) (fun c_ a_ w_ h => hpan c_ (Act.put a_ _ _) a_ w_ (by rfl) h) (Or.inl ⟨by rfl, ?_⟩) ?_ ?_
     rotate_left
     ·
      intro w'
      go_simp
      with_reducible rfl
     rotate_left
     ·
      simp only [Act.put, List.setIfInBounds_toArray, List.set_cons_zero, List.set_cons_succ, i64_w, i32_w]
      rfl
     refine pure_ (i := 12) (N := some 144) (v := ?_) (a' := ?_) #[true, true, true, true, true, true, true, true, true, true, true, true, true, false, false, false] rfl rfl (by kernel_rfl) (fun c_ a_ w_ h => hpan c_ (Act.put a_ _ _) a_ w_ (by rfl) h) (Or.inl ⟨by rfl, ?_⟩) ?_ ?_
     rotate_left
     ·
      intro w'
      go_simp
      with_reducible rfl
     rotate_left
     ·
      simp only [Act.put, List.setIfInBounds_toArray, List.set_cons_zero, List.set_cons_succ, i64_w, i32_w]
      rfl
     refine pure_ (i := 13) (N := some 145) (v := ?_) (a' := ?_) #[true, true, true, true, true, true, true, true, true, true, true, true, true, true, false, false] rfl rfl (by kernel_rfl) (fun c_ a_ w_ h => hpan c_ (Act.put a_ _ _) a_ w_ (by rfl) h) (Or.inl ⟨by rfl, ?_⟩) ?_ ?_
     rotate_left
     ·
      intro w'
      go_simp
      with_reducible rfl
     rotate_left
     ·
      simp only [Act.put, List.setIfInBounds_toArray, List.set_cons_zero, List.set_cons_succ, i64_w, i32_w]
      rfl
     refine pure_ (i := 14) (N := some 146) (v := ?_) (a' := ?_) #[true, true, true, true, true, true, true, true, true, true, true, true, true, true, true, false] rfl rfl (by kernel_rfl) (fun c_ a_ w_ h => hpan c_ (Act.put a_ _ _) a_ w_ (by rfl) h) (Or.inl ⟨by rfl, ?_⟩) ?_ ?_
     rotate_left
     ·
      intro w'
      go_simp
      with_reducible rfl
     rotate_left
     ·
      simp only [Act.put, List.setIfInBounds_toArray, List.set_cons_zero, List.set_cons_succ, i64_w, i32_w]
      rfl
     refine last_ (i := 15) (N := none) #[true, true, true, true, true, true, true, true, true, true, true, true, true, true, true, true] rfl rfl (by kernel_rfl) (by decide) (fun K hK => ?_)
     have kf := blk_frozen BK8.out 15
     have kc := hHeld.1
     refine skip_ (w1 := ?_) (by rfl) rfl ?_ ?_
     rotate_left
     ·
      go_simp
      rfl
     refine hK.out _ _ ?_
     clear hK K
     refine done_ (by kernel_rfl) ?_
     clear hHeld kf kc hs0 ht0 hs1 ht1 hs2 ht2
     have n_HB := Aside0.mk (HB.out.setCell (p := ⟨g8, 15, none⟩) (show w.heap.size ≤ g8 by omega) (.int .i64 vn))
     have n_BK2 := Aside0.mk ((Below.heap_setCell z4 ⟨g8, 15, none⟩ (.int .i64 vn) w.heap.size (show w.heap.size ≠ g8 by omega)).trans BK2.out)
     have n_BK4 := Aside0.mk ((Below.heap_setCell z4 ⟨g8, 15, none⟩ (.int .i64 vn) g4 (show g4 ≠ g8 by omega)).trans BK4.out)
     have n_BK7 := Aside0.mk ((Below.heap_setCell z4 ⟨g8, 15, none⟩ (.int .i64 vn) g7 (show g7 ≠ g8 by omega)).trans BK7.out)
     have n_BK8 := Aside0.mk (blk_put BK8.out 15 (.int .i64 vn) (show (row18 _ _ _).setIfInBounds 15 _ = row18 ra rb ⟨o2, vi, ua, vn, wa, 0⟩ from rfl))
     clear HB BK8 BK2 BK4 BK7
     generalize z4.setCell ⟨g8, 15, none⟩ (.int .i64 vn) = z5 at n_HB n_BK8 n_BK2 n_BK4 n_BK7 ⊢
     have HB := n_HB
     clear n_HB
     have BK8 := n_BK8
     clear n_BK8
     have BK2 := n_BK2
     clear n_BK2
     have BK4 := n_BK4
     clear n_BK4
     have BK7 := n_BK7
     clear n_BK7
     have hk0 : z5.cell? ⟨g7, 0, none⟩ = some (.int .i64 x.f0) := blk_cell BK7.out 0
     have hk1 : z5.cell? ⟨g7, 1, none⟩ = some (.int .i64 x.f1) := blk_cell BK7.out 1
     have hk2 : z5.cell? ⟨g7, 2, none⟩ = some (.int .i64 x.f2) := blk_cell BK7.out 2
     have hk3 : z5.cell? ⟨g7, 3, none⟩ = some (.int .i64 x.f3) := blk_cell BK7.out 3
     have hk4 : z5.cell? ⟨g7, 4, none⟩ = some (.int .i64 x.f4) := blk_cell BK7.out 4
     go_wp2_with fail
     clear hk0 hk1 hk2 hk3 hk4
     have n_HB := Aside0.mk (below_drew1 HB.out)
     have n_BK2 := Aside0.mk (blk_drew BK2.out)
     have n_BK4 := Aside0.mk (blk_drew BK4.out)
     have n_BK8 := Aside0.mk (blk_drew BK8.out)
     have n_BK7 := Aside0.mk (blk_drew BK7.out)
     clear HB BK2 BK4 BK8 BK7
     have HB := n_HB
     clear n_HB
     have BK2 := n_BK2
     clear n_BK2
     have BK4 := n_BK4
     clear n_BK4
     have BK8 := n_BK8
     clear n_BK8
     have BK7 := n_BK7
     clear n_BK7
     have hs0 := QW.out
     have ht0 := (i64_w _).trans QW.out
     refine start_ (n := 10) (S := fun w' => w'.cell? ⟨g8, 16, none⟩ = some (.int .i64 wa) ∧ w'.cell? ⟨g7, 4, none⟩ = some (.int .i64 x.f4)) (ds := [9]) #[false, false, false, false, false, false, false, false, false, false] (by kernel_rfl) rfl rfl ⟨(blk_cell BK8.out 16).trans rfl, (blk_cell BK7.out 4).trans rfl⟩ (fun hHeld => ?_)
     generalize z5.drew = z6 at HB BK2 BK4 BK8 BK7 hHeld ⊢
     refine pure_ (i := 0) (N := some 147) (v := ?_) (a' := ?_) #[true, false, false, false, false, false, false, false, false, false] rfl rfl (by kernel_rfl) (fun c_ a_ w_ h => hpan c_ (Act.put a_ _ _) a_ w_ (by rfl) h) (Or.inl ⟨by rfl, ?_⟩) ?_ ?_
     rotate_left
     ·
      intro w'
      go_simp
      with_reducible rfl
     rotate_left
     ·
      simp only [Act.put, List.setIfInBounds_toArray, List.set_cons_zero, List.set_cons_succ, i64_w, i32_w]
      rfl
     refine pure_ (i := 1) (N := some 148) (v := ?_) (a' := ?_) #[true, true, false, false, false, false, false, false, false, false] rfl rfl (by kernel_rfl) (fun c_ a_ w_ h => hpan c_ (Act.put a_ _ _) a_ w_ (by rfl) h) (Or.inl ⟨by rfl, ?_⟩) ?_ ?_
     rotate_left
     ·
      intro w'
      go_simp
      with_reducible rfl
     rotate_left
     ·
      simp only [Act.put, List.setIfInBounds_toArray, List.set_cons_zero, List.set_cons_succ, i64_w, i32_w]
      rfl
     refine pure_ (i := 2) (N := some 149) (v := ?_) (a' := ?_) #[true, true, true, false, false, false, false, false, false, false] rfl rfl (by kernel_rfl) (fun c_ a_ w_ h => hpan c_ (Act.put a_ _ _) a_ w_ (by rfl) h) (Or.inl ⟨by rfl, ?_⟩) ?_ ?_
     rotate_left
     ·
      intro w'
      go_simp
      with_reducible rfl
     rotate_left
     ·
      simp only [Act.put, List.setIfInBounds_toArray, List.set_cons_zero, List.set_cons_succ, i64_w, i32_w]
      rfl
     refine pure_ (i := 4) (N := some 151) (v := ?_) (a' := ?_) #[true, true, true, false, true, false, false, false, false, false] rfl rfl (by kernel_rfl) (fun c_ a_ w_ h => hpan c_ (Act.put a_ _ _) a_ w_ (by rfl) h) (Or.inl ⟨by rfl, ?_⟩) ?_ ?_
     rotate_left
     ·
      intro w'
      go_simp
      with_reducible rfl
     rotate_left
     ·
      simp only [Act.put, List.setIfInBounds_toArray, List.set_cons_zero, List.set_cons_succ, i64_w, i32_w]
      rfl
     refine take_ (i := 3) (N := some 150) (v := ?_) (a' := ?_) #[true, true, true, true, true, false, false, false, false, false] rfl rfl (by kernel_rfl) (fun c_ a_ w_ h => hpan c_ (Act.put a_ _ _) a_ w_ (by rfl) h) (Or.inl ⟨by rfl, ?_⟩) hHeld ?_ ?_
     rotate_left
     ·
      rintro w' ⟨s0, s1⟩
      go_simp
      with_reducible rfl
     rotate_left
     ·
      simp only [Act.put, List.setIfInBounds_toArray, List.set_cons_zero, List.set_cons_succ, i64_w, i32_w]
      rfl
     refine take_ (i := 5) (N := some 152) (v := ?_) (a' := ?_) #[true, true, true, true, true, true, false, false, false, false] rfl rfl (by kernel_rfl) (fun c_ a_ w_ h => hpan c_ (Act.put a_ _ _) a_ w_ (by rfl) h) (Or.inl ⟨by rfl, ?_⟩) hHeld ?_ ?_
     rotate_left
     ·
      rintro w' ⟨s0, s1⟩
      go_simp
      with_reducible rfl
     rotate_left
     ·
      simp only [Act.put, List.setIfInBounds_toArray, List.set_cons_zero, List.set_cons_succ, i64_w, i32_w]
      rfl
     refine pure_ (i := 6) (N := some 153) (v := ?_) (a' := ?_) #[true, true, true, true, true, true, true, false, false, false] rfl rfl (by kernel_rfl) (fun c_ a_ w_ h => hpan c_ (Act.put a_ _ _) a_ w_ (by rfl) h) (Or.inl ⟨by rfl, ?_⟩) ?_ ?_
     rotate_left
     ·
      intro w'
      go_simp
      with_reducible rfl
     rotate_left
     ·
      simp only [Act.put, List.setIfInBounds_toArray, List.set_cons_zero, List.set_cons_succ, i64_w, i32_w]
      rfl
     refine pure_ (i := 7) (N := some 154) (v := ?_) (a' := ?_) #[true, true, true, true, true, true, true, true, false, false] rfl rfl (by kernel_rfl) (fun c_ a_ w_ h => hpan c_ (Act.put a_ _ _) a_ w_ (by rfl) h) (Or.inl ⟨by rfl, ?_⟩) ?_ ?_
     rotate_left
     ·
      intro w'
      go_simp
      with_reducible rfl
     rotate_left
     ·
      simp only [Act.put, List.setIfInBounds_toArray, List.set_cons_zero, List.set_cons_succ, i64_w, i32_w]
      rfl
     refine pure_ (i := 8) (N := some 155) (v := ?_) (a' := ?_) #[true, true, true, true, true, true, true, true, true, false] rfl rfl (by kernel_rfl) (fun c_ a_ w_ h => hpan c_ (Act.put a_ _ _) a_ w_ (by rfl) h) (Or.inl ⟨by rfl, ?_⟩) ?_ ?_
     rotate_left
     ·
      intro w'
      go_simp
      with_reducible rfl
     rotate_left
     ·
      simp only [Act.put, List.setIfInBounds_toArray, List.set_cons_zero, List.set_cons_succ, i64_w, i32_w]
      rfl
     refine last_ (i := 9) (N := none) #[true, true, true, true, true, true, true, true, true, true] rfl rfl (by kernel_rfl) (by decide) (fun K hK => ?_)
     have kf := blk_frozen BK8.out 16
     have kc := hHeld.1
     refine skip_ (w1 := ?_) (by rfl) rfl ?_ ?_
     rotate_left
     ·
      go_simp
      rfl
     refine hK.out _ _ ?_
     clear hK K
     refine done_ (by kernel_rfl) ?_
     clear hHeld kf kc hs0 ht0
     have n_HB := Aside0.mk (HB.out.setCell (p := ⟨g8, 16, none⟩) (show w.heap.size ≤ g8 by omega) (.int .i64 vw))
     have n_BK2 := Aside0.mk ((Below.heap_setCell z6 ⟨g8, 16, none⟩ (.int .i64 vw) w.heap.size (show w.heap.size ≠ g8 by omega)).trans BK2.out)
     have n_BK4 := Aside0.mk ((Below.heap_setCell z6 ⟨g8, 16, none⟩ (.int .i64 vw) g4 (show g4 ≠ g8 by omega)).trans BK4.out)
     have n_BK7 := Aside0.mk ((Below.heap_setCell z6 ⟨g8, 16, none⟩ (.int .i64 vw) g7 (show g7 ≠ g8 by omega)).trans BK7.out)
     have n_BK8 := Aside0.mk (blk_put BK8.out 16 (.int .i64 vw) (show (row18 _ _ _).setIfInBounds 16 _ = row18 ra rb ⟨o2, vi, ua, vn, vw, 0⟩ from rfl))
     clear HB BK8 BK2 BK4 BK7
     generalize z6.setCell ⟨g8, 16, none⟩ (.int .i64 vw) = z7 at n_HB n_BK8 n_BK2 n_BK4 n_BK7 ⊢
     have HB := n_HB
     clear n_HB
     have BK8 := n_BK8
     clear n_BK8
     have BK2 := n_BK2
     clear n_BK2
     have BK4 := n_BK4
     clear n_BK4
     have BK7 := n_BK7
     clear n_BK7
     have hk0 : z7.cell? ⟨g7, 0, none⟩ = some (.int .i64 x.f0) := blk_cell BK7.out 0
     have hk1 : z7.cell? ⟨g7, 1, none⟩ = some (.int .i64 x.f1) := blk_cell BK7.out 1
     have hk2 : z7.cell? ⟨g7, 2, none⟩ = some (.int .i64 x.f2) := blk_cell BK7.out 2
     have hk3 : z7.cell? ⟨g7, 3, none⟩ = some (.int .i64 x.f3) := blk_cell BK7.out 3
     have hk4 : z7.cell? ⟨g7, 4, none⟩ = some (.int .i64 x.f4) := blk_cell BK7.out 4
     go_wp2_with fail
     go_roundw
     case measure => simp [intOf]; omega
     case rel =>
      refine ⟨k + 1, by omega, by go_num, BK2, BK4, ⟨?_⟩, HB⟩
      rw [HT.out, lombardref16_Roll.wayD HP.out E1.out E2.out]
      rw [← HVI.out, ← HVN.out, ← HVW.out]; exact BK8.out
    ·
     have E1 := Aside0.mk e1
     have E2 := Aside0.mk e2
     rcases HE3 with e3 | e3
     ·
      have E3 := Aside0.mk e3
      have t1 : (x.f0 != x.f1) = true := by simpa using e1
      have t2 : (x.f1 == 3) = false := by simpa using e2
      have t3 : (x.f0 == 3) = true := by simpa using e3
      clear e1 e2 e3
      go_wp2_with fail
      clear hk0 hk1 hk2 hk3 hk4
      have n_HB := Aside0.mk (below_drew1 HB.out)
      have n_BK2 := Aside0.mk (blk_drew BK2.out)
      have n_BK4 := Aside0.mk (blk_drew BK4.out)
      have n_BK8 := Aside0.mk (blk_drew BK8.out)
      have n_BK7 := Aside0.mk (blk_drew BK7.out)
      clear HB BK2 BK4 BK8 BK7
      have HB := n_HB
      clear n_HB
      have BK2 := n_BK2
      clear n_BK2
      have BK4 := n_BK4
      clear n_BK4
      have BK8 := n_BK8
      clear n_BK8
      have BK7 := n_BK7
      clear n_BK7
      have hs0 := QU.out
      have ht0 := (i64_w _).trans QU.out
      refine start_ (n := 10) (S := fun w' => w'.cell? ⟨g8, 14, none⟩ = some (.int .i64 ua) ∧ w'.cell? ⟨g7, 2, none⟩ = some (.int .i64 x.f2)) (ds := [9]) #[false, false, false, false, false, false, false, false, false, false] (by kernel_rfl) rfl rfl ⟨(blk_cell BK8.out 14).trans rfl, (blk_cell BK7.out 2).trans rfl⟩ (fun hHeld => ?_)
      generalize z1.drew = z2 at HB BK2 BK4 BK8 BK7 hHeld ⊢
      refine pure_ (i := 0) (N := some 97) (v := ?_) (a' := ?_) #[true, false, false, false, false, false, false, false, false, false] rfl rfl (by kernel_rfl) (fun c_ a_ w_ h => hpan c_ (Act.put a_ _ _) a_ w_ (by rfl) h) (Or.inl ⟨by rfl, ?_⟩) ?_ ?_
      rotate_left
      ·
       intro w'
       go_simp
       with_reducible rfl
      rotate_left
      ·
       simp only [Act.put, List.setIfInBounds_toArray, List.set_cons_zero, List.set_cons_succ, i64_w, i32_w]
       rfl
      refine pure_ (i := 1) (N := some 98) (v := ?_) (a' := ?_) #[true, true, false, false, false, false, false, false, false, false] rfl rfl (by kernel_rfl) (fun c_ a_ w_ h => hpan c_ (Act.put a_ _ _) a_ w_ (by rfl) h) (Or.inl ⟨by rfl, ?_⟩) ?_ ?_
      rotate_left
      ·
       intro w'
       go_simp
       with_reducible rfl
      rotate_left
      ·
       simp only [Act.put, List.setIfInBounds_toArray, List.set_cons_zero, List.set_cons_succ, i64_w, i32_w]
       rfl
      refine pure_ (i := 2) (N := some 99) (v := ?_) (a' := ?_) #[true, true, true, false, false, false, false, false, false, false] rfl rfl (by kernel_rfl) (fun c_ a_ w_ h => hpan c_ (Act.put a_ _ _) a_ w_ (by rfl) h) (Or.inl ⟨by rfl, ?_⟩) ?_ ?_
      rotate_left
      ·
       intro w'
       go_simp
       with_reducible rfl
      rotate_left
      ·
       simp only [Act.put, List.setIfInBounds_toArray, List.set_cons_zero, List.set_cons_succ, i64_w, i32_w]
       rfl
      refine pure_ (i := 4) (N := some 101) (v := ?_) (a' := ?_) #[true, true, true, false, true, false, false, false, false, false] rfl rfl (by kernel_rfl) (fun c_ a_ w_ h => hpan c_ (Act.put a_ _ _) a_ w_ (by rfl) h) (Or.inl ⟨by rfl, ?_⟩) ?_ ?_
      rotate_left
      ·
       intro w'
       go_simp
       with_reducible rfl
      rotate_left
      ·
       simp only [Act.put, List.setIfInBounds_toArray, List.set_cons_zero, List.set_cons_succ, i64_w, i32_w]
       rfl
      refine take_ (i := 3) (N := some 100) (v := ?_) (a' := ?_) #[true, true, true, true, true, false, false, false, false, false] rfl rfl (by kernel_rfl) (fun c_ a_ w_ h => hpan c_ (Act.put a_ _ _) a_ w_ (by rfl) h) (Or.inl ⟨by rfl, ?_⟩) hHeld ?_ ?_
      rotate_left
      ·
       rintro w' ⟨s0, s1⟩
       go_simp
       with_reducible rfl
      rotate_left
      ·
       simp only [Act.put, List.setIfInBounds_toArray, List.set_cons_zero, List.set_cons_succ, i64_w, i32_w]
       rfl
      refine take_ (i := 5) (N := some 102) (v := ?_) (a' := ?_) #[true, true, true, true, true, true, false, false, false, false] rfl rfl (by kernel_rfl) (fun c_ a_ w_ h => hpan c_ (Act.put a_ _ _) a_ w_ (by rfl) h) (Or.inl ⟨by rfl, ?_⟩) hHeld ?_ ?_
      rotate_left
      ·
       rintro w' ⟨s0, s1⟩
       go_simp
       with_reducible rfl
      rotate_left
      ·
       simp only [Act.put, List.setIfInBounds_toArray, List.set_cons_zero, List.set_cons_succ, i64_w, i32_w]
       rfl
      refine pure_ (i := 6) (N := some 103) (v := ?_) (a' := ?_) #[true, true, true, true, true, true, true, false, false, false] rfl rfl (by kernel_rfl) (fun c_ a_ w_ h => hpan c_ (Act.put a_ _ _) a_ w_ (by rfl) h) (Or.inl ⟨by rfl, ?_⟩) ?_ ?_
      rotate_left
      ·
       intro w'
       go_simp
       with_reducible rfl
      rotate_left
      ·
       simp only [Act.put, List.setIfInBounds_toArray, List.set_cons_zero, List.set_cons_succ, i64_w, i32_w]
       rfl
      refine pure_ (i := 7) (N := some 104) (v := ?_) (a' := ?_) #[true, true, true, true, true, true, true, true, false, false] rfl rfl (by kernel_rfl) (fun c_ a_ w_ h => hpan c_ (Act.put a_ _ _) a_ w_ (by rfl) h) (Or.inl ⟨by rfl, ?_⟩) ?_ ?_
      rotate_left
      ·
       intro w'
       go_simp
       with_reducible rfl
      rotate_left
      ·
       simp only [Act.put, List.setIfInBounds_toArray, List.set_cons_zero, List.set_cons_succ, i64_w, i32_w]
       rfl
      refine pure_ (i := 8) (N := some 105) (v := ?_) (a' := ?_) #[true, true, true, true, true, true, true, true, true, false] rfl rfl (by kernel_rfl) (fun c_ a_ w_ h => hpan c_ (Act.put a_ _ _) a_ w_ (by rfl) h) (Or.inl ⟨by rfl, ?_⟩) ?_ ?_
      rotate_left
      ·
       intro w'
       go_simp
       with_reducible rfl
      rotate_left
      ·
       simp only [Act.put, List.setIfInBounds_toArray, List.set_cons_zero, List.set_cons_succ, i64_w, i32_w]
       rfl
      refine last_ (i := 9) (N := none) #[true, true, true, true, true, true, true, true, true, true] rfl rfl (by kernel_rfl) (by decide) (fun K hK => ?_)
      have kf := blk_frozen BK8.out 14
      have kc := hHeld.1
      refine skip_ (w1 := ?_) (by rfl) rfl ?_ ?_
      rotate_left
      ·
       go_simp
       rfl
      refine hK.out _ _ ?_
      clear hK K
      refine done_ (by kernel_rfl) ?_
      clear hHeld kf kc hs0 ht0
      have n_HB := Aside0.mk (HB.out.setCell (p := ⟨g8, 14, none⟩) (show w.heap.size ≤ g8 by omega) (.int .i64 vu))
      have n_BK2 := Aside0.mk ((Below.heap_setCell z2 ⟨g8, 14, none⟩ (.int .i64 vu) w.heap.size (show w.heap.size ≠ g8 by omega)).trans BK2.out)
      have n_BK4 := Aside0.mk ((Below.heap_setCell z2 ⟨g8, 14, none⟩ (.int .i64 vu) g4 (show g4 ≠ g8 by omega)).trans BK4.out)
      have n_BK7 := Aside0.mk ((Below.heap_setCell z2 ⟨g8, 14, none⟩ (.int .i64 vu) g7 (show g7 ≠ g8 by omega)).trans BK7.out)
      have n_BK8 := Aside0.mk (blk_put BK8.out 14 (.int .i64 vu) (show (row18 _ _ _).setIfInBounds 14 _ = row18 ra rb ⟨o2, ia, vu, na, wa, 0⟩ from rfl))
      clear HB BK8 BK2 BK4 BK7
      generalize z2.setCell ⟨g8, 14, none⟩ (.int .i64 vu) = z3 at n_HB n_BK8 n_BK2 n_BK4 n_BK7 ⊢
      have HB := n_HB
      clear n_HB
      have BK8 := n_BK8
      clear n_BK8
      have BK2 := n_BK2
      clear n_BK2
      have BK4 := n_BK4
      clear n_BK4
      have BK7 := n_BK7
      clear n_BK7
      have hk0 : z3.cell? ⟨g7, 0, none⟩ = some (.int .i64 x.f0) := blk_cell BK7.out 0
      have hk1 : z3.cell? ⟨g7, 1, none⟩ = some (.int .i64 x.f1) := blk_cell BK7.out 1
      have hk2 : z3.cell? ⟨g7, 2, none⟩ = some (.int .i64 x.f2) := blk_cell BK7.out 2
      have hk3 : z3.cell? ⟨g7, 3, none⟩ = some (.int .i64 x.f3) := blk_cell BK7.out 3
      have hk4 : z3.cell? ⟨g7, 4, none⟩ = some (.int .i64 x.f4) := blk_cell BK7.out 4
      go_wp2_with fail
      go_roundw
      case measure => simp [intOf]; omega
      case rel =>
       refine ⟨k + 1, by omega, by go_num, BK2, BK4, ⟨?_⟩, HB⟩
       rw [HT.out, lombardref16_Roll.wayC HP.out E1.out E3.out]
       rw [← HVU.out]; exact BK8.out
     ·
      have E3 := Aside0.mk e3
      have t1 : (x.f0 != x.f1) = true := by simpa using e1
      have t2 : (x.f1 == 3) = false := by simpa using e2
      have t3 : (x.f0 == 3) = false := by simpa using e3
      clear e1 e2 e3
      go_wp2_with fail
      go_roundw
      case measure => simp [intOf]; omega
      case rel =>
       refine ⟨k + 1, by omega, by go_num, BK2, BK4, ⟨?_⟩, HB⟩
       rw [HT.out, lombardref16_Roll.wayB HP.out E2.out (Or.inr E3.out)]
       exact BK8.out
  case neg =>
   have hkl : k = l.length := by omega
   rw [hkl, List.take_of_length_le (Nat.le_refl _)] at HP
   rw [← HP.out] at BK8
   clear hk hlt
   subst hkl
   go_wp2_with fail
   exact ⟨BK2, BK4, BK8, HB⟩
set_option maxHeartbeats 32000000 in
set_option maxRecDepth 100000 in
theorem lombardref16_Roll.walk (A : Option Addr) (c : Nat) (l : List S40) (o0 o1 o2 : Int) (w : World) (hr : Kd.C k40 w A l.length l) (hc : l.length ≤ c) (hl : l.length ≤ 4096) {r : Row6 × Row6 × Row6 × Int} (HRES : Aside0 (allow_Roll.g o0 o1 o2 (l.map cv) = r)) :
  Calls Try.prog 12 #[.agg #[.int .i64 o0, .int .i64 o1, .int .i64 o2], .slice A l.length c] w (lombardref16_Roll.P w r) := by
 have HR := Aside0.mk hr
 have HC := Aside0.mk hc
 clear hr hc
 obtain ⟨h1, h2, h3⟩ := lombardref16_Roll.start w o0 o1 o2
 have HB := Aside0.mk h1
 have BK2 := Aside0.mk h2
 have BK4 := Aside0.mk h3
 clear h1 h2 h3
 go_enter Try.func12, Try.ntmps12
 go_wp2_with fail
 generalize (w.alloc (.cells #[.int .i64 o0, .int .i64 o1, .int .i64 o2] 22)).alloc (.cells #[.int .i64 0, .int .i64 0, .int .i64 0, .int .i64 0, .int .i64 0, .int .i64 0, .int .i64 0, .int .i64 0, .int .i64 0, .int .i64 0, .int .i64 0, .int .i64 0, .int .i64 0, .int .i64 0, .int .i64 0, .int .i64 0, .int .i64 0, .int .i64 0] 34) = y0 at HB BK2 BK4 ⊢
 obtain ⟨g4, hg4⟩ : ∃ g, g = w.heap.size + 1 := ⟨_, rfl⟩
 rw [← hg4] at BK4 ⊢
 replace hg4 : w.heap.size < g4 := by omega
 go_loopw [20] (fun i wr => ∃ k : Nat, k ≤ l.length ∧ i = .int .i64 k ∧ Aside0 (∀ x ∈ l.take k, allow_Change.ok (cv x)) ∧ Aside0 (wr.heap[w.heap.size]? = some (.cells #[.int .i64 o0, .int .i64 o1, .int .i64 o2] 22 (0, 0))) ∧ Aside0 (wr.heap[g4]? = some (.cells (row18 Row6.z Row6.z Row6.z) 34 (0, 0))) ∧ Aside0 (Below w.heap.size w wr)) (fun i _ => l.length - (intOf i).toNat)
 case atStart => exact ⟨0, Nat.zero_le _, rfl, ⟨fun x hx => by simp at hx⟩, BK2, BK4, HB⟩
 case round =>
  clear BK2 BK4 HB
  obtain ⟨k, hk, rfl, HOK, BK2, BK4, HB⟩ := hrel
  by_cases hlt : k < l.length
  case pos =>
   obtain ⟨ad, rfl, hx0, hx1, hx2, hx3, hx4⟩ := at_T40 HR.out (k : Int) (by omega) (by omega)
   replace hx0 := (HB.out.cell (World.block_lt_of_cell? w _ hx0)).trans hx0
   replace hx1 := (HB.out.cell (World.block_lt_of_cell? w _ hx1)).trans hx1
   replace hx2 := (HB.out.cell (World.block_lt_of_cell? w _ hx2)).trans hx2
   replace hx3 := (HB.out.cell (World.block_lt_of_cell? w _ hx3)).trans hx3
   replace hx4 := (HB.out.cell (World.block_lt_of_cell? w _ hx4)).trans hx4
   rw [Int.toNat_natCast] at hx0 hx1 hx2 hx3 hx4
   have hrd : rd_T40 l (k : Int) = l[k] := by simp [rd_T40, List.getElem?_eq_getElem hlt]
   have HT := Aside0.mk (List.take_succ_eq_append_getElem hlt)
   have HIN := Aside0.mk (List.getElem_mem hlt)
   rw [hrd] at hx0 hx1 hx2 hx3 hx4
   clear hrd
   generalize l[k] = x at hx0 hx1 hx2 hx3 hx4 HT HIN
   obtain ⟨hnb, hnk⟩ := newrow2 wr #[.int .i64 0, .int .i64 0, .int .i64 0, .int .i64 0, .int .i64 0] #[.int .i64 x.f0, .int .i64 x.f1, .int .i64 x.f2, .int .i64 x.f3, .int .i64 x.f4] 40
   go_wp2_with ((with_reducible refine gate_store (t := 40) (p := 7) (v := .tmp 23) rfl ?_); refine Shut.out ?_)
   unfold Shut
   refine store_rowTo rfl 40 (.tmp 7) (.tmp 23) rfl rfl wr.heap.size #[.int .i64 x.f0, .int .i64 x.f1, .int .i64 x.f2, .int .i64 x.f3, .int .i64 x.f4] rfl rfl 40 _ (blk_new wr _) (by kernel_rfl) rfl (all5' _ _ _ _ _) ?_
   have n_HB := Aside0.mk (below_step HB.out hnb)
   have n_BK2 := Aside0.mk (blk_below BK2.out hnb)
   have n_BK4 := Aside0.mk (blk_below BK4.out hnb)
   have n_BK7 := Aside0.mk hnk
   clear HB BK2 BK4 hnb hnk hx0 hx1 hx2 hx3 hx4
   generalize (wr.alloc (.cells #[.int .i64 0, .int .i64 0, .int .i64 0, .int .i64 0, .int .i64 0] 40)).setRow wr.heap.size #[.int .i64 x.f0, .int .i64 x.f1, .int .i64 x.f2, .int .i64 x.f3, .int .i64 x.f4] = z1 at n_HB n_BK2 n_BK4 n_BK7 ⊢
   generalize wr.heap.size = g7 at n_BK7 ⊢
   have HB := n_HB
   clear n_HB
   have BK2 := n_BK2
   clear n_BK2
   have BK4 := n_BK4
   clear n_BK4
   have BK7 := n_BK7
   clear n_BK7
   have hk0 : z1.cell? ⟨g7, 0, none⟩ = some (.int .i64 x.f0) := blk_cell BK7.out 0
   have hk1 : z1.cell? ⟨g7, 1, none⟩ = some (.int .i64 x.f1) := blk_cell BK7.out 1
   have hk2 : z1.cell? ⟨g7, 2, none⟩ = some (.int .i64 x.f2) := blk_cell BK7.out 2
   have hk3 : z1.cell? ⟨g7, 3, none⟩ = some (.int .i64 x.f3) := blk_cell BK7.out 3
   have hk4 : z1.cell? ⟨g7, 4, none⟩ = some (.int .i64 x.f4) := blk_cell BK7.out 4
   have hno : ¬ allow_Change.ok (cv x) → allow_Roll.g o0 o1 o2 (l.map cv) = (Row6.z, Row6.z, Row6.z, 2) := fun hn => by
    unfold allow_Roll.g; rw [if_neg (by simp; omega), if_pos (fun hz => hn (hz _ (List.mem_map_of_mem HIN.out)))]
   have HNO := Aside0.mk hno
   clear hno
   by_cases c0 : x.f0 < 1
   case pos =>
    have cb0 : decide (x.f0 < 1) = true := decide_eq_true c0
    obtain rfl := HRES.out.symm.trans (HNO.out (fun hz => by simp only [allow_Change.ok, cv] at hz; omega))
    clear c0
    go_wp2_with (first | (go_at_call 27; with_reducible refine (may_b _ _ _).mono ?_; rintro e w' ⟨rfl, rfl⟩) | ((with_reducible refine gate_store (t := 34) (p := 4) (v := .tmp 60) rfl ?_); refine Shut.out ?_))
    unfold Shut
    refine store_rowTo rfl 34 (.tmp 4) (.tmp 60) rfl rfl g4 (row18 Row6.z Row6.z Row6.z) rfl rfl 34 _ BK4.out (by kernel_rfl) rfl (row18_all _ _ _) ?_
    have HBn := Aside0.mk (row_below (g := g4) HB.out (by omega) (row18 Row6.z Row6.z Row6.z))
    have BKn := Aside0.mk (setRow_heap _ _ _ (row18 Row6.z Row6.z Row6.z) _ _ BK4.out)
    clear HB BK4
    go_wp2_with fail
    exact bodyPost_ret (v := .tuple #[.agg (row18 Row6.z Row6.z Row6.z), .int .i64 2]) (results_ct Try.results12 _ _ g4 34 _ (0, 0) _ rfl BKn.out Try.underlying34 rfl (by kernel_rfl)) rfl ⟨rfl, HBn.out⟩
   have cb0 : decide (x.f0 < 1) = false := decide_eq_false c0
   have cc0 := Aside0.mk cb0
   clear c0
   by_cases c1 : 3 < x.f0
   case pos =>
    have cb1 : decide (3 < x.f0) = true := decide_eq_true c1
    obtain rfl := HRES.out.symm.trans (HNO.out (fun hz => by simp only [allow_Change.ok, cv] at hz; omega))
    clear c1
    go_wp2_with (first | (go_at_call 27; with_reducible refine (may_b _ _ _).mono ?_; rintro e w' ⟨rfl, rfl⟩) | ((with_reducible refine gate_store (t := 34) (p := 4) (v := .tmp 60) rfl ?_); refine Shut.out ?_))
    unfold Shut
    refine store_rowTo rfl 34 (.tmp 4) (.tmp 60) rfl rfl g4 (row18 Row6.z Row6.z Row6.z) rfl rfl 34 _ BK4.out (by kernel_rfl) rfl (row18_all _ _ _) ?_
    have HBn := Aside0.mk (row_below (g := g4) HB.out (by omega) (row18 Row6.z Row6.z Row6.z))
    have BKn := Aside0.mk (setRow_heap _ _ _ (row18 Row6.z Row6.z Row6.z) _ _ BK4.out)
    clear HB BK4
    go_wp2_with fail
    exact bodyPost_ret (v := .tuple #[.agg (row18 Row6.z Row6.z Row6.z), .int .i64 2]) (results_ct Try.results12 _ _ g4 34 _ (0, 0) _ rfl BKn.out Try.underlying34 rfl (by kernel_rfl)) rfl ⟨rfl, HBn.out⟩
   have cb1 : decide (3 < x.f0) = false := decide_eq_false c1
   have cc1 := Aside0.mk cb1
   clear c1
   by_cases c2 : x.f1 < 1
   case pos =>
    have cb2 : decide (x.f1 < 1) = true := decide_eq_true c2
    obtain rfl := HRES.out.symm.trans (HNO.out (fun hz => by simp only [allow_Change.ok, cv] at hz; omega))
    clear c2
    go_wp2_with (first | (go_at_call 27; with_reducible refine (may_b _ _ _).mono ?_; rintro e w' ⟨rfl, rfl⟩) | ((with_reducible refine gate_store (t := 34) (p := 4) (v := .tmp 60) rfl ?_); refine Shut.out ?_))
    unfold Shut
    refine store_rowTo rfl 34 (.tmp 4) (.tmp 60) rfl rfl g4 (row18 Row6.z Row6.z Row6.z) rfl rfl 34 _ BK4.out (by kernel_rfl) rfl (row18_all _ _ _) ?_
    have HBn := Aside0.mk (row_below (g := g4) HB.out (by omega) (row18 Row6.z Row6.z Row6.z))
    have BKn := Aside0.mk (setRow_heap _ _ _ (row18 Row6.z Row6.z Row6.z) _ _ BK4.out)
    clear HB BK4
    go_wp2_with fail
    exact bodyPost_ret (v := .tuple #[.agg (row18 Row6.z Row6.z Row6.z), .int .i64 2]) (results_ct Try.results12 _ _ g4 34 _ (0, 0) _ rfl BKn.out Try.underlying34 rfl (by kernel_rfl)) rfl ⟨rfl, HBn.out⟩
   have cb2 : decide (x.f1 < 1) = false := decide_eq_false c2
   have cc2 := Aside0.mk cb2
   clear c2
   by_cases c3 : 3 < x.f1
   case pos =>
    have cb3 : decide (3 < x.f1) = true := decide_eq_true c3
    obtain rfl := HRES.out.symm.trans (HNO.out (fun hz => by simp only [allow_Change.ok, cv] at hz; omega))
    clear c3
    go_wp2_with (first | (go_at_call 27; with_reducible refine (may_b _ _ _).mono ?_; rintro e w' ⟨rfl, rfl⟩) | ((with_reducible refine gate_store (t := 34) (p := 4) (v := .tmp 60) rfl ?_); refine Shut.out ?_))
    unfold Shut
    refine store_rowTo rfl 34 (.tmp 4) (.tmp 60) rfl rfl g4 (row18 Row6.z Row6.z Row6.z) rfl rfl 34 _ BK4.out (by kernel_rfl) rfl (row18_all _ _ _) ?_
    have HBn := Aside0.mk (row_below (g := g4) HB.out (by omega) (row18 Row6.z Row6.z Row6.z))
    have BKn := Aside0.mk (setRow_heap _ _ _ (row18 Row6.z Row6.z Row6.z) _ _ BK4.out)
    clear HB BK4
    go_wp2_with fail
    exact bodyPost_ret (v := .tuple #[.agg (row18 Row6.z Row6.z Row6.z), .int .i64 2]) (results_ct Try.results12 _ _ g4 34 _ (0, 0) _ rfl BKn.out Try.underlying34 rfl (by kernel_rfl)) rfl ⟨rfl, HBn.out⟩
   have cb3 : decide (3 < x.f1) = false := decide_eq_false c3
   have cc3 := Aside0.mk cb3
   clear c3
   by_cases c4 : ¬ mayB x.f2 562949953421312 = true
   case pos =>
    have cb4 : mayB x.f2 562949953421312 = false := Bool.eq_false_iff.2 c4
    obtain rfl := HRES.out.symm.trans (HNO.out (fun hz => by rw [mayB_iff] at c4; simp only [allow_Change.ok, cv] at hz; omega))
    clear c4
    go_wp2_with (first | (go_at_call 27; with_reducible refine (may_b _ _ _).mono ?_; rintro e w' ⟨rfl, rfl⟩) | ((with_reducible refine gate_store (t := 34) (p := 4) (v := .tmp 60) rfl ?_); refine Shut.out ?_))
    unfold Shut
    refine store_rowTo rfl 34 (.tmp 4) (.tmp 60) rfl rfl g4 (row18 Row6.z Row6.z Row6.z) rfl rfl 34 _ BK4.out (by kernel_rfl) rfl (row18_all _ _ _) ?_
    have HBn := Aside0.mk (row_below (g := g4) HB.out (by omega) (row18 Row6.z Row6.z Row6.z))
    have BKn := Aside0.mk (setRow_heap _ _ _ (row18 Row6.z Row6.z Row6.z) _ _ BK4.out)
    clear HB BK4
    go_wp2_with fail
    exact bodyPost_ret (v := .tuple #[.agg (row18 Row6.z Row6.z Row6.z), .int .i64 2]) (results_ct Try.results12 _ _ g4 34 _ (0, 0) _ rfl BKn.out Try.underlying34 rfl (by kernel_rfl)) rfl ⟨rfl, HBn.out⟩
   have cb4 : mayB x.f2 562949953421312 = true := by simpa using c4
   have cc4 := Aside0.mk cb4
   clear c4
   by_cases c5 : ¬ mayB x.f3 562949953421312 = true
   case pos =>
    have cb5 : mayB x.f3 562949953421312 = false := Bool.eq_false_iff.2 c5
    obtain rfl := HRES.out.symm.trans (HNO.out (fun hz => by rw [mayB_iff] at c5; simp only [allow_Change.ok, cv] at hz; omega))
    clear c5
    go_wp2_with (first | (go_at_call 27; with_reducible refine (may_b _ _ _).mono ?_; rintro e w' ⟨rfl, rfl⟩) | ((with_reducible refine gate_store (t := 34) (p := 4) (v := .tmp 60) rfl ?_); refine Shut.out ?_))
    unfold Shut
    refine store_rowTo rfl 34 (.tmp 4) (.tmp 60) rfl rfl g4 (row18 Row6.z Row6.z Row6.z) rfl rfl 34 _ BK4.out (by kernel_rfl) rfl (row18_all _ _ _) ?_
    have HBn := Aside0.mk (row_below (g := g4) HB.out (by omega) (row18 Row6.z Row6.z Row6.z))
    have BKn := Aside0.mk (setRow_heap _ _ _ (row18 Row6.z Row6.z Row6.z) _ _ BK4.out)
    clear HB BK4
    go_wp2_with fail
    exact bodyPost_ret (v := .tuple #[.agg (row18 Row6.z Row6.z Row6.z), .int .i64 2]) (results_ct Try.results12 _ _ g4 34 _ (0, 0) _ rfl BKn.out Try.underlying34 rfl (by kernel_rfl)) rfl ⟨rfl, HBn.out⟩
   have cb5 : mayB x.f3 562949953421312 = true := by simpa using c5
   have cc5 := Aside0.mk cb5
   clear c5
   by_cases c6 : ¬ mayB x.f4 562949953421312 = true
   case pos =>
    have cb6 : mayB x.f4 562949953421312 = false := Bool.eq_false_iff.2 c6
    obtain rfl := HRES.out.symm.trans (HNO.out (fun hz => by rw [mayB_iff] at c6; simp only [allow_Change.ok, cv] at hz; omega))
    clear c6
    go_wp2_with (first | (go_at_call 27; with_reducible refine (may_b _ _ _).mono ?_; rintro e w' ⟨rfl, rfl⟩) | ((with_reducible refine gate_store (t := 34) (p := 4) (v := .tmp 60) rfl ?_); refine Shut.out ?_))
    unfold Shut
    refine store_rowTo rfl 34 (.tmp 4) (.tmp 60) rfl rfl g4 (row18 Row6.z Row6.z Row6.z) rfl rfl 34 _ BK4.out (by kernel_rfl) rfl (row18_all _ _ _) ?_
    have HBn := Aside0.mk (row_below (g := g4) HB.out (by omega) (row18 Row6.z Row6.z Row6.z))
    have BKn := Aside0.mk (setRow_heap _ _ _ (row18 Row6.z Row6.z Row6.z) _ _ BK4.out)
    clear HB BK4
    go_wp2_with fail
    exact bodyPost_ret (v := .tuple #[.agg (row18 Row6.z Row6.z Row6.z), .int .i64 2]) (results_ct Try.results12 _ _ g4 34 _ (0, 0) _ rfl BKn.out Try.underlying34 rfl (by kernel_rfl)) rfl ⟨rfl, HBn.out⟩
   have cb6 : mayB x.f4 562949953421312 = true := by simpa using c6
   have cc6 := Aside0.mk cb6
   clear c6
   go_wp2_with (go_at_call 27; with_reducible refine (may_b _ _ _).mono ?_; rintro e w' ⟨rfl, rfl⟩)
   go_roundw
   case measure => simp [intOf]; omega
   case rel =>
    have h0 := of_decide_eq_false cc0.out; have h1 := of_decide_eq_false cc1.out; have h2 := of_decide_eq_false cc2.out; have h3 := of_decide_eq_false cc3.out
    have h4 := (mayB_iff _ _).1 cc4.out; have h5 := (mayB_iff _ _).1 cc5.out; have h6 := (mayB_iff _ _).1 cc6.out
    refine ⟨k + 1, by omega, by go_num, ⟨?_⟩, BK2, BK4, HB⟩
    rw [HT.out]
    intro y hy
    rcases List.mem_append.1 hy with hy | hy
    ·
     exact HOK.out y hy
    ·
     obtain rfl := List.mem_singleton.1 hy
     simp only [allow_Change.ok, cv]; omega
  case neg =>
   have hkl : k = l.length := by omega
   have htk : l.take k = l := List.take_of_length_le (by omega)
   rw [htk] at HOK
   subst hkl
   clear htk hk hlt
   have hok2 : ∀ y ∈ l.map cv, allow_Change.ok y := by
    intro y hy
    obtain ⟨x, hx, rfl⟩ := List.mem_map.1 hy
    exact HOK.out x hx
   have HOK2 := Aside0.mk hok2
   clear hok2
   have hbado : ¬ allow_Roll.okO o0 o1 o2 → allow_Roll.g o0 o1 o2 (l.map cv) = (Row6.z, Row6.z, Row6.z, 2) := fun hn => by
    unfold allow_Roll.g; rw [if_neg (by simp; omega), if_neg (fun z => z HOK2.out), if_pos hn]
   have HNO := Aside0.mk hbado
   clear hbado
   go_wp2_with ((with_reducible refine gate_dst (N := 62) rfl ?_); refine Shut.out ?_)
   unfold Shut
   have n_HB := Aside0.mk (below_alloc HB.out (.cells #[.int .i64 0, .int .i64 0, .int .i64 0, .int .i64 0, .int .i64 0, .int .i64 0, .int .i64 0, .int .i64 0, .int .i64 0, .int .i64 0, .int .i64 0, .int .i64 0, .int .i64 0, .int .i64 0, .int .i64 0, .int .i64 0, .int .i64 0, .int .i64 0] 34))
   have n_BK2 := Aside0.mk (blk_alloc BK2.out (.cells #[.int .i64 0, .int .i64 0, .int .i64 0, .int .i64 0, .int .i64 0, .int .i64 0, .int .i64 0, .int .i64 0, .int .i64 0, .int .i64 0, .int .i64 0, .int .i64 0, .int .i64 0, .int .i64 0, .int .i64 0, .int .i64 0, .int .i64 0, .int .i64 0] 34))
   have n_BK4 := Aside0.mk (blk_alloc BK4.out (.cells #[.int .i64 0, .int .i64 0, .int .i64 0, .int .i64 0, .int .i64 0, .int .i64 0, .int .i64 0, .int .i64 0, .int .i64 0, .int .i64 0, .int .i64 0, .int .i64 0, .int .i64 0, .int .i64 0, .int .i64 0, .int .i64 0, .int .i64 0, .int .i64 0] 34))
   have n_BK8 := Aside0.mk (show (wr.alloc (.cells #[.int .i64 0, .int .i64 0, .int .i64 0, .int .i64 0, .int .i64 0, .int .i64 0, .int .i64 0, .int .i64 0, .int .i64 0, .int .i64 0, .int .i64 0, .int .i64 0, .int .i64 0, .int .i64 0, .int .i64 0, .int .i64 0, .int .i64 0, .int .i64 0] 34)).heap[wr.heap.size]? = some (.cells (row18 Row6.z Row6.z Row6.z) 34 (0, 0)) from blk_new wr _)
   have hg8 := blk_lt BK4.out
   clear HB BK2 BK4
   generalize wr.alloc (.cells #[.int .i64 0, .int .i64 0, .int .i64 0, .int .i64 0, .int .i64 0, .int .i64 0, .int .i64 0, .int .i64 0, .int .i64 0, .int .i64 0, .int .i64 0, .int .i64 0, .int .i64 0, .int .i64 0, .int .i64 0, .int .i64 0, .int .i64 0, .int .i64 0] 34) = y1 at n_HB n_BK2 n_BK4 n_BK8 ⊢
   generalize wr.heap.size = g8 at n_BK8 hg8 ⊢
   have HB := n_HB
   clear n_HB
   have BK2 := n_BK2
   clear n_BK2
   have BK4 := n_BK4
   clear n_BK4
   have BK8 := n_BK8
   clear n_BK8
   have hix0 := fun W => lombardref16_Roll.ix0 o0 o1 o2 W
   have hix1 := fun W => lombardref16_Roll.ix1 o0 o1 o2 W
   have hix2 := fun W => lombardref16_Roll.ix2 o0 o1 o2 W
   refine wpList_load_row rfl 22 (.tmp 2) rfl w.heap.size rfl 22 _ (0, 0) _ BK2.out Try.underlying22 rfl (by kernel_rfl) ?_
   go_wp2_with fail
   refine wp_loop_rounds 4 ?_
   rw [rounds_succ]
   go_wp2_with fail
   by_cases d0 : ¬ mayB o0 1152921504606846976 = true
   case pos =>
    have cb : mayB o0 1152921504606846976 = false := Bool.eq_false_iff.2 d0
    obtain rfl := HRES.out.symm.trans (HNO.out (fun hz => by rw [mayB_iff] at d0; unfold allow_Roll.okO at hz; omega))
    clear d0
    go_wp2_with (first | (go_at_call 27; with_reducible refine (may_b _ _ _).mono ?_; rintro e w' ⟨rfl, rfl⟩) | ((with_reducible refine gate_store (t := 34) (p := 4) (v := .tmp 70) rfl ?_); refine Shut.out ?_))
    unfold Shut
    refine store_rowTo rfl 34 (.tmp 4) (.tmp 70) rfl rfl g4 (row18 Row6.z Row6.z Row6.z) rfl rfl 34 _ BK4.out (by kernel_rfl) rfl (row18_all _ _ _) ?_
    have HBn := Aside0.mk (row_below (g := g4) HB.out (by omega) (row18 Row6.z Row6.z Row6.z))
    have BKn := Aside0.mk (setRow_heap _ _ _ (row18 Row6.z Row6.z Row6.z) _ _ BK4.out)
    clear HB BK4
    go_wp2_with fail
    exact bodyPost_ret (v := .tuple #[.agg (row18 Row6.z Row6.z Row6.z), .int .i64 2]) (results_ct Try.results12 _ _ g4 34 _ (0, 0) _ rfl BKn.out Try.underlying34 rfl (by kernel_rfl)) rfl ⟨rfl, HBn.out⟩
   have cd0 : mayB o0 1152921504606846976 = true := by simpa using d0
   clear d0
   have kz : y1.cell? ⟨g8, 0, none⟩ = some (.int .i64 0) := blk_cell BK8.out 0
   have kf := blk_frozen BK8.out 0
   go_wp2_with (go_at_call 27; with_reducible refine (may_b _ _ _).mono ?_; rintro e w' ⟨rfl, rfl⟩)
   clear kz kf
   have CD0 := Aside0.mk cd0
   clear cd0
   have n_HB := Aside0.mk (HB.out.setCell (p := ⟨g8, 0, none⟩) (show w.heap.size ≤ g8 by omega) (.int .i64 o0))
   have n_BK2 := Aside0.mk ((Below.heap_setCell y1 ⟨g8, 0, none⟩ (.int .i64 o0) w.heap.size (show w.heap.size ≠ g8 by omega)).trans BK2.out)
   have n_BK4 := Aside0.mk ((Below.heap_setCell y1 ⟨g8, 0, none⟩ (.int .i64 o0) g4 (show g4 ≠ g8 by omega)).trans BK4.out)
   have n_BK8 := Aside0.mk (blk_put BK8.out 0 (.int .i64 o0) (show (row18 _ _ _).setIfInBounds 0 _ = row18 ⟨o0, 0, 0, 0, 0, 0⟩ Row6.z Row6.z from rfl))
   clear HB BK8 BK2 BK4
   generalize y1.setCell ⟨g8, 0, none⟩ (.int .i64 o0) = y2 at n_HB n_BK8 n_BK2 n_BK4 ⊢
   have HB := n_HB
   clear n_HB
   have BK8 := n_BK8
   clear n_BK8
   have BK2 := n_BK2
   clear n_BK2
   have BK4 := n_BK4
   clear n_BK4
   rw [rounds_succ]
   go_wp2_with fail
   by_cases d1 : ¬ mayB o1 1152921504606846976 = true
   case pos =>
    have cb : mayB o1 1152921504606846976 = false := Bool.eq_false_iff.2 d1
    obtain rfl := HRES.out.symm.trans (HNO.out (fun hz => by rw [mayB_iff] at d1; unfold allow_Roll.okO at hz; omega))
    clear d1
    go_wp2_with (first | (go_at_call 27; with_reducible refine (may_b _ _ _).mono ?_; rintro e w' ⟨rfl, rfl⟩) | ((with_reducible refine gate_store (t := 34) (p := 4) (v := .tmp 70) rfl ?_); refine Shut.out ?_))
    unfold Shut
    refine store_rowTo rfl 34 (.tmp 4) (.tmp 70) rfl rfl g4 (row18 Row6.z Row6.z Row6.z) rfl rfl 34 _ BK4.out (by kernel_rfl) rfl (row18_all _ _ _) ?_
    have HBn := Aside0.mk (row_below (g := g4) HB.out (by omega) (row18 Row6.z Row6.z Row6.z))
    have BKn := Aside0.mk (setRow_heap _ _ _ (row18 Row6.z Row6.z Row6.z) _ _ BK4.out)
    clear HB BK4
    go_wp2_with fail
    exact bodyPost_ret (v := .tuple #[.agg (row18 Row6.z Row6.z Row6.z), .int .i64 2]) (results_ct Try.results12 _ _ g4 34 _ (0, 0) _ rfl BKn.out Try.underlying34 rfl (by kernel_rfl)) rfl ⟨rfl, HBn.out⟩
   have cd1 : mayB o1 1152921504606846976 = true := by simpa using d1
   clear d1
   have kz : y2.cell? ⟨g8, 6, none⟩ = some (.int .i64 0) := blk_cell BK8.out 6
   have kf := blk_frozen BK8.out 6
   go_wp2_with (go_at_call 27; with_reducible refine (may_b _ _ _).mono ?_; rintro e w' ⟨rfl, rfl⟩)
   clear kz kf
   have CD1 := Aside0.mk cd1
   clear cd1
   have n_HB := Aside0.mk (HB.out.setCell (p := ⟨g8, 6, none⟩) (show w.heap.size ≤ g8 by omega) (.int .i64 o1))
   have n_BK2 := Aside0.mk ((Below.heap_setCell y2 ⟨g8, 6, none⟩ (.int .i64 o1) w.heap.size (show w.heap.size ≠ g8 by omega)).trans BK2.out)
   have n_BK4 := Aside0.mk ((Below.heap_setCell y2 ⟨g8, 6, none⟩ (.int .i64 o1) g4 (show g4 ≠ g8 by omega)).trans BK4.out)
   have n_BK8 := Aside0.mk (blk_put BK8.out 6 (.int .i64 o1) (show (row18 _ _ _).setIfInBounds 6 _ = row18 ⟨o0, 0, 0, 0, 0, 0⟩ ⟨o1, 0, 0, 0, 0, 0⟩ Row6.z from rfl))
   clear HB BK8 BK2 BK4
   generalize y2.setCell ⟨g8, 6, none⟩ (.int .i64 o1) = y3 at n_HB n_BK8 n_BK2 n_BK4 ⊢
   have HB := n_HB
   clear n_HB
   have BK8 := n_BK8
   clear n_BK8
   have BK2 := n_BK2
   clear n_BK2
   have BK4 := n_BK4
   clear n_BK4
   rw [rounds_succ]
   go_wp2_with fail
   by_cases d2 : ¬ mayB o2 1152921504606846976 = true
   case pos =>
    have cb : mayB o2 1152921504606846976 = false := Bool.eq_false_iff.2 d2
    obtain rfl := HRES.out.symm.trans (HNO.out (fun hz => by rw [mayB_iff] at d2; unfold allow_Roll.okO at hz; omega))
    clear d2
    go_wp2_with (first | (go_at_call 27; with_reducible refine (may_b _ _ _).mono ?_; rintro e w' ⟨rfl, rfl⟩) | ((with_reducible refine gate_store (t := 34) (p := 4) (v := .tmp 70) rfl ?_); refine Shut.out ?_))
    unfold Shut
    refine store_rowTo rfl 34 (.tmp 4) (.tmp 70) rfl rfl g4 (row18 Row6.z Row6.z Row6.z) rfl rfl 34 _ BK4.out (by kernel_rfl) rfl (row18_all _ _ _) ?_
    have HBn := Aside0.mk (row_below (g := g4) HB.out (by omega) (row18 Row6.z Row6.z Row6.z))
    have BKn := Aside0.mk (setRow_heap _ _ _ (row18 Row6.z Row6.z Row6.z) _ _ BK4.out)
    clear HB BK4
    go_wp2_with fail
    exact bodyPost_ret (v := .tuple #[.agg (row18 Row6.z Row6.z Row6.z), .int .i64 2]) (results_ct Try.results12 _ _ g4 34 _ (0, 0) _ rfl BKn.out Try.underlying34 rfl (by kernel_rfl)) rfl ⟨rfl, HBn.out⟩
   have cd2 : mayB o2 1152921504606846976 = true := by simpa using d2
   clear d2
   have kz : y3.cell? ⟨g8, 12, none⟩ = some (.int .i64 0) := blk_cell BK8.out 12
   have kf := blk_frozen BK8.out 12
   go_wp2_with (go_at_call 27; with_reducible refine (may_b _ _ _).mono ?_; rintro e w' ⟨rfl, rfl⟩)
   clear kz kf
   have CD2 := Aside0.mk cd2
   clear cd2
   have n_HB := Aside0.mk (HB.out.setCell (p := ⟨g8, 12, none⟩) (show w.heap.size ≤ g8 by omega) (.int .i64 o2))
   have n_BK2 := Aside0.mk ((Below.heap_setCell y3 ⟨g8, 12, none⟩ (.int .i64 o2) w.heap.size (show w.heap.size ≠ g8 by omega)).trans BK2.out)
   have n_BK4 := Aside0.mk ((Below.heap_setCell y3 ⟨g8, 12, none⟩ (.int .i64 o2) g4 (show g4 ≠ g8 by omega)).trans BK4.out)
   have n_BK8 := Aside0.mk (blk_put BK8.out 12 (.int .i64 o2) (show (row18 _ _ _).setIfInBounds 12 _ = row18 ⟨o0, 0, 0, 0, 0, 0⟩ ⟨o1, 0, 0, 0, 0, 0⟩ ⟨o2, 0, 0, 0, 0, 0⟩ from rfl))
   clear HB BK8 BK2 BK4
   generalize y3.setCell ⟨g8, 12, none⟩ (.int .i64 o2) = y4 at n_HB n_BK8 n_BK2 n_BK4 ⊢
   have HB := n_HB
   clear n_HB
   have BK8 := n_BK8
   clear n_BK8
   have BK2 := n_BK2
   clear n_BK2
   have BK4 := n_BK4
   clear n_BK4
   rw [rounds_succ]
   go_wp2_with fail
   refine wp_loop_rounds 4 ?_
   rw [rounds_succ]
   go_wp2_with fail
   clear HNO
   have HO0 := Aside0.mk ((mayB_iff _ _).1 CD0.out)
   have HO1 := Aside0.mk ((mayB_iff _ _).1 CD1.out)
   have HO2 := Aside0.mk ((mayB_iff _ _).1 CD2.out)
   replace hg8 : g4 < g8 := hg8
   clear CD0 CD1 CD2 hix0 hix1 hix2
   refine lombardref16_Roll.inner0 HR hl HOK hg4 hg8 BK2 BK4 BK8 HB (fun c_ a_ b_ w_ hd h => by cases a_; cases b_; cases hd; exact h) ?_
   clear BK2 BK4 BK8 HB
   intro x13 x81 x82 x83 x84 x85 x86 x87 x88 x89 x90 x91 x92 x93 x94 x95 x96 x97 x98 x99 x100 x101 x102 x103 x104 x105 x106 x107 x108 x109 x110 x111 x112 x113 x114 x115 x116 x117 x118 x119 x120 x121 x122 x123 x124 x125 x126 x127 x128 x129 x130 x131 x132 x133 x134 x135 x136 x137 x138 x139 x140 x141 x142 x143 x144 x145 x146 x147 x148 x149 x150 x151 x152 x153 x154 x155 x156 v1
   rintro ⟨BK2, BK4, BK8, HB⟩
   obtain ⟨ia, ua, na, wa, hpre⟩ := lombardref16_Roll.pre_some l o0 1
   rw [hpre] at BK8
   have HP := Aside0.mk hpre
   clear hpre
   go_wp2_with fail
   have hbd := lombardref16_Roll.pre_bd _ _ _ HP.out HOK.out hl
   have ho := HO0.out
   have hrb := lombardref16_Roll.row_big _ _ _ HP.out HOK.out hl ho
   obtain ⟨q1, hq1⟩ : ∃ v, v = o0 + ia := ⟨_, rfl⟩
   obtain ⟨q2, hq2⟩ : ∃ v, v = q1 + na := ⟨_, rfl⟩
   obtain ⟨q3, hq3⟩ : ∃ v, v = q2 - ua := ⟨_, rfl⟩
   obtain ⟨q4, hq4⟩ : ∃ v, v = q3 - wa := ⟨_, rfl⟩
   have Q1 := Aside0.mk (show wrap64 (o0 + ia) = q1 by unfold wrap64; omega)
   have Q2 := Aside0.mk (show wrap64 (q1 + na) = q2 by unfold wrap64; omega)
   have Q3 := Aside0.mk (show wrap64 (q2 - ua) = q3 by unfold wrap64; omega)
   have Q4 := Aside0.mk (show wrap64 (q3 - wa) = q4 by unfold wrap64; omega)
   have HR0 : Aside0 (allow_Roll.row (l.map cv) o0 1 = ⟨o0, ia, ua, na, wa, q4⟩) := ⟨by rw [hrb, hq4, hq3, hq2, hq1]⟩
   clear hbd ho hrb hq1 hq2 hq3 hq4 HP
   have n_HB := Aside0.mk (below_drew1 HB.out)
   have n_BK2 := Aside0.mk (blk_drew BK2.out)
   have n_BK4 := Aside0.mk (blk_drew BK4.out)
   have n_BK8 := Aside0.mk (blk_drew BK8.out)
   clear HB BK2 BK4 BK8
   have HB := n_HB
   clear n_HB
   have BK2 := n_BK2
   clear n_BK2
   have BK4 := n_BK4
   clear n_BK4
   have BK8 := n_BK8
   clear n_BK8
   have hs0 := Q1.out
   have ht0 := (i64_w _).trans Q1.out
   have hs1 := Q2.out
   have ht1 := (i64_w _).trans Q2.out
   have hs2 := Q3.out
   have ht2 := (i64_w _).trans Q3.out
   have hs3 := Q4.out
   have ht3 := (i64_w _).trans Q4.out
   refine start_ (n := 28) (S := fun w' => w'.cell? ⟨g8, 0, none⟩ = some (.int .i64 o0) ∧ w'.cell? ⟨g8, 1, none⟩ = some (.int .i64 ia) ∧ w'.cell? ⟨g8, 2, none⟩ = some (.int .i64 ua) ∧ w'.cell? ⟨g8, 3, none⟩ = some (.int .i64 na) ∧ w'.cell? ⟨g8, 4, none⟩ = some (.int .i64 wa) ∧ w'.cell? ⟨g8, 5, none⟩ = some (.int .i64 0)) (ds := [27]) #[false, false, false, false, false, false, false, false, false, false, false, false, false, false, false, false, false, false, false, false, false, false, false, false, false, false, false, false] (by kernel_rfl) rfl rfl ⟨(blk_cell BK8.out 0).trans rfl, (blk_cell BK8.out 1).trans rfl, (blk_cell BK8.out 2).trans rfl, (blk_cell BK8.out 3).trans rfl, (blk_cell BK8.out 4).trans rfl, (blk_cell BK8.out 5).trans rfl⟩ (fun hHeld => ?_)
   generalize v1.drew = t1 at HB BK2 BK4 BK8 hHeld ⊢
   refine pure_ (i := 0) (N := some 157) (v := ?_) (a' := ?_) #[true, false, false, false, false, false, false, false, false, false, false, false, false, false, false, false, false, false, false, false, false, false, false, false, false, false, false, false] rfl rfl (by kernel_rfl) (fun _ _ _ h => h) (Or.inl ⟨by rfl, ?_⟩) ?_ ?_
   rotate_left
   ·
    intro w'
    go_simp
    with_reducible rfl
   rotate_left
   ·
    simp only [Act.put, List.setIfInBounds_toArray, List.set_cons_zero, List.set_cons_succ, i64_w, i32_w]
    rfl
   refine pure_ (i := 1) (N := some 158) (v := ?_) (a' := ?_) #[true, true, false, false, false, false, false, false, false, false, false, false, false, false, false, false, false, false, false, false, false, false, false, false, false, false, false, false] rfl rfl (by kernel_rfl) (fun _ _ _ h => h) (Or.inl ⟨by rfl, ?_⟩) ?_ ?_
   rotate_left
   ·
    intro w'
    go_simp
    with_reducible rfl
   rotate_left
   ·
    simp only [Act.put, List.setIfInBounds_toArray, List.set_cons_zero, List.set_cons_succ, i64_w, i32_w]
    rfl
   refine pure_ (i := 2) (N := some 159) (v := ?_) (a' := ?_) #[true, true, true, false, false, false, false, false, false, false, false, false, false, false, false, false, false, false, false, false, false, false, false, false, false, false, false, false] rfl rfl (by kernel_rfl) (fun _ _ _ h => h) (Or.inl ⟨by rfl, ?_⟩) ?_ ?_
   rotate_left
   ·
    intro w'
    go_simp
    with_reducible rfl
   rotate_left
   ·
    simp only [Act.put, List.setIfInBounds_toArray, List.set_cons_zero, List.set_cons_succ, i64_w, i32_w]
    rfl
   refine pure_ (i := 3) (N := some 160) (v := ?_) (a' := ?_) #[true, true, true, true, false, false, false, false, false, false, false, false, false, false, false, false, false, false, false, false, false, false, false, false, false, false, false, false] rfl rfl (by kernel_rfl) (fun _ _ _ h => h) (Or.inl ⟨by rfl, ?_⟩) ?_ ?_
   rotate_left
   ·
    intro w'
    go_simp
    with_reducible rfl
   rotate_left
   ·
    simp only [Act.put, List.setIfInBounds_toArray, List.set_cons_zero, List.set_cons_succ, i64_w, i32_w]
    rfl
   refine pure_ (i := 5) (N := some 162) (v := ?_) (a' := ?_) #[true, true, true, true, false, true, false, false, false, false, false, false, false, false, false, false, false, false, false, false, false, false, false, false, false, false, false, false] rfl rfl (by kernel_rfl) (fun _ _ _ h => h) (Or.inl ⟨by rfl, ?_⟩) ?_ ?_
   rotate_left
   ·
    intro w'
    go_simp
    with_reducible rfl
   rotate_left
   ·
    simp only [Act.put, List.setIfInBounds_toArray, List.set_cons_zero, List.set_cons_succ, i64_w, i32_w]
    rfl
   refine pure_ (i := 6) (N := some 163) (v := ?_) (a' := ?_) #[true, true, true, true, false, true, true, false, false, false, false, false, false, false, false, false, false, false, false, false, false, false, false, false, false, false, false, false] rfl rfl (by kernel_rfl) (fun _ _ _ h => h) (Or.inl ⟨by rfl, ?_⟩) ?_ ?_
   rotate_left
   ·
    intro w'
    go_simp
    with_reducible rfl
   rotate_left
   ·
    simp only [Act.put, List.setIfInBounds_toArray, List.set_cons_zero, List.set_cons_succ, i64_w, i32_w]
    rfl
   refine pure_ (i := 7) (N := some 164) (v := ?_) (a' := ?_) #[true, true, true, true, false, true, true, true, false, false, false, false, false, false, false, false, false, false, false, false, false, false, false, false, false, false, false, false] rfl rfl (by kernel_rfl) (fun _ _ _ h => h) (Or.inl ⟨by rfl, ?_⟩) ?_ ?_
   rotate_left
   ·
    intro w'
    go_simp
    with_reducible rfl
   rotate_left
   ·
    simp only [Act.put, List.setIfInBounds_toArray, List.set_cons_zero, List.set_cons_succ, i64_w, i32_w]
    rfl
   refine pure_ (i := 10) (N := some 167) (v := ?_) (a' := ?_) #[true, true, true, true, false, true, true, true, false, false, true, false, false, false, false, false, false, false, false, false, false, false, false, false, false, false, false, false] rfl rfl (by kernel_rfl) (fun _ _ _ h => h) (Or.inl ⟨by rfl, ?_⟩) ?_ ?_
   rotate_left
   ·
    intro w'
    go_simp
    with_reducible rfl
   rotate_left
   ·
    simp only [Act.put, List.setIfInBounds_toArray, List.set_cons_zero, List.set_cons_succ, i64_w, i32_w]
    rfl
   refine pure_ (i := 11) (N := some 168) (v := ?_) (a' := ?_) #[true, true, true, true, false, true, true, true, false, false, true, true, false, false, false, false, false, false, false, false, false, false, false, false, false, false, false, false] rfl rfl (by kernel_rfl) (fun _ _ _ h => h) (Or.inl ⟨by rfl, ?_⟩) ?_ ?_
   rotate_left
   ·
    intro w'
    go_simp
    with_reducible rfl
   rotate_left
   ·
    simp only [Act.put, List.setIfInBounds_toArray, List.set_cons_zero, List.set_cons_succ, i64_w, i32_w]
    rfl
   refine pure_ (i := 12) (N := some 169) (v := ?_) (a' := ?_) #[true, true, true, true, false, true, true, true, false, false, true, true, true, false, false, false, false, false, false, false, false, false, false, false, false, false, false, false] rfl rfl (by kernel_rfl) (fun _ _ _ h => h) (Or.inl ⟨by rfl, ?_⟩) ?_ ?_
   rotate_left
   ·
    intro w'
    go_simp
    with_reducible rfl
   rotate_left
   ·
    simp only [Act.put, List.setIfInBounds_toArray, List.set_cons_zero, List.set_cons_succ, i64_w, i32_w]
    rfl
   refine pure_ (i := 15) (N := some 172) (v := ?_) (a' := ?_) #[true, true, true, true, false, true, true, true, false, false, true, true, true, false, false, true, false, false, false, false, false, false, false, false, false, false, false, false] rfl rfl (by kernel_rfl) (fun _ _ _ h => h) (Or.inl ⟨by rfl, ?_⟩) ?_ ?_
   rotate_left
   ·
    intro w'
    go_simp
    with_reducible rfl
   rotate_left
   ·
    simp only [Act.put, List.setIfInBounds_toArray, List.set_cons_zero, List.set_cons_succ, i64_w, i32_w]
    rfl
   refine pure_ (i := 16) (N := some 173) (v := ?_) (a' := ?_) #[true, true, true, true, false, true, true, true, false, false, true, true, true, false, false, true, true, false, false, false, false, false, false, false, false, false, false, false] rfl rfl (by kernel_rfl) (fun _ _ _ h => h) (Or.inl ⟨by rfl, ?_⟩) ?_ ?_
   rotate_left
   ·
    intro w'
    go_simp
    with_reducible rfl
   rotate_left
   ·
    simp only [Act.put, List.setIfInBounds_toArray, List.set_cons_zero, List.set_cons_succ, i64_w, i32_w]
    rfl
   refine pure_ (i := 17) (N := some 174) (v := ?_) (a' := ?_) #[true, true, true, true, false, true, true, true, false, false, true, true, true, false, false, true, true, true, false, false, false, false, false, false, false, false, false, false] rfl rfl (by kernel_rfl) (fun _ _ _ h => h) (Or.inl ⟨by rfl, ?_⟩) ?_ ?_
   rotate_left
   ·
    intro w'
    go_simp
    with_reducible rfl
   rotate_left
   ·
    simp only [Act.put, List.setIfInBounds_toArray, List.set_cons_zero, List.set_cons_succ, i64_w, i32_w]
    rfl
   refine pure_ (i := 20) (N := some 177) (v := ?_) (a' := ?_) #[true, true, true, true, false, true, true, true, false, false, true, true, true, false, false, true, true, true, false, false, true, false, false, false, false, false, false, false] rfl rfl (by kernel_rfl) (fun _ _ _ h => h) (Or.inl ⟨by rfl, ?_⟩) ?_ ?_
   rotate_left
   ·
    intro w'
    go_simp
    with_reducible rfl
   rotate_left
   ·
    simp only [Act.put, List.setIfInBounds_toArray, List.set_cons_zero, List.set_cons_succ, i64_w, i32_w]
    rfl
   refine pure_ (i := 21) (N := some 178) (v := ?_) (a' := ?_) #[true, true, true, true, false, true, true, true, false, false, true, true, true, false, false, true, true, true, false, false, true, true, false, false, false, false, false, false] rfl rfl (by kernel_rfl) (fun _ _ _ h => h) (Or.inl ⟨by rfl, ?_⟩) ?_ ?_
   rotate_left
   ·
    intro w'
    go_simp
    with_reducible rfl
   rotate_left
   ·
    simp only [Act.put, List.setIfInBounds_toArray, List.set_cons_zero, List.set_cons_succ, i64_w, i32_w]
    rfl
   refine pure_ (i := 22) (N := some 179) (v := ?_) (a' := ?_) #[true, true, true, true, false, true, true, true, false, false, true, true, true, false, false, true, true, true, false, false, true, true, true, false, false, false, false, false] rfl rfl (by kernel_rfl) (fun _ _ _ h => h) (Or.inl ⟨by rfl, ?_⟩) ?_ ?_
   rotate_left
   ·
    intro w'
    go_simp
    with_reducible rfl
   rotate_left
   ·
    simp only [Act.put, List.setIfInBounds_toArray, List.set_cons_zero, List.set_cons_succ, i64_w, i32_w]
    rfl
   refine take_ (i := 4) (N := some 161) (v := ?_) (a' := ?_) #[true, true, true, true, true, true, true, true, false, false, true, true, true, false, false, true, true, true, false, false, true, true, true, false, false, false, false, false] rfl rfl (by kernel_rfl) (fun _ _ _ h => h) (Or.inl ⟨by rfl, ?_⟩) hHeld ?_ ?_
   rotate_left
   ·
    rintro w' ⟨s0, s1, s2, s3, s4, s5⟩
    go_simp
    with_reducible rfl
   rotate_left
   ·
    simp only [Act.put, List.setIfInBounds_toArray, List.set_cons_zero, List.set_cons_succ, i64_w, i32_w]
    rfl
   refine take_ (i := 8) (N := some 165) (v := ?_) (a' := ?_) #[true, true, true, true, true, true, true, true, true, false, true, true, true, false, false, true, true, true, false, false, true, true, true, false, false, false, false, false] rfl rfl (by kernel_rfl) (fun _ _ _ h => h) (Or.inl ⟨by rfl, ?_⟩) hHeld ?_ ?_
   rotate_left
   ·
    rintro w' ⟨s0, s1, s2, s3, s4, s5⟩
    go_simp
    with_reducible rfl
   rotate_left
   ·
    simp only [Act.put, List.setIfInBounds_toArray, List.set_cons_zero, List.set_cons_succ, i64_w, i32_w]
    rfl
   refine pure_ (i := 9) (N := some 166) (v := ?_) (a' := ?_) #[true, true, true, true, true, true, true, true, true, true, true, true, true, false, false, true, true, true, false, false, true, true, true, false, false, false, false, false] rfl rfl (by kernel_rfl) (fun _ _ _ h => h) (Or.inl ⟨by rfl, ?_⟩) ?_ ?_
   rotate_left
   ·
    intro w'
    go_simp
    with_reducible rfl
   rotate_left
   ·
    simp only [Act.put, List.setIfInBounds_toArray, List.set_cons_zero, List.set_cons_succ, i64_w, i32_w]
    rfl
   refine take_ (i := 13) (N := some 170) (v := ?_) (a' := ?_) #[true, true, true, true, true, true, true, true, true, true, true, true, true, true, false, true, true, true, false, false, true, true, true, false, false, false, false, false] rfl rfl (by kernel_rfl) (fun _ _ _ h => h) (Or.inl ⟨by rfl, ?_⟩) hHeld ?_ ?_
   rotate_left
   ·
    rintro w' ⟨s0, s1, s2, s3, s4, s5⟩
    go_simp
    with_reducible rfl
   rotate_left
   ·
    simp only [Act.put, List.setIfInBounds_toArray, List.set_cons_zero, List.set_cons_succ, i64_w, i32_w]
    rfl
   refine pure_ (i := 14) (N := some 171) (v := ?_) (a' := ?_) #[true, true, true, true, true, true, true, true, true, true, true, true, true, true, true, true, true, true, false, false, true, true, true, false, false, false, false, false] rfl rfl (by kernel_rfl) (fun _ _ _ h => h) (Or.inl ⟨by rfl, ?_⟩) ?_ ?_
   rotate_left
   ·
    intro w'
    go_simp
    with_reducible rfl
   rotate_left
   ·
    simp only [Act.put, List.setIfInBounds_toArray, List.set_cons_zero, List.set_cons_succ, i64_w, i32_w]
    rfl
   refine take_ (i := 18) (N := some 175) (v := ?_) (a' := ?_) #[true, true, true, true, true, true, true, true, true, true, true, true, true, true, true, true, true, true, true, false, true, true, true, false, false, false, false, false] rfl rfl (by kernel_rfl) (fun _ _ _ h => h) (Or.inl ⟨by rfl, ?_⟩) hHeld ?_ ?_
   rotate_left
   ·
    rintro w' ⟨s0, s1, s2, s3, s4, s5⟩
    go_simp
    with_reducible rfl
   rotate_left
   ·
    simp only [Act.put, List.setIfInBounds_toArray, List.set_cons_zero, List.set_cons_succ, i64_w, i32_w]
    rfl
   refine pure_ (i := 19) (N := some 176) (v := ?_) (a' := ?_) #[true, true, true, true, true, true, true, true, true, true, true, true, true, true, true, true, true, true, true, true, true, true, true, false, false, false, false, false] rfl rfl (by kernel_rfl) (fun _ _ _ h => h) (Or.inl ⟨by rfl, ?_⟩) ?_ ?_
   rotate_left
   ·
    intro w'
    go_simp
    with_reducible rfl
   rotate_left
   ·
    simp only [Act.put, List.setIfInBounds_toArray, List.set_cons_zero, List.set_cons_succ, i64_w, i32_w]
    rfl
   refine take_ (i := 23) (N := some 180) (v := ?_) (a' := ?_) #[true, true, true, true, true, true, true, true, true, true, true, true, true, true, true, true, true, true, true, true, true, true, true, true, false, false, false, false] rfl rfl (by kernel_rfl) (fun _ _ _ h => h) (Or.inl ⟨by rfl, ?_⟩) hHeld ?_ ?_
   rotate_left
   ·
    rintro w' ⟨s0, s1, s2, s3, s4, s5⟩
    go_simp
    with_reducible rfl
   rotate_left
   ·
    simp only [Act.put, List.setIfInBounds_toArray, List.set_cons_zero, List.set_cons_succ, i64_w, i32_w]
    rfl
   refine pure_ (i := 24) (N := some 181) (v := ?_) (a' := ?_) #[true, true, true, true, true, true, true, true, true, true, true, true, true, true, true, true, true, true, true, true, true, true, true, true, true, false, false, false] rfl rfl (by kernel_rfl) (fun _ _ _ h => h) (Or.inl ⟨by rfl, ?_⟩) ?_ ?_
   rotate_left
   ·
    intro w'
    go_simp
    with_reducible rfl
   rotate_left
   ·
    simp only [Act.put, List.setIfInBounds_toArray, List.set_cons_zero, List.set_cons_succ, i64_w, i32_w]
    rfl
   refine pure_ (i := 25) (N := some 182) (v := ?_) (a' := ?_) #[true, true, true, true, true, true, true, true, true, true, true, true, true, true, true, true, true, true, true, true, true, true, true, true, true, true, false, false] rfl rfl (by kernel_rfl) (fun _ _ _ h => h) (Or.inl ⟨by rfl, ?_⟩) ?_ ?_
   rotate_left
   ·
    intro w'
    go_simp
    with_reducible rfl
   rotate_left
   ·
    simp only [Act.put, List.setIfInBounds_toArray, List.set_cons_zero, List.set_cons_succ, i64_w, i32_w]
    rfl
   refine pure_ (i := 26) (N := some 183) (v := ?_) (a' := ?_) #[true, true, true, true, true, true, true, true, true, true, true, true, true, true, true, true, true, true, true, true, true, true, true, true, true, true, true, false] rfl rfl (by kernel_rfl) (fun _ _ _ h => h) (Or.inl ⟨by rfl, ?_⟩) ?_ ?_
   rotate_left
   ·
    intro w'
    go_simp
    with_reducible rfl
   rotate_left
   ·
    simp only [Act.put, List.setIfInBounds_toArray, List.set_cons_zero, List.set_cons_succ, i64_w, i32_w]
    rfl
   refine last_ (i := 27) (N := none) #[true, true, true, true, true, true, true, true, true, true, true, true, true, true, true, true, true, true, true, true, true, true, true, true, true, true, true, true] rfl rfl (by kernel_rfl) (by decide) (fun K hK => ?_)
   have kf := blk_frozen BK8.out 5
   have kc := hHeld.2.2.2.2.2
   refine skip_ (w1 := ?_) (by rfl) rfl ?_ ?_
   rotate_left
   ·
    go_simp
    rfl
   refine hK.out _ _ ?_
   clear hK K
   refine done_ (by kernel_rfl) ?_
   clear hHeld kf kc hs0 ht0 hs1 ht1 hs2 ht2 hs3 ht3 Q1 Q2 Q3 Q4
   have n_HB := Aside0.mk (HB.out.setCell (p := ⟨g8, 5, none⟩) (show w.heap.size ≤ g8 by omega) (.int .i64 q4))
   have n_BK2 := Aside0.mk ((Below.heap_setCell t1 ⟨g8, 5, none⟩ (.int .i64 q4) w.heap.size (show w.heap.size ≠ g8 by omega)).trans BK2.out)
   have n_BK4 := Aside0.mk ((Below.heap_setCell t1 ⟨g8, 5, none⟩ (.int .i64 q4) g4 (show g4 ≠ g8 by omega)).trans BK4.out)
   have n_BK8 := Aside0.mk (blk_put BK8.out 5 (.int .i64 q4) (show (row18 _ _ _).setIfInBounds 5 _ = row18 ⟨o0, ia, ua, na, wa, q4⟩ ⟨o1, 0, 0, 0, 0, 0⟩ ⟨o2, 0, 0, 0, 0, 0⟩ from rfl))
   clear HB BK8 BK2 BK4
   generalize t1.setCell ⟨g8, 5, none⟩ (.int .i64 q4) = t2 at n_HB n_BK8 n_BK2 n_BK4 ⊢
   have HB := n_HB
   clear n_HB
   have BK8 := n_BK8
   clear n_BK8
   have BK2 := n_BK2
   clear n_BK2
   have BK4 := n_BK4
   clear n_BK4
   obtain ⟨ia0, hv⟩ : ∃ v, v = ia := ⟨_, rfl⟩
   subst hv
   obtain ⟨ua0, hv⟩ : ∃ v, v = ua := ⟨_, rfl⟩
   subst hv
   obtain ⟨na0, hv⟩ : ∃ v, v = na := ⟨_, rfl⟩
   subst hv
   obtain ⟨wa0, hv⟩ : ∃ v, v = wa := ⟨_, rfl⟩
   subst hv
   obtain ⟨q40, hv⟩ : ∃ v, v = q4 := ⟨_, rfl⟩
   subst hv
   go_wp2_with fail
   rw [rounds_succ]
   go_wp2_with fail
   refine lombardref16_Roll.inner1 HR hl HOK hg4 hg8 BK2 BK4 BK8 HB (fun c_ a_ b_ w_ hd h => by cases a_; cases b_; cases hd; exact h) ?_
   clear BK2 BK4 BK8 HB
   intro x13 x81 x82 x83 x84 x85 x86 x87 x88 x89 x90 x91 x92 x93 x94 x95 x96 x97 x98 x99 x100 x101 x102 x103 x104 x105 x106 x107 x108 x109 x110 x111 x112 x113 x114 x115 x116 x117 x118 x119 x120 x121 x122 x123 x124 x125 x126 x127 x128 x129 x130 x131 x132 x133 x134 x135 x136 x137 x138 x139 x140 x141 x142 x143 x144 x145 x146 x147 x148 x149 x150 x151 x152 x153 x154 x155 x156 v2
   rintro ⟨BK2, BK4, BK8, HB⟩
   obtain ⟨ia, ua, na, wa, hpre⟩ := lombardref16_Roll.pre_some l o1 2
   rw [hpre] at BK8
   have HP := Aside0.mk hpre
   clear hpre
   go_wp2_with fail
   have hbd := lombardref16_Roll.pre_bd _ _ _ HP.out HOK.out hl
   have ho := HO1.out
   have hrb := lombardref16_Roll.row_big _ _ _ HP.out HOK.out hl ho
   obtain ⟨q1, hq1⟩ : ∃ v, v = o1 + ia := ⟨_, rfl⟩
   obtain ⟨q2, hq2⟩ : ∃ v, v = q1 + na := ⟨_, rfl⟩
   obtain ⟨q3, hq3⟩ : ∃ v, v = q2 - ua := ⟨_, rfl⟩
   obtain ⟨q4, hq4⟩ : ∃ v, v = q3 - wa := ⟨_, rfl⟩
   have Q1 := Aside0.mk (show wrap64 (o1 + ia) = q1 by unfold wrap64; omega)
   have Q2 := Aside0.mk (show wrap64 (q1 + na) = q2 by unfold wrap64; omega)
   have Q3 := Aside0.mk (show wrap64 (q2 - ua) = q3 by unfold wrap64; omega)
   have Q4 := Aside0.mk (show wrap64 (q3 - wa) = q4 by unfold wrap64; omega)
   have HR1 : Aside0 (allow_Roll.row (l.map cv) o1 2 = ⟨o1, ia, ua, na, wa, q4⟩) := ⟨by rw [hrb, hq4, hq3, hq2, hq1]⟩
   clear hbd ho hrb hq1 hq2 hq3 hq4 HP
   have n_HB := Aside0.mk (below_drew1 HB.out)
   have n_BK2 := Aside0.mk (blk_drew BK2.out)
   have n_BK4 := Aside0.mk (blk_drew BK4.out)
   have n_BK8 := Aside0.mk (blk_drew BK8.out)
   clear HB BK2 BK4 BK8
   have HB := n_HB
   clear n_HB
   have BK2 := n_BK2
   clear n_BK2
   have BK4 := n_BK4
   clear n_BK4
   have BK8 := n_BK8
   clear n_BK8
   have hs0 := Q1.out
   have ht0 := (i64_w _).trans Q1.out
   have hs1 := Q2.out
   have ht1 := (i64_w _).trans Q2.out
   have hs2 := Q3.out
   have ht2 := (i64_w _).trans Q3.out
   have hs3 := Q4.out
   have ht3 := (i64_w _).trans Q4.out
   refine start_ (n := 28) (S := fun w' => w'.cell? ⟨g8, 6, none⟩ = some (.int .i64 o1) ∧ w'.cell? ⟨g8, 7, none⟩ = some (.int .i64 ia) ∧ w'.cell? ⟨g8, 8, none⟩ = some (.int .i64 ua) ∧ w'.cell? ⟨g8, 9, none⟩ = some (.int .i64 na) ∧ w'.cell? ⟨g8, 10, none⟩ = some (.int .i64 wa) ∧ w'.cell? ⟨g8, 11, none⟩ = some (.int .i64 0)) (ds := [27]) #[false, false, false, false, false, false, false, false, false, false, false, false, false, false, false, false, false, false, false, false, false, false, false, false, false, false, false, false] (by kernel_rfl) rfl rfl ⟨(blk_cell BK8.out 6).trans rfl, (blk_cell BK8.out 7).trans rfl, (blk_cell BK8.out 8).trans rfl, (blk_cell BK8.out 9).trans rfl, (blk_cell BK8.out 10).trans rfl, (blk_cell BK8.out 11).trans rfl⟩ (fun hHeld => ?_)
   generalize v2.drew = t1 at HB BK2 BK4 BK8 hHeld ⊢
   refine pure_ (i := 0) (N := some 157) (v := ?_) (a' := ?_) #[true, false, false, false, false, false, false, false, false, false, false, false, false, false, false, false, false, false, false, false, false, false, false, false, false, false, false, false] rfl rfl (by kernel_rfl) (fun _ _ _ h => h) (Or.inl ⟨by rfl, ?_⟩) ?_ ?_
   rotate_left
   ·
    intro w'
    go_simp
    with_reducible rfl
   rotate_left
   ·
    simp only [Act.put, List.setIfInBounds_toArray, List.set_cons_zero, List.set_cons_succ, i64_w, i32_w]
    rfl
   refine pure_ (i := 1) (N := some 158) (v := ?_) (a' := ?_) #[true, true, false, false, false, false, false, false, false, false, false, false, false, false, false, false, false, false, false, false, false, false, false, false, false, false, false, false] rfl rfl (by kernel_rfl) (fun _ _ _ h => h) (Or.inl ⟨by rfl, ?_⟩) ?_ ?_
   rotate_left
   ·
    intro w'
    go_simp
    with_reducible rfl
   rotate_left
   ·
    simp only [Act.put, List.setIfInBounds_toArray, List.set_cons_zero, List.set_cons_succ, i64_w, i32_w]
    rfl
   refine pure_ (i := 2) (N := some 159) (v := ?_) (a' := ?_) #[true, true, true, false, false, false, false, false, false, false, false, false, false, false, false, false, false, false, false, false, false, false, false, false, false, false, false, false] rfl rfl (by kernel_rfl) (fun _ _ _ h => h) (Or.inl ⟨by rfl, ?_⟩) ?_ ?_
   rotate_left
   ·
    intro w'
    go_simp
    with_reducible rfl
   rotate_left
   ·
    simp only [Act.put, List.setIfInBounds_toArray, List.set_cons_zero, List.set_cons_succ, i64_w, i32_w]
    rfl
   refine pure_ (i := 3) (N := some 160) (v := ?_) (a' := ?_) #[true, true, true, true, false, false, false, false, false, false, false, false, false, false, false, false, false, false, false, false, false, false, false, false, false, false, false, false] rfl rfl (by kernel_rfl) (fun _ _ _ h => h) (Or.inl ⟨by rfl, ?_⟩) ?_ ?_
   rotate_left
   ·
    intro w'
    go_simp
    with_reducible rfl
   rotate_left
   ·
    simp only [Act.put, List.setIfInBounds_toArray, List.set_cons_zero, List.set_cons_succ, i64_w, i32_w]
    rfl
   refine pure_ (i := 5) (N := some 162) (v := ?_) (a' := ?_) #[true, true, true, true, false, true, false, false, false, false, false, false, false, false, false, false, false, false, false, false, false, false, false, false, false, false, false, false] rfl rfl (by kernel_rfl) (fun _ _ _ h => h) (Or.inl ⟨by rfl, ?_⟩) ?_ ?_
   rotate_left
   ·
    intro w'
    go_simp
    with_reducible rfl
   rotate_left
   ·
    simp only [Act.put, List.setIfInBounds_toArray, List.set_cons_zero, List.set_cons_succ, i64_w, i32_w]
    rfl
   refine pure_ (i := 6) (N := some 163) (v := ?_) (a' := ?_) #[true, true, true, true, false, true, true, false, false, false, false, false, false, false, false, false, false, false, false, false, false, false, false, false, false, false, false, false] rfl rfl (by kernel_rfl) (fun _ _ _ h => h) (Or.inl ⟨by rfl, ?_⟩) ?_ ?_
   rotate_left
   ·
    intro w'
    go_simp
    with_reducible rfl
   rotate_left
   ·
    simp only [Act.put, List.setIfInBounds_toArray, List.set_cons_zero, List.set_cons_succ, i64_w, i32_w]
    rfl
   refine pure_ (i := 7) (N := some 164) (v := ?_) (a' := ?_) #[true, true, true, true, false, true, true, true, false, false, false, false, false, false, false, false, false, false, false, false, false, false, false, false, false, false, false, false] rfl rfl (by kernel_rfl) (fun _ _ _ h => h) (Or.inl ⟨by rfl, ?_⟩) ?_ ?_
   rotate_left
   ·
    intro w'
    go_simp
    with_reducible rfl
   rotate_left
   ·
    simp only [Act.put, List.setIfInBounds_toArray, List.set_cons_zero, List.set_cons_succ, i64_w, i32_w]
    rfl
   refine pure_ (i := 10) (N := some 167) (v := ?_) (a' := ?_) #[true, true, true, true, false, true, true, true, false, false, true, false, false, false, false, false, false, false, false, false, false, false, false, false, false, false, false, false] rfl rfl (by kernel_rfl) (fun _ _ _ h => h) (Or.inl ⟨by rfl, ?_⟩) ?_ ?_
   rotate_left
   ·
    intro w'
    go_simp
    with_reducible rfl
   rotate_left
   ·
    simp only [Act.put, List.setIfInBounds_toArray, List.set_cons_zero, List.set_cons_succ, i64_w, i32_w]
    rfl
   refine pure_ (i := 11) (N := some 168) (v := ?_) (a' := ?_) #[true, true, true, true, false, true, true, true, false, false, true, true, false, false, false, false, false, false, false, false, false, false, false, false, false, false, false, false] rfl rfl (by kernel_rfl) (fun _ _ _ h => h) (Or.inl ⟨by rfl, ?_⟩) ?_ ?_
   rotate_left
   ·
    intro w'
    go_simp
    with_reducible rfl
   rotate_left
   ·
    simp only [Act.put, List.setIfInBounds_toArray, List.set_cons_zero, List.set_cons_succ, i64_w, i32_w]
    rfl
   refine pure_ (i := 12) (N := some 169) (v := ?_) (a' := ?_) #[true, true, true, true, false, true, true, true, false, false, true, true, true, false, false, false, false, false, false, false, false, false, false, false, false, false, false, false] rfl rfl (by kernel_rfl) (fun _ _ _ h => h) (Or.inl ⟨by rfl, ?_⟩) ?_ ?_
   rotate_left
   ·
    intro w'
    go_simp
    with_reducible rfl
   rotate_left
   ·
    simp only [Act.put, List.setIfInBounds_toArray, List.set_cons_zero, List.set_cons_succ, i64_w, i32_w]
    rfl
   refine pure_ (i := 15) (N := some 172) (v := ?_) (a' := ?_) #[true, true, true, true, false, true, true, true, false, false, true, true, true, false, false, true, false, false, false, false, false, false, false, false, false, false, false, false] rfl rfl (by kernel_rfl) (fun _ _ _ h => h) (Or.inl ⟨by rfl, ?_⟩) ?_ ?_
   rotate_left
   ·
    intro w'
    go_simp
    with_reducible rfl
   rotate_left
   ·
    simp only [Act.put, List.setIfInBounds_toArray, List.set_cons_zero, List.set_cons_succ, i64_w, i32_w]
    rfl
   refine pure_ (i := 16) (N := some 173) (v := ?_) (a' := ?_) #[true, true, true, true, false, true, true, true, false, false, true, true, true, false, false, true, true, false, false, false, false, false, false, false, false, false, false, false] rfl rfl (by kernel_rfl) (fun _ _ _ h => h) (Or.inl ⟨by rfl, ?_⟩) ?_ ?_
   rotate_left
   ·
    intro w'
    go_simp
    with_reducible rfl
   rotate_left
   ·
    simp only [Act.put, List.setIfInBounds_toArray, List.set_cons_zero, List.set_cons_succ, i64_w, i32_w]
    rfl
   refine pure_ (i := 17) (N := some 174) (v := ?_) (a' := ?_) #[true, true, true, true, false, true, true, true, false, false, true, true, true, false, false, true, true, true, false, false, false, false, false, false, false, false, false, false] rfl rfl (by kernel_rfl) (fun _ _ _ h => h) (Or.inl ⟨by rfl, ?_⟩) ?_ ?_
   rotate_left
   ·
    intro w'
    go_simp
    with_reducible rfl
   rotate_left
   ·
    simp only [Act.put, List.setIfInBounds_toArray, List.set_cons_zero, List.set_cons_succ, i64_w, i32_w]
    rfl
   refine pure_ (i := 20) (N := some 177) (v := ?_) (a' := ?_) #[true, true, true, true, false, true, true, true, false, false, true, true, true, false, false, true, true, true, false, false, true, false, false, false, false, false, false, false] rfl rfl (by kernel_rfl) (fun _ _ _ h => h) (Or.inl ⟨by rfl, ?_⟩) ?_ ?_
   rotate_left
   ·
    intro w'
    go_simp
    with_reducible rfl
   rotate_left
   ·
    simp only [Act.put, List.setIfInBounds_toArray, List.set_cons_zero, List.set_cons_succ, i64_w, i32_w]
    rfl
   refine pure_ (i := 21) (N := some 178) (v := ?_) (a' := ?_) #[true, true, true, true, false, true, true, true, false, false, true, true, true, false, false, true, true, true, false, false, true, true, false, false, false, false, false, false] rfl rfl (by kernel_rfl) (fun _ _ _ h => h) (Or.inl ⟨by rfl, ?_⟩) ?_ ?_
   rotate_left
   ·
    intro w'
    go_simp
    with_reducible rfl
   rotate_left
   ·
    simp only [Act.put, List.setIfInBounds_toArray, List.set_cons_zero, List.set_cons_succ, i64_w, i32_w]
    rfl
   refine pure_ (i := 22) (N := some 179) (v := ?_) (a' := ?_) #[true, true, true, true, false, true, true, true, false, false, true, true, true, false, false, true, true, true, false, false, true, true, true, false, false, false, false, false] rfl rfl (by kernel_rfl) (fun _ _ _ h => h) (Or.inl ⟨by rfl, ?_⟩) ?_ ?_
   rotate_left
   ·
    intro w'
    go_simp
    with_reducible rfl
   rotate_left
   ·
    simp only [Act.put, List.setIfInBounds_toArray, List.set_cons_zero, List.set_cons_succ, i64_w, i32_w]
    rfl
   refine take_ (i := 4) (N := some 161) (v := ?_) (a' := ?_) #[true, true, true, true, true, true, true, true, false, false, true, true, true, false, false, true, true, true, false, false, true, true, true, false, false, false, false, false] rfl rfl (by kernel_rfl) (fun _ _ _ h => h) (Or.inl ⟨by rfl, ?_⟩) hHeld ?_ ?_
   rotate_left
   ·
    rintro w' ⟨s0, s1, s2, s3, s4, s5⟩
    go_simp
    with_reducible rfl
   rotate_left
   ·
    simp only [Act.put, List.setIfInBounds_toArray, List.set_cons_zero, List.set_cons_succ, i64_w, i32_w]
    rfl
   refine take_ (i := 8) (N := some 165) (v := ?_) (a' := ?_) #[true, true, true, true, true, true, true, true, true, false, true, true, true, false, false, true, true, true, false, false, true, true, true, false, false, false, false, false] rfl rfl (by kernel_rfl) (fun _ _ _ h => h) (Or.inl ⟨by rfl, ?_⟩) hHeld ?_ ?_
   rotate_left
   ·
    rintro w' ⟨s0, s1, s2, s3, s4, s5⟩
    go_simp
    with_reducible rfl
   rotate_left
   ·
    simp only [Act.put, List.setIfInBounds_toArray, List.set_cons_zero, List.set_cons_succ, i64_w, i32_w]
    rfl
   refine pure_ (i := 9) (N := some 166) (v := ?_) (a' := ?_) #[true, true, true, true, true, true, true, true, true, true, true, true, true, false, false, true, true, true, false, false, true, true, true, false, false, false, false, false] rfl rfl (by kernel_rfl) (fun _ _ _ h => h) (Or.inl ⟨by rfl, ?_⟩) ?_ ?_
   rotate_left
   ·
    intro w'
    go_simp
    with_reducible rfl
   rotate_left
   ·
    simp only [Act.put, List.setIfInBounds_toArray, List.set_cons_zero, List.set_cons_succ, i64_w, i32_w]
    rfl
   refine take_ (i := 13) (N := some 170) (v := ?_) (a' := ?_) #[true, true, true, true, true, true, true, true, true, true, true, true, true, true, false, true, true, true, false, false, true, true, true, false, false, false, false, false] rfl rfl (by kernel_rfl) (fun _ _ _ h => h) (Or.inl ⟨by rfl, ?_⟩) hHeld ?_ ?_
   rotate_left
   ·
    rintro w' ⟨s0, s1, s2, s3, s4, s5⟩
    go_simp
    with_reducible rfl
   rotate_left
   ·
    simp only [Act.put, List.setIfInBounds_toArray, List.set_cons_zero, List.set_cons_succ, i64_w, i32_w]
    rfl
   refine pure_ (i := 14) (N := some 171) (v := ?_) (a' := ?_) #[true, true, true, true, true, true, true, true, true, true, true, true, true, true, true, true, true, true, false, false, true, true, true, false, false, false, false, false] rfl rfl (by kernel_rfl) (fun _ _ _ h => h) (Or.inl ⟨by rfl, ?_⟩) ?_ ?_
   rotate_left
   ·
    intro w'
    go_simp
    with_reducible rfl
   rotate_left
   ·
    simp only [Act.put, List.setIfInBounds_toArray, List.set_cons_zero, List.set_cons_succ, i64_w, i32_w]
    rfl
   refine take_ (i := 18) (N := some 175) (v := ?_) (a' := ?_) #[true, true, true, true, true, true, true, true, true, true, true, true, true, true, true, true, true, true, true, false, true, true, true, false, false, false, false, false] rfl rfl (by kernel_rfl) (fun _ _ _ h => h) (Or.inl ⟨by rfl, ?_⟩) hHeld ?_ ?_
   rotate_left
   ·
    rintro w' ⟨s0, s1, s2, s3, s4, s5⟩
    go_simp
    with_reducible rfl
   rotate_left
   ·
    simp only [Act.put, List.setIfInBounds_toArray, List.set_cons_zero, List.set_cons_succ, i64_w, i32_w]
    rfl
   refine pure_ (i := 19) (N := some 176) (v := ?_) (a' := ?_) #[true, true, true, true, true, true, true, true, true, true, true, true, true, true, true, true, true, true, true, true, true, true, true, false, false, false, false, false] rfl rfl (by kernel_rfl) (fun _ _ _ h => h) (Or.inl ⟨by rfl, ?_⟩) ?_ ?_
   rotate_left
   ·
    intro w'
    go_simp
    with_reducible rfl
   rotate_left
   ·
    simp only [Act.put, List.setIfInBounds_toArray, List.set_cons_zero, List.set_cons_succ, i64_w, i32_w]
    rfl
   refine take_ (i := 23) (N := some 180) (v := ?_) (a' := ?_) #[true, true, true, true, true, true, true, true, true, true, true, true, true, true, true, true, true, true, true, true, true, true, true, true, false, false, false, false] rfl rfl (by kernel_rfl) (fun _ _ _ h => h) (Or.inl ⟨by rfl, ?_⟩) hHeld ?_ ?_
   rotate_left
   ·
    rintro w' ⟨s0, s1, s2, s3, s4, s5⟩
    go_simp
    with_reducible rfl
   rotate_left
   ·
    simp only [Act.put, List.setIfInBounds_toArray, List.set_cons_zero, List.set_cons_succ, i64_w, i32_w]
    rfl
   refine pure_ (i := 24) (N := some 181) (v := ?_) (a' := ?_) #[true, true, true, true, true, true, true, true, true, true, true, true, true, true, true, true, true, true, true, true, true, true, true, true, true, false, false, false] rfl rfl (by kernel_rfl) (fun _ _ _ h => h) (Or.inl ⟨by rfl, ?_⟩) ?_ ?_
   rotate_left
   ·
    intro w'
    go_simp
    with_reducible rfl
   rotate_left
   ·
    simp only [Act.put, List.setIfInBounds_toArray, List.set_cons_zero, List.set_cons_succ, i64_w, i32_w]
    rfl
   refine pure_ (i := 25) (N := some 182) (v := ?_) (a' := ?_) #[true, true, true, true, true, true, true, true, true, true, true, true, true, true, true, true, true, true, true, true, true, true, true, true, true, true, false, false] rfl rfl (by kernel_rfl) (fun _ _ _ h => h) (Or.inl ⟨by rfl, ?_⟩) ?_ ?_
   rotate_left
   ·
    intro w'
    go_simp
    with_reducible rfl
   rotate_left
   ·
    simp only [Act.put, List.setIfInBounds_toArray, List.set_cons_zero, List.set_cons_succ, i64_w, i32_w]
    rfl
   refine pure_ (i := 26) (N := some 183) (v := ?_) (a' := ?_) #[true, true, true, true, true, true, true, true, true, true, true, true, true, true, true, true, true, true, true, true, true, true, true, true, true, true, true, false] rfl rfl (by kernel_rfl) (fun _ _ _ h => h) (Or.inl ⟨by rfl, ?_⟩) ?_ ?_
   rotate_left
   ·
    intro w'
    go_simp
    with_reducible rfl
   rotate_left
   ·
    simp only [Act.put, List.setIfInBounds_toArray, List.set_cons_zero, List.set_cons_succ, i64_w, i32_w]
    rfl
   refine last_ (i := 27) (N := none) #[true, true, true, true, true, true, true, true, true, true, true, true, true, true, true, true, true, true, true, true, true, true, true, true, true, true, true, true] rfl rfl (by kernel_rfl) (by decide) (fun K hK => ?_)
   have kf := blk_frozen BK8.out 11
   have kc := hHeld.2.2.2.2.2
   refine skip_ (w1 := ?_) (by rfl) rfl ?_ ?_
   rotate_left
   ·
    go_simp
    rfl
   refine hK.out _ _ ?_
   clear hK K
   refine done_ (by kernel_rfl) ?_
   clear hHeld kf kc hs0 ht0 hs1 ht1 hs2 ht2 hs3 ht3 Q1 Q2 Q3 Q4
   have n_HB := Aside0.mk (HB.out.setCell (p := ⟨g8, 11, none⟩) (show w.heap.size ≤ g8 by omega) (.int .i64 q4))
   have n_BK2 := Aside0.mk ((Below.heap_setCell t1 ⟨g8, 11, none⟩ (.int .i64 q4) w.heap.size (show w.heap.size ≠ g8 by omega)).trans BK2.out)
   have n_BK4 := Aside0.mk ((Below.heap_setCell t1 ⟨g8, 11, none⟩ (.int .i64 q4) g4 (show g4 ≠ g8 by omega)).trans BK4.out)
   have n_BK8 := Aside0.mk (blk_put BK8.out 11 (.int .i64 q4) (show (row18 _ _ _).setIfInBounds 11 _ = row18 ⟨o0, ia0, ua0, na0, wa0, q40⟩ ⟨o1, ia, ua, na, wa, q4⟩ ⟨o2, 0, 0, 0, 0, 0⟩ from rfl))
   clear HB BK8 BK2 BK4
   generalize t1.setCell ⟨g8, 11, none⟩ (.int .i64 q4) = t2 at n_HB n_BK8 n_BK2 n_BK4 ⊢
   have HB := n_HB
   clear n_HB
   have BK8 := n_BK8
   clear n_BK8
   have BK2 := n_BK2
   clear n_BK2
   have BK4 := n_BK4
   clear n_BK4
   obtain ⟨ia1, hv⟩ : ∃ v, v = ia := ⟨_, rfl⟩
   subst hv
   obtain ⟨ua1, hv⟩ : ∃ v, v = ua := ⟨_, rfl⟩
   subst hv
   obtain ⟨na1, hv⟩ : ∃ v, v = na := ⟨_, rfl⟩
   subst hv
   obtain ⟨wa1, hv⟩ : ∃ v, v = wa := ⟨_, rfl⟩
   subst hv
   obtain ⟨q41, hv⟩ : ∃ v, v = q4 := ⟨_, rfl⟩
   subst hv
   go_wp2_with fail
   rw [rounds_succ]
   go_wp2_with fail
   refine lombardref16_Roll.inner2 HR hl HOK hg4 hg8 BK2 BK4 BK8 HB (fun c_ a_ b_ w_ hd h => by cases a_; cases b_; cases hd; exact h) ?_
   clear BK2 BK4 BK8 HB
   intro x13 x81 x82 x83 x84 x85 x86 x87 x88 x89 x90 x91 x92 x93 x94 x95 x96 x97 x98 x99 x100 x101 x102 x103 x104 x105 x106 x107 x108 x109 x110 x111 x112 x113 x114 x115 x116 x117 x118 x119 x120 x121 x122 x123 x124 x125 x126 x127 x128 x129 x130 x131 x132 x133 x134 x135 x136 x137 x138 x139 x140 x141 x142 x143 x144 x145 x146 x147 x148 x149 x150 x151 x152 x153 x154 x155 x156 v3
   rintro ⟨BK2, BK4, BK8, HB⟩
   obtain ⟨ia, ua, na, wa, hpre⟩ := lombardref16_Roll.pre_some l o2 3
   rw [hpre] at BK8
   have HP := Aside0.mk hpre
   clear hpre
   go_wp2_with fail
   have hbd := lombardref16_Roll.pre_bd _ _ _ HP.out HOK.out hl
   have ho := HO2.out
   have hrb := lombardref16_Roll.row_big _ _ _ HP.out HOK.out hl ho
   obtain ⟨q1, hq1⟩ : ∃ v, v = o2 + ia := ⟨_, rfl⟩
   obtain ⟨q2, hq2⟩ : ∃ v, v = q1 + na := ⟨_, rfl⟩
   obtain ⟨q3, hq3⟩ : ∃ v, v = q2 - ua := ⟨_, rfl⟩
   obtain ⟨q4, hq4⟩ : ∃ v, v = q3 - wa := ⟨_, rfl⟩
   have Q1 := Aside0.mk (show wrap64 (o2 + ia) = q1 by unfold wrap64; omega)
   have Q2 := Aside0.mk (show wrap64 (q1 + na) = q2 by unfold wrap64; omega)
   have Q3 := Aside0.mk (show wrap64 (q2 - ua) = q3 by unfold wrap64; omega)
   have Q4 := Aside0.mk (show wrap64 (q3 - wa) = q4 by unfold wrap64; omega)
   have HR2 : Aside0 (allow_Roll.row (l.map cv) o2 3 = ⟨o2, ia, ua, na, wa, q4⟩) := ⟨by rw [hrb, hq4, hq3, hq2, hq1]⟩
   clear hbd ho hrb hq1 hq2 hq3 hq4 HP
   have n_HB := Aside0.mk (below_drew1 HB.out)
   have n_BK2 := Aside0.mk (blk_drew BK2.out)
   have n_BK4 := Aside0.mk (blk_drew BK4.out)
   have n_BK8 := Aside0.mk (blk_drew BK8.out)
   clear HB BK2 BK4 BK8
   have HB := n_HB
   clear n_HB
   have BK2 := n_BK2
   clear n_BK2
   have BK4 := n_BK4
   clear n_BK4
   have BK8 := n_BK8
   clear n_BK8
   have hs0 := Q1.out
   have ht0 := (i64_w _).trans Q1.out
   have hs1 := Q2.out
   have ht1 := (i64_w _).trans Q2.out
   have hs2 := Q3.out
   have ht2 := (i64_w _).trans Q3.out
   have hs3 := Q4.out
   have ht3 := (i64_w _).trans Q4.out
   refine start_ (n := 28) (S := fun w' => w'.cell? ⟨g8, 12, none⟩ = some (.int .i64 o2) ∧ w'.cell? ⟨g8, 13, none⟩ = some (.int .i64 ia) ∧ w'.cell? ⟨g8, 14, none⟩ = some (.int .i64 ua) ∧ w'.cell? ⟨g8, 15, none⟩ = some (.int .i64 na) ∧ w'.cell? ⟨g8, 16, none⟩ = some (.int .i64 wa) ∧ w'.cell? ⟨g8, 17, none⟩ = some (.int .i64 0)) (ds := [27]) #[false, false, false, false, false, false, false, false, false, false, false, false, false, false, false, false, false, false, false, false, false, false, false, false, false, false, false, false] (by kernel_rfl) rfl rfl ⟨(blk_cell BK8.out 12).trans rfl, (blk_cell BK8.out 13).trans rfl, (blk_cell BK8.out 14).trans rfl, (blk_cell BK8.out 15).trans rfl, (blk_cell BK8.out 16).trans rfl, (blk_cell BK8.out 17).trans rfl⟩ (fun hHeld => ?_)
   generalize v3.drew = t1 at HB BK2 BK4 BK8 hHeld ⊢
   refine pure_ (i := 0) (N := some 157) (v := ?_) (a' := ?_) #[true, false, false, false, false, false, false, false, false, false, false, false, false, false, false, false, false, false, false, false, false, false, false, false, false, false, false, false] rfl rfl (by kernel_rfl) (fun _ _ _ h => h) (Or.inl ⟨by rfl, ?_⟩) ?_ ?_
   rotate_left
   ·
    intro w'
    go_simp
    with_reducible rfl
   rotate_left
   ·
    simp only [Act.put, List.setIfInBounds_toArray, List.set_cons_zero, List.set_cons_succ, i64_w, i32_w]
    rfl
   refine pure_ (i := 1) (N := some 158) (v := ?_) (a' := ?_) #[true, true, false, false, false, false, false, false, false, false, false, false, false, false, false, false, false, false, false, false, false, false, false, false, false, false, false, false] rfl rfl (by kernel_rfl) (fun _ _ _ h => h) (Or.inl ⟨by rfl, ?_⟩) ?_ ?_
   rotate_left
   ·
    intro w'
    go_simp
    with_reducible rfl
   rotate_left
   ·
    simp only [Act.put, List.setIfInBounds_toArray, List.set_cons_zero, List.set_cons_succ, i64_w, i32_w]
    rfl
   refine pure_ (i := 2) (N := some 159) (v := ?_) (a' := ?_) #[true, true, true, false, false, false, false, false, false, false, false, false, false, false, false, false, false, false, false, false, false, false, false, false, false, false, false, false] rfl rfl (by kernel_rfl) (fun _ _ _ h => h) (Or.inl ⟨by rfl, ?_⟩) ?_ ?_
   rotate_left
   ·
    intro w'
    go_simp
    with_reducible rfl
   rotate_left
   ·
    simp only [Act.put, List.setIfInBounds_toArray, List.set_cons_zero, List.set_cons_succ, i64_w, i32_w]
    rfl
   refine pure_ (i := 3) (N := some 160) (v := ?_) (a' := ?_) #[true, true, true, true, false, false, false, false, false, false, false, false, false, false, false, false, false, false, false, false, false, false, false, false, false, false, false, false] rfl rfl (by kernel_rfl) (fun _ _ _ h => h) (Or.inl ⟨by rfl, ?_⟩) ?_ ?_
   rotate_left
   ·
    intro w'
    go_simp
    with_reducible rfl
   rotate_left
   ·
    simp only [Act.put, List.setIfInBounds_toArray, List.set_cons_zero, List.set_cons_succ, i64_w, i32_w]
    rfl
   refine pure_ (i := 5) (N := some 162) (v := ?_) (a' := ?_) #[true, true, true, true, false, true, false, false, false, false, false, false, false, false, false, false, false, false, false, false, false, false, false, false, false, false, false, false] rfl rfl (by kernel_rfl) (fun _ _ _ h => h) (Or.inl ⟨by rfl, ?_⟩) ?_ ?_
   rotate_left
   ·
    intro w'
    go_simp
    with_reducible rfl
   rotate_left
   ·
    simp only [Act.put, List.setIfInBounds_toArray, List.set_cons_zero, List.set_cons_succ, i64_w, i32_w]
    rfl
   refine pure_ (i := 6) (N := some 163) (v := ?_) (a' := ?_) #[true, true, true, true, false, true, true, false, false, false, false, false, false, false, false, false, false, false, false, false, false, false, false, false, false, false, false, false] rfl rfl (by kernel_rfl) (fun _ _ _ h => h) (Or.inl ⟨by rfl, ?_⟩) ?_ ?_
   rotate_left
   ·
    intro w'
    go_simp
    with_reducible rfl
   rotate_left
   ·
    simp only [Act.put, List.setIfInBounds_toArray, List.set_cons_zero, List.set_cons_succ, i64_w, i32_w]
    rfl
   refine pure_ (i := 7) (N := some 164) (v := ?_) (a' := ?_) #[true, true, true, true, false, true, true, true, false, false, false, false, false, false, false, false, false, false, false, false, false, false, false, false, false, false, false, false] rfl rfl (by kernel_rfl) (fun _ _ _ h => h) (Or.inl ⟨by rfl, ?_⟩) ?_ ?_
   rotate_left
   ·
    intro w'
    go_simp
    with_reducible rfl
   rotate_left
   ·
    simp only [Act.put, List.setIfInBounds_toArray, List.set_cons_zero, List.set_cons_succ, i64_w, i32_w]
    rfl
   refine pure_ (i := 10) (N := some 167) (v := ?_) (a' := ?_) #[true, true, true, true, false, true, true, true, false, false, true, false, false, false, false, false, false, false, false, false, false, false, false, false, false, false, false, false] rfl rfl (by kernel_rfl) (fun _ _ _ h => h) (Or.inl ⟨by rfl, ?_⟩) ?_ ?_
   rotate_left
   ·
    intro w'
    go_simp
    with_reducible rfl
   rotate_left
   ·
    simp only [Act.put, List.setIfInBounds_toArray, List.set_cons_zero, List.set_cons_succ, i64_w, i32_w]
    rfl
   refine pure_ (i := 11) (N := some 168) (v := ?_) (a' := ?_) #[true, true, true, true, false, true, true, true, false, false, true, true, false, false, false, false, false, false, false, false, false, false, false, false, false, false, false, false] rfl rfl (by kernel_rfl) (fun _ _ _ h => h) (Or.inl ⟨by rfl, ?_⟩) ?_ ?_
   rotate_left
   ·
    intro w'
    go_simp
    with_reducible rfl
   rotate_left
   ·
    simp only [Act.put, List.setIfInBounds_toArray, List.set_cons_zero, List.set_cons_succ, i64_w, i32_w]
    rfl
   refine pure_ (i := 12) (N := some 169) (v := ?_) (a' := ?_) #[true, true, true, true, false, true, true, true, false, false, true, true, true, false, false, false, false, false, false, false, false, false, false, false, false, false, false, false] rfl rfl (by kernel_rfl) (fun _ _ _ h => h) (Or.inl ⟨by rfl, ?_⟩) ?_ ?_
   rotate_left
   ·
    intro w'
    go_simp
    with_reducible rfl
   rotate_left
   ·
    simp only [Act.put, List.setIfInBounds_toArray, List.set_cons_zero, List.set_cons_succ, i64_w, i32_w]
    rfl
   refine pure_ (i := 15) (N := some 172) (v := ?_) (a' := ?_) #[true, true, true, true, false, true, true, true, false, false, true, true, true, false, false, true, false, false, false, false, false, false, false, false, false, false, false, false] rfl rfl (by kernel_rfl) (fun _ _ _ h => h) (Or.inl ⟨by rfl, ?_⟩) ?_ ?_
   rotate_left
   ·
    intro w'
    go_simp
    with_reducible rfl
   rotate_left
   ·
    simp only [Act.put, List.setIfInBounds_toArray, List.set_cons_zero, List.set_cons_succ, i64_w, i32_w]
    rfl
   refine pure_ (i := 16) (N := some 173) (v := ?_) (a' := ?_) #[true, true, true, true, false, true, true, true, false, false, true, true, true, false, false, true, true, false, false, false, false, false, false, false, false, false, false, false] rfl rfl (by kernel_rfl) (fun _ _ _ h => h) (Or.inl ⟨by rfl, ?_⟩) ?_ ?_
   rotate_left
   ·
    intro w'
    go_simp
    with_reducible rfl
   rotate_left
   ·
    simp only [Act.put, List.setIfInBounds_toArray, List.set_cons_zero, List.set_cons_succ, i64_w, i32_w]
    rfl
   refine pure_ (i := 17) (N := some 174) (v := ?_) (a' := ?_) #[true, true, true, true, false, true, true, true, false, false, true, true, true, false, false, true, true, true, false, false, false, false, false, false, false, false, false, false] rfl rfl (by kernel_rfl) (fun _ _ _ h => h) (Or.inl ⟨by rfl, ?_⟩) ?_ ?_
   rotate_left
   ·
    intro w'
    go_simp
    with_reducible rfl
   rotate_left
   ·
    simp only [Act.put, List.setIfInBounds_toArray, List.set_cons_zero, List.set_cons_succ, i64_w, i32_w]
    rfl
   refine pure_ (i := 20) (N := some 177) (v := ?_) (a' := ?_) #[true, true, true, true, false, true, true, true, false, false, true, true, true, false, false, true, true, true, false, false, true, false, false, false, false, false, false, false] rfl rfl (by kernel_rfl) (fun _ _ _ h => h) (Or.inl ⟨by rfl, ?_⟩) ?_ ?_
   rotate_left
   ·
    intro w'
    go_simp
    with_reducible rfl
   rotate_left
   ·
    simp only [Act.put, List.setIfInBounds_toArray, List.set_cons_zero, List.set_cons_succ, i64_w, i32_w]
    rfl
   refine pure_ (i := 21) (N := some 178) (v := ?_) (a' := ?_) #[true, true, true, true, false, true, true, true, false, false, true, true, true, false, false, true, true, true, false, false, true, true, false, false, false, false, false, false] rfl rfl (by kernel_rfl) (fun _ _ _ h => h) (Or.inl ⟨by rfl, ?_⟩) ?_ ?_
   rotate_left
   ·
    intro w'
    go_simp
    with_reducible rfl
   rotate_left
   ·
    simp only [Act.put, List.setIfInBounds_toArray, List.set_cons_zero, List.set_cons_succ, i64_w, i32_w]
    rfl
   refine pure_ (i := 22) (N := some 179) (v := ?_) (a' := ?_) #[true, true, true, true, false, true, true, true, false, false, true, true, true, false, false, true, true, true, false, false, true, true, true, false, false, false, false, false] rfl rfl (by kernel_rfl) (fun _ _ _ h => h) (Or.inl ⟨by rfl, ?_⟩) ?_ ?_
   rotate_left
   ·
    intro w'
    go_simp
    with_reducible rfl
   rotate_left
   ·
    simp only [Act.put, List.setIfInBounds_toArray, List.set_cons_zero, List.set_cons_succ, i64_w, i32_w]
    rfl
   refine take_ (i := 4) (N := some 161) (v := ?_) (a' := ?_) #[true, true, true, true, true, true, true, true, false, false, true, true, true, false, false, true, true, true, false, false, true, true, true, false, false, false, false, false] rfl rfl (by kernel_rfl) (fun _ _ _ h => h) (Or.inl ⟨by rfl, ?_⟩) hHeld ?_ ?_
   rotate_left
   ·
    rintro w' ⟨s0, s1, s2, s3, s4, s5⟩
    go_simp
    with_reducible rfl
   rotate_left
   ·
    simp only [Act.put, List.setIfInBounds_toArray, List.set_cons_zero, List.set_cons_succ, i64_w, i32_w]
    rfl
   refine take_ (i := 8) (N := some 165) (v := ?_) (a' := ?_) #[true, true, true, true, true, true, true, true, true, false, true, true, true, false, false, true, true, true, false, false, true, true, true, false, false, false, false, false] rfl rfl (by kernel_rfl) (fun _ _ _ h => h) (Or.inl ⟨by rfl, ?_⟩) hHeld ?_ ?_
   rotate_left
   ·
    rintro w' ⟨s0, s1, s2, s3, s4, s5⟩
    go_simp
    with_reducible rfl
   rotate_left
   ·
    simp only [Act.put, List.setIfInBounds_toArray, List.set_cons_zero, List.set_cons_succ, i64_w, i32_w]
    rfl
   refine pure_ (i := 9) (N := some 166) (v := ?_) (a' := ?_) #[true, true, true, true, true, true, true, true, true, true, true, true, true, false, false, true, true, true, false, false, true, true, true, false, false, false, false, false] rfl rfl (by kernel_rfl) (fun _ _ _ h => h) (Or.inl ⟨by rfl, ?_⟩) ?_ ?_
   rotate_left
   ·
    intro w'
    go_simp
    with_reducible rfl
   rotate_left
   ·
    simp only [Act.put, List.setIfInBounds_toArray, List.set_cons_zero, List.set_cons_succ, i64_w, i32_w]
    rfl
   refine take_ (i := 13) (N := some 170) (v := ?_) (a' := ?_) #[true, true, true, true, true, true, true, true, true, true, true, true, true, true, false, true, true, true, false, false, true, true, true, false, false, false, false, false] rfl rfl (by kernel_rfl) (fun _ _ _ h => h) (Or.inl ⟨by rfl, ?_⟩) hHeld ?_ ?_
   rotate_left
   ·
    rintro w' ⟨s0, s1, s2, s3, s4, s5⟩
    go_simp
    with_reducible rfl
   rotate_left
   ·
    simp only [Act.put, List.setIfInBounds_toArray, List.set_cons_zero, List.set_cons_succ, i64_w, i32_w]
    rfl
   refine pure_ (i := 14) (N := some 171) (v := ?_) (a' := ?_) #[true, true, true, true, true, true, true, true, true, true, true, true, true, true, true, true, true, true, false, false, true, true, true, false, false, false, false, false] rfl rfl (by kernel_rfl) (fun _ _ _ h => h) (Or.inl ⟨by rfl, ?_⟩) ?_ ?_
   rotate_left
   ·
    intro w'
    go_simp
    with_reducible rfl
   rotate_left
   ·
    simp only [Act.put, List.setIfInBounds_toArray, List.set_cons_zero, List.set_cons_succ, i64_w, i32_w]
    rfl
   refine take_ (i := 18) (N := some 175) (v := ?_) (a' := ?_) #[true, true, true, true, true, true, true, true, true, true, true, true, true, true, true, true, true, true, true, false, true, true, true, false, false, false, false, false] rfl rfl (by kernel_rfl) (fun _ _ _ h => h) (Or.inl ⟨by rfl, ?_⟩) hHeld ?_ ?_
   rotate_left
   ·
    rintro w' ⟨s0, s1, s2, s3, s4, s5⟩
    go_simp
    with_reducible rfl
   rotate_left
   ·
    simp only [Act.put, List.setIfInBounds_toArray, List.set_cons_zero, List.set_cons_succ, i64_w, i32_w]
    rfl
   refine pure_ (i := 19) (N := some 176) (v := ?_) (a' := ?_) #[true, true, true, true, true, true, true, true, true, true, true, true, true, true, true, true, true, true, true, true, true, true, true, false, false, false, false, false] rfl rfl (by kernel_rfl) (fun _ _ _ h => h) (Or.inl ⟨by rfl, ?_⟩) ?_ ?_
   rotate_left
   ·
    intro w'
    go_simp
    with_reducible rfl
   rotate_left
   ·
    simp only [Act.put, List.setIfInBounds_toArray, List.set_cons_zero, List.set_cons_succ, i64_w, i32_w]
    rfl
   refine take_ (i := 23) (N := some 180) (v := ?_) (a' := ?_) #[true, true, true, true, true, true, true, true, true, true, true, true, true, true, true, true, true, true, true, true, true, true, true, true, false, false, false, false] rfl rfl (by kernel_rfl) (fun _ _ _ h => h) (Or.inl ⟨by rfl, ?_⟩) hHeld ?_ ?_
   rotate_left
   ·
    rintro w' ⟨s0, s1, s2, s3, s4, s5⟩
    go_simp
    with_reducible rfl
   rotate_left
   ·
    simp only [Act.put, List.setIfInBounds_toArray, List.set_cons_zero, List.set_cons_succ, i64_w, i32_w]
    rfl
   refine pure_ (i := 24) (N := some 181) (v := ?_) (a' := ?_) #[true, true, true, true, true, true, true, true, true, true, true, true, true, true, true, true, true, true, true, true, true, true, true, true, true, false, false, false] rfl rfl (by kernel_rfl) (fun _ _ _ h => h) (Or.inl ⟨by rfl, ?_⟩) ?_ ?_
   rotate_left
   ·
    intro w'
    go_simp
    with_reducible rfl
   rotate_left
   ·
    simp only [Act.put, List.setIfInBounds_toArray, List.set_cons_zero, List.set_cons_succ, i64_w, i32_w]
    rfl
   refine pure_ (i := 25) (N := some 182) (v := ?_) (a' := ?_) #[true, true, true, true, true, true, true, true, true, true, true, true, true, true, true, true, true, true, true, true, true, true, true, true, true, true, false, false] rfl rfl (by kernel_rfl) (fun _ _ _ h => h) (Or.inl ⟨by rfl, ?_⟩) ?_ ?_
   rotate_left
   ·
    intro w'
    go_simp
    with_reducible rfl
   rotate_left
   ·
    simp only [Act.put, List.setIfInBounds_toArray, List.set_cons_zero, List.set_cons_succ, i64_w, i32_w]
    rfl
   refine pure_ (i := 26) (N := some 183) (v := ?_) (a' := ?_) #[true, true, true, true, true, true, true, true, true, true, true, true, true, true, true, true, true, true, true, true, true, true, true, true, true, true, true, false] rfl rfl (by kernel_rfl) (fun _ _ _ h => h) (Or.inl ⟨by rfl, ?_⟩) ?_ ?_
   rotate_left
   ·
    intro w'
    go_simp
    with_reducible rfl
   rotate_left
   ·
    simp only [Act.put, List.setIfInBounds_toArray, List.set_cons_zero, List.set_cons_succ, i64_w, i32_w]
    rfl
   refine last_ (i := 27) (N := none) #[true, true, true, true, true, true, true, true, true, true, true, true, true, true, true, true, true, true, true, true, true, true, true, true, true, true, true, true] rfl rfl (by kernel_rfl) (by decide) (fun K hK => ?_)
   have kf := blk_frozen BK8.out 17
   have kc := hHeld.2.2.2.2.2
   refine skip_ (w1 := ?_) (by rfl) rfl ?_ ?_
   rotate_left
   ·
    go_simp
    rfl
   refine hK.out _ _ ?_
   clear hK K
   refine done_ (by kernel_rfl) ?_
   clear hHeld kf kc hs0 ht0 hs1 ht1 hs2 ht2 hs3 ht3 Q1 Q2 Q3 Q4
   have n_HB := Aside0.mk (HB.out.setCell (p := ⟨g8, 17, none⟩) (show w.heap.size ≤ g8 by omega) (.int .i64 q4))
   have n_BK2 := Aside0.mk ((Below.heap_setCell t1 ⟨g8, 17, none⟩ (.int .i64 q4) w.heap.size (show w.heap.size ≠ g8 by omega)).trans BK2.out)
   have n_BK4 := Aside0.mk ((Below.heap_setCell t1 ⟨g8, 17, none⟩ (.int .i64 q4) g4 (show g4 ≠ g8 by omega)).trans BK4.out)
   have n_BK8 := Aside0.mk (blk_put BK8.out 17 (.int .i64 q4) (show (row18 _ _ _).setIfInBounds 17 _ = row18 ⟨o0, ia0, ua0, na0, wa0, q40⟩ ⟨o1, ia1, ua1, na1, wa1, q41⟩ ⟨o2, ia, ua, na, wa, q4⟩ from rfl))
   clear HB BK8 BK2 BK4
   generalize t1.setCell ⟨g8, 17, none⟩ (.int .i64 q4) = t2 at n_HB n_BK8 n_BK2 n_BK4 ⊢
   have HB := n_HB
   clear n_HB
   have BK8 := n_BK8
   clear n_BK8
   have BK2 := n_BK2
   clear n_BK2
   have BK4 := n_BK4
   clear n_BK4
   obtain ⟨ia2, hv⟩ : ∃ v, v = ia := ⟨_, rfl⟩
   subst hv
   obtain ⟨ua2, hv⟩ : ∃ v, v = ua := ⟨_, rfl⟩
   subst hv
   obtain ⟨na2, hv⟩ : ∃ v, v = na := ⟨_, rfl⟩
   subst hv
   obtain ⟨wa2, hv⟩ : ∃ v, v = wa := ⟨_, rfl⟩
   subst hv
   obtain ⟨q42, hv⟩ : ∃ v, v = q4 := ⟨_, rfl⟩
   subst hv
   go_wp2_with fail
   rw [rounds_succ]
   have hfin : r = (⟨o0, ia0, ua0, na0, wa0, q40⟩, ⟨o1, ia1, ua1, na1, wa1, q41⟩, ⟨o2, ia2, ua2, na2, wa2, q42⟩, 0) := by
    rw [← HRES.out, ← HR0.out, ← HR1.out, ← HR2.out]
    unfold allow_Roll.g
    rw [if_neg (by simp; omega), if_neg (fun z => z HOK2.out), if_neg (fun z => z (by have := HO0.out; have := HO1.out; have := HO2.out; unfold allow_Roll.okO; omega))]
   clear HRES
   subst hfin
   go_wp2_with (first | ((with_reducible refine gate_dst (N := 185) rfl ?_); refine wpList_load_row rfl 34 (.tmp 8) rfl g8 rfl 34 _ (0, 0) _ BK8.out Try.underlying34 rfl (by kernel_rfl) ?_) | ((with_reducible refine gate_store (t := 34) (p := 4) (v := .tmp 185) rfl ?_); refine Shut.out ?_))
   unfold Shut
   refine store_rowTo rfl 34 (.tmp 4) (.tmp 185) rfl rfl g4 (row18 ⟨o0, ia0, ua0, na0, wa0, q40⟩ ⟨o1, ia1, ua1, na1, wa1, q41⟩ ⟨o2, ia2, ua2, na2, wa2, q42⟩) rfl rfl 34 _ BK4.out (by kernel_rfl) rfl (row18_all _ _ _) ?_
   have HBn := Aside0.mk (row_below (g := g4) HB.out (by omega) (row18 ⟨o0, ia0, ua0, na0, wa0, q40⟩ ⟨o1, ia1, ua1, na1, wa1, q41⟩ ⟨o2, ia2, ua2, na2, wa2, q42⟩))
   have BKn := Aside0.mk (setRow_heap _ _ _ (row18 ⟨o0, ia0, ua0, na0, wa0, q40⟩ ⟨o1, ia1, ua1, na1, wa1, q41⟩ ⟨o2, ia2, ua2, na2, wa2, q42⟩) _ _ BK4.out)
   clear HB BK4
   go_wp2_with fail
   exact bodyPost_ret (v := .tuple #[.agg (row18 ⟨o0, ia0, ua0, na0, wa0, q40⟩ ⟨o1, ia1, ua1, na1, wa1, q41⟩ ⟨o2, ia2, ua2, na2, wa2, q42⟩), .int .i64 0]) (results_ct Try.results12 _ _ g4 34 _ (0, 0) _ rfl BKn.out Try.underlying34 rfl (by kernel_rfl)) rfl ⟨rfl, HBn.out⟩
theorem lombardref16_Roll.go_ (A : Option Addr) (c : Nat) (l : List S40) (o0 o1 o2 : Int) (w : World) (hr : Kd.C k40 w A l.length l) (hc : l.length ≤ c) :
  Calls Try.prog 12 #[.agg #[.int .i64 o0, .int .i64 o1, .int .i64 o2], .slice A l.length c] w (lombardref16_Roll.P w (allow_Roll.g o0 o1 o2 (l.map cv))) := by
 by_cases hl : 4096 < l.length
 ·
  have : allow_Roll.g o0 o1 o2 (l.map cv) = (Row6.z, Row6.z, Row6.z, 10) := if_pos (by simpa using hl)
  rw [this]
  exact lombardref16_Roll.full A c l o0 o1 o2 w hl
 ·
  exact lombardref16_Roll.walk A c l o0 o1 o2 w hr hc (by omega) ⟨rfl⟩


end Go.Proofs.Ytgeeffnokedllaa.Print
