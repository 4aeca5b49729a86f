-- written by this session's program wip/hybrid.py over the kit's printer, and by hand. Not trusted: Lean checks it.
import Derived.Test.YtpolkjmdkeengaaPrint0
import Derived.Test.YtpolkjmdkeengaaPrint3
import Derived.Test.YtpolkjmdkeengaaPrint5
namespace Go.Proofs.Ytpolkjmdkeengaa.Print
open Go.RowKit Go.Proofs.YtpolkjmdkeengaaW.PrintWords Go.Proofs.YtpolkjmdkeengaaW.PrintLast Go.Proofs.YtpolkjmdkeengaaW.PrintMore
attribute [local go_sem] max2_int min2_int max_two min_two max_three min_three max_four min_four   -- for this text's walks alone
set_option linter.unusedVariables false
set_option linter.unusedSimpArgs false

/-! ### flow_Flow_22: function 22 -/
/-! the closure of Merge (function 24), and zip with it -/
theorem R_slice3 {α : Type} {d : Kd α} {e : Nat} {w : World} {base : Nat} {ok : Nat → Prop} {v : Value} {xs : List α} (h : d.R e w base ok v xs) : ∃ A n c, v = .slice A n c := by
  obtain ⟨A, c, h⟩ := Kd.R_slice h
  exact ⟨A, _, c, h⟩
def flow_Flow_22.may (n : Int) : Bool := decide (-10000000000000 ≤ n) && decide (n ≤ 10000000000000)
def flow_Flow_22.put (out : List S39) (k n : Int) : List S39 := if n = 0 then out else out ++ [⟨k, n⟩]
theorem flow_Flow_22.put_len (out : List S39) (k n : Int) : (flow_Flow_22.put out k n).length ≤ out.length + 1 := by
  unfold flow_Flow_22.put; split <;> simp
/-- What the closure's two variables hold. -/
structure flow_Flow_22.Vars (w : World) (bk bo B : Nat) (ok : Bool) (v : Value) (acc : List S39) : Prop where
  hk : w.heap[bk]? = some (.cells #[.bool ok] 4 (0, 0))
  ho : w.heap[bo]? = some (.cells #[v] 24 (0, 0))
  hr : Kd.R k39 39 w B (fun _ => True) v acc
theorem flow_Flow_22.Vars.below {w w1 : World} {bk bo B : Nat} {ok : Bool} {v : Value} {acc : List S39} (h : flow_Flow_22.Vars w bk bo B ok v acc) (hb : Below w.heap.size w w1) : flow_Flow_22.Vars w1 bk bo B ok v acc :=
  ⟨blk_below h.hk hb, blk_below h.ho hb, Kd.R_below h.hr hb⟩
theorem k39_E (t : Nat) (h : 39 ≠ t) : ∀ q, q ∈ 39 :: k39.E → q ≠ t := fun q hq => by
  have : q = 39 := by simpa [k39, Kd.iso, Kd.pair, Kd.int, Kd.scalar] using hq
  omega
theorem flow_Flow_22.Vars.setk {w : World} {bk bo B : Nat} {ok : Bool} {v : Value} {acc : List S39} (h : flow_Flow_22.Vars w bk bo B ok v acc) (b : Bool) : flow_Flow_22.Vars (w.setCell ⟨bk, 0, none⟩ (.bool b)) bk bo B b v acc :=
  ⟨blk_set h.hk 0 _, blk_far h.ho (blk_ne h.ho h.hk (by decide)) _, Kd.R_set h.hr h.hk (k39_E 4 (by decide)) 0 _⟩
theorem flow_Flow_22.Vars.seto {w w1 : World} {bk bo B : Nat} {ok : Bool} {v v' : Value} {acc acc' : List S39} (h : flow_Flow_22.Vars w bk bo B ok v acc) (hg : w.grownBy w1 v.ownBlock) (hr : Kd.R k39 39 w1 B (fun _ => True) v' acc') :
    flow_Flow_22.Vars (w1.setCell ⟨bo, 0, none⟩ v') bk bo B ok v' acc' :=
  have hk := blk_grown h.hk hg (Kd.R_ne h.hr h.hk (by decide))
  have ho := blk_grown h.ho hg (Kd.R_ne h.hr h.ho (by decide))
  ⟨blk_far hk (blk_ne hk ho (by decide)) _, blk_set ho 0 _, Kd.R_set hr ho (k39_E 24 (by decide)) 0 _⟩
theorem flow_Flow_22.may_eq (n : Int) : money_May.f n = some (flow_Flow_22.may n) := by
  unfold money_May.f flow_Flow_22.may
  by_cases c : n ≥ -10000000000000
  · rw [if_pos c, decide_eq_true (show -10000000000000 ≤ n from c), Bool.true_and]
  · rw [if_neg c, decide_eq_false (show ¬ -10000000000000 ≤ n from c), Bool.false_and]
set_option maxHeartbeats 4000000 in
set_option maxRecDepth 100000 in
theorem flow_Flow_22.cl (B bk bo : Nat) (k x0 x1 y0 y1 : Int) (hx1 : -10000000000000 ≤ x1) (hx2 : x1 ≤ 10000000000000) (hy1 : -10000000000000 ≤ y1) (hy2 : y1 ≤ 10000000000000)
    (w0 w : World) (ok : Bool) (v : Value) (acc : List S39) (hV : flow_Flow_22.Vars w bk bo B ok v acc) (hBk : B ≤ bk) (hBo : B ≤ bo) (hBw : w0.heap.size ≤ B) (hB : Below B w0 w) (hacc : acc.length ≤ 1000000) :
    Calls Try.prog 24 #[.int .i64 k, .agg #[.int .i64 x0, .int .i64 x1], .agg #[.int .i64 y0, .int .i64 y1], .pointer (some ⟨bk, 0, none⟩), .pointer (some ⟨bo, 0, none⟩)] w
      fun e w' => e = .returned (.bool (flow_Flow_22.may (x1 + y1))) ∧ ∃ v', flow_Flow_22.Vars w' bk bo B (flow_Flow_22.may (x1 + y1)) v' (flow_Flow_22.put acc k (x1 + y1)) ∧ Below B w0 w' := by
  have HV := Aside0.mk hV
  have HB := Aside0.mk hB
  have hk0 : w.cell? ⟨bk, 0, none⟩ = some (.bool ok) := blk_cell hV.hk 0
  have hkf := blk_frozen hV.hk 0
  have ho0 : w.cell? ⟨bo, 0, none⟩ = some v := blk_cell hV.ho 0
  have hof := blk_frozen hV.ho 0
  have hklt := blk_lt hV.hk
  have holt := blk_lt hV.ho
  have hne := blk_ne hV.hk hV.ho (by decide)
  clear hV hB
  obtain ⟨b, hbm⟩ : ∃ b, b = flow_Flow_22.may (x1 + y1) := ⟨_, rfl⟩
  have HBF := Aside0.mk (show money_May.f (x1 + y1) = some b from hbm ▸ flow_Flow_22.may_eq _)
  have HBM := Aside0.mk hbm
  clear hbm
  have HB2 : ∀ o1 o2, Aside0 (Below B w0 ((w.alloc o1).alloc o2)) := fun o1 o2 => ⟨(HB.out.alloc (by omega) _).alloc (by simp; omega) _⟩
  have HV2 : ∀ o1 o2, Aside0 (flow_Flow_22.Vars ((w.alloc o1).alloc o2) bk bo B ok v acc) := fun o1 o2 => ⟨HV.out.below (below_alloc (below_alloc (Below.refl _ _) _) _)⟩
  go_enter Try.func24, Try.ntmps24
  go_wp2_with fail
  with_reducible refine (money_May.calls (x1 + y1) b _ HBF.out).mono ?_
  rintro e w1 ⟨rfl, hd⟩
  have HV1 := Aside0.mk ((HV2 _ _).out.below hd.below)
  have HB1 := Aside0.mk ((HB2 _ _).out.trans (hd.below.mono (by simp; omega)))
  have hs1 : w.heap.size + 2 ≤ w1.heap.size := by have := hd.below.size; simp at this; omega
  clear hd hk0 hkf ho0 hof HV2 HB2
  have hk0 : w1.cell? ⟨bk, 0, none⟩ = some (.bool ok) := blk_cell HV1.out.hk 0
  have hkf := blk_frozen HV1.out.hk 0
  have ho0 : w1.cell? ⟨bo, 0, none⟩ = some v := blk_cell HV1.out.ho 0
  have hof := blk_frozen HV1.out.ho 0
  by_cases hn : x1 + y1 = 0
  · have hz : (x1 + y1 == 0) = true := by simpa using hn
    have hz2 : (x1 + y1 != 0) = false := by simpa using hn
    have HP := Aside0.mk (show flow_Flow_22.put acc k (x1 + y1) = acc from if_pos hn)
    clear hn
    go_wp2_with fail
    go_ret
    obtain rfl := HBM.out
    exact ⟨rfl, v, by rw [HP.out]; exact HV1.out.setk _, HB1.out.setCell hBk _⟩
  · have hz : (x1 + y1 == 0) = false := by simpa using hn
    have hz2 : (x1 + y1 != 0) = true := by simpa using hn
    have HP := Aside0.mk (show flow_Flow_22.put acc k (x1 + y1) = acc ++ [⟨k, x1 + y1⟩] from if_neg hn)
    clear hn
    have HVk := Aside0.mk (HV1.out.setk b)
    have HBk := Aside0.mk (HB1.out.setCell (p := ⟨bk, 0, none⟩) hBk (.bool b))
    have hRF : ∀ k_, (w1.setCell ⟨bk, 0, none⟩ (.bool b)).heap.size ≤ k_ → (fun _ : Nat => True) k_ := fun _ _ => trivial
    go_wp2_with ((with_reducible refine gate_builtin (b := .append) (xs := #[.tmp 19, .tmp 23]) rfl ?_); at_builtin; refine Kd.R_append k39 (w0 := w0) B rfl (.tmp 19) (.tmp 23) 24 39 (.agg #[(.int .i64 0), (.int .i64 0)]) 16 rfl Try.underlying24 info39 rfl (by decide) (by omega) v acc (⟨k, x1 + y1⟩ : S39) [.int .i64 k, .int .i64 (x1 + y1)] (fun _ => True) (fun _ => False) rfl (by first | (go_simp; done) | (go_simp; rfl)) ?aP (fun _ hk => hk.elim) ?aF ?aO ?aB ?aS ?aL ?_; (case aP => exact k39_mkM _ _ _ (⟨k, x1 + y1⟩ : S39)); (case aB => exact HBk.out); (case aF => exact (fun _ _ => trivial)); (case aO => exact HVk.out.hr); (case aS => (simp <;> omega)); (case aL => omega); intro v8 w8 ho hb hg hat; obtain ⟨A8, n8, c8, rfl⟩ : ∃ A n c, v8 = .slice A n c := R_slice3 ho; have HO8 := Aside0.mk ho; have HB8 := Aside0.mk hb; have HV8 := Aside0.mk (HVk.out.seto hg ho); have hb8 := blk_grown HVk.out.ho hg (Kd.R_ne HVk.out.hr HVk.out.ho (by decide)); have hk8 := blk_grown HVk.out.hk hg (Kd.R_ne HVk.out.hr HVk.out.hk (by decide)); have hc8 : w8.cell? ⟨bo, 0, none⟩ = some v := blk_cell hb8 0; have hf8 := blk_frozen hb8 0; have hck8 : w8.cell? ⟨bk, 0, none⟩ = some (.bool b) := blk_cell hk8 0; have hs8 := hg.size; clear ho hb hg hat hb8 hk8)
    go_ret
    obtain rfl := HBM.out
    exact ⟨rfl, _, by rw [HP.out]; exact HV8.out, HB8.out.setCell hBo _⟩
theorem flow_Flow_22.cl2 {B bk bo : Nat} {k x0 x1 y0 y1 n : Int} {m : Bool} (hn : x1 + y1 = n) (hm : flow_Flow_22.may n = m) (hx : -10000000000000 ≤ x1 ∧ x1 ≤ 10000000000000) (hy : -10000000000000 ≤ y1 ∧ y1 ≤ 10000000000000)
    {w0 w : World} {ok : Bool} {v : Value} {acc : List S39} (hV : flow_Flow_22.Vars w bk bo B ok v acc) (hBk : B ≤ bk) (hBo : B ≤ bo) (hBw : w0.heap.size ≤ B) (hB : Below B w0 w) (hacc : acc.length ≤ 1000000) :
    Calls Try.prog 24 #[.int .i64 k, .agg #[.int .i64 x0, .int .i64 x1], .agg #[.int .i64 y0, .int .i64 y1], .pointer (some ⟨bk, 0, none⟩), .pointer (some ⟨bo, 0, none⟩)] w
      fun e w' => e = .returned (.bool m) ∧ ∃ v', flow_Flow_22.Vars w' bk bo B m v' (flow_Flow_22.put acc k n) ∧ Below B w0 w' := by
  subst hn; subst hm
  exact flow_Flow_22.cl B bk bo k x0 x1 y0 y1 hx.1 hx.2 hy.1 hy.2 w0 w ok v acc hV hBk hBo hBw hB hacc

def flow_Flow_22.nxt : List S39 → List S39 → Option (Int × Int × Int × List S39 × List S39)
  | [], [] => none
  | x :: a, [] => some (x.f0, x.f1, 0, a, [])
  | [], y :: b => some (y.f0, 0, y.f1, [], b)
  | x :: a, y :: b => if x.f0 < y.f0 then some (x.f0, x.f1, 0, a, y :: b) else if y.f0 < x.f0 then some (y.f0, 0, y.f1, x :: a, b) else some (x.f0, x.f1, y.f1, a, b)
def flow_Flow_22.zip : Nat → List S39 → List S39 → List S39 → List S39 × Bool
  | 0, _, _, acc => (acc, true)
  | n + 1, a, b, acc => match flow_Flow_22.nxt a b with
    | none => (acc, true)
    | some (k, p, q, a', b') => if flow_Flow_22.may (p + q) = true then flow_Flow_22.zip n a' b' (flow_Flow_22.put acc k (p + q)) else (flow_Flow_22.put acc k (p + q), false)
def flow_Flow_22.amt (l : List S39) : Prop := ∀ f ∈ l, -10000000000000 ≤ f.f1 ∧ f.f1 ≤ 10000000000000
/-- A row that came in, from its head on. -/
structure flow_Flow_22.In (w0 : World) (A : Option Addr) (n c : Nat) (l : List S39) : Prop where
  hc : Kd.C k39 w0 A n l
  hn : l.length = n
  hl : n ≤ c
  ham : flow_Flow_22.amt l
theorem flow_Flow_22.In.cons {w0 : World} {A : Option Addr} {n c : Nat} {x : S39} {l : List S39} (h : flow_Flow_22.In w0 A n c (x :: l)) (hn : n ≤ 1000000) :
    ∃ ad A' m, A = some ad ∧ n = m + 1 ∧ w0.cell? ad = some (.int .i64 x.f0) ∧ w0.cell? ⟨ad.block, ad.off + 1, none⟩ = some (.int .i64 x.f1) ∧ ad.block < w0.heap.size ∧
      (∀ W : World, (Instr.slice 24 (.slice (some ad) (m + 1) c) (some (.int .i64 1)) none none).run Try.prog W = .ok (.slice A' m (c - 1)) W) ∧ flow_Flow_22.In w0 A' m (c - 1) l ∧ 1 ≤ c ∧ (-10000000000000 ≤ x.f1 ∧ x.f1 ≤ 10000000000000) := by
  have hl : n = l.length + 1 := by have := h.hn; simp at this; omega
  subst hl
  obtain ⟨ad, rfl, h0, h1⟩ := at_T39 h.hc 0 (by omega) (by omega)
  have e0 : ad.add ((0 : Int).toNat * 2) = ad := by simp [Addr.add]
  rw [e0] at h0 h1
  obtain ⟨i0, hi, hz⟩ := Option.map_eq_some_iff.1 (info39)
  simp only [Prod.mk.injEq] at hz
  have hcl := h.hl
  have hC := Kd.C_drop (c := c) (m := 1) (show Kd.C k39 w0 (some ad) (x :: l).length (x :: l) from h.hc) (by simp) (by simpa using hcl)
  refine ⟨ad, (if c = 1 then some ad else (some ad).map (·.add (1 * 2))), l.length, rfl, rfl, h0, h1, World.block_lt_of_cell? w0 _ h0, fun W => ?_, ⟨?_, rfl, by omega, fun f hf => h.ham f (List.mem_cons_of_mem _ hf)⟩, by omega, h.ham x List.mem_cons_self⟩
  · have := cut_from 24 39 .i64 Try.underlying24 hi 2 hz.2.1 (some ad) (l.length + 1) c 1 (by omega) (by omega) W
    simpa using this
  · have e : k39.sz = 2 := rfl
    rw [e] at hC
    simpa using hC
theorem blk_new2 (w : World) (o1 o2 : Obj) : ((w.alloc o1).alloc o2).heap[w.heap.size + 1]? = some o2 := by
  have := blk_new (w.alloc o1) o2
  simpa using this
/-- A round's two variables, as they begin, in a world of the round's. -/
structure flow_Flow_22.Rd (wr y : World) : Prop where
  b : Below wr.heap.size wr y
  h0 : y.heap[wr.heap.size]? = some (.cells #[.int .i64 0, .int .i64 0] 39 (0, 0))
  h1 : y.heap[wr.heap.size + 1]? = some (.cells #[.int .i64 0, .int .i64 0] 39 (0, 0))
theorem flow_Flow_22.Rd.start (wr : World) : flow_Flow_22.Rd wr ((wr.alloc (.cells #[.int .i64 0, .int .i64 0] 39)).alloc (.cells #[.int .i64 0, .int .i64 0] 39)) :=
  ⟨below_alloc (below_alloc (Below.refl _ _) _) _, blk_alloc (blk_new wr _) _, blk_new2 wr _ _⟩
theorem flow_Flow_22.Rd.drewN {wr y : World} (h : flow_Flow_22.Rd wr y) (n : Nat) : flow_Flow_22.Rd wr (y.drewN n) := ⟨pw_below_drewN h.b n, h.h0, h.h1⟩
theorem flow_Flow_22.Rd.drew {wr y : World} (h : flow_Flow_22.Rd wr y) : flow_Flow_22.Rd wr y.drew := ⟨below_drew1 h.b, h.h0, h.h1⟩
theorem flow_Flow_22.Rd.call {wr y y' : World} (h : flow_Flow_22.Rd wr y) (hb : Below y.heap.size y y') : flow_Flow_22.Rd wr y' := ⟨below_step h.b hb, blk_below h.h0 hb, blk_below h.h1 hb⟩
theorem flow_Flow_22.Rd.cells {wr y : World} (h : flow_Flow_22.Rd wr y) : y.cell? ⟨wr.heap.size, 0, none⟩ = some (.int .i64 0) ∧ y.cell? ⟨wr.heap.size, 1, none⟩ = some (.int .i64 0) ∧ y.frozen? ⟨wr.heap.size, 0, none⟩ = false ∧ y.frozen? ⟨wr.heap.size, 1, none⟩ = false ∧
    y.cell? ⟨wr.heap.size + 1, 0, none⟩ = some (.int .i64 0) ∧ y.cell? ⟨wr.heap.size + 1, 1, none⟩ = some (.int .i64 0) ∧ y.frozen? ⟨wr.heap.size + 1, 0, none⟩ = false ∧ y.frozen? ⟨wr.heap.size + 1, 1, none⟩ = false :=
  ⟨blk_cell h.h0 0, blk_cell h.h0 1, blk_frozen h.h0 0, blk_frozen h.h0 1, blk_cell h.h1 0, blk_cell h.h1 1, blk_frozen h.h1 0, blk_frozen h.h1 1⟩
def flow_Flow_22.lenOf : Value → Nat | .slice _ n _ => n | _ => 0
theorem flow_Flow_22.nxt_len {a b a' b' : List S39} {k p q : Int} (h : flow_Flow_22.nxt a b = some (k, p, q, a', b')) : a'.length + b'.length < a.length + b.length := by
  unfold flow_Flow_22.nxt at h
  split at h
  · cases h
  · simp only [Option.some.injEq, Prod.mk.injEq] at h; obtain ⟨_, _, _, rfl, rfl⟩ := h; simp
  · simp only [Option.some.injEq, Prod.mk.injEq] at h; obtain ⟨_, _, _, rfl, rfl⟩ := h; simp
  · split at h
    · simp only [Option.some.injEq, Prod.mk.injEq] at h; obtain ⟨_, _, _, rfl, rfl⟩ := h; simp
    · split at h <;> (simp only [Option.some.injEq, Prod.mk.injEq] at h; obtain ⟨_, _, _, rfl, rfl⟩ := h; simp; try omega)
theorem flow_Flow_22.zip_more (a b acc : List S39) (n m : Nat) (hn : a.length + b.length ≤ n) (hm : a.length + b.length ≤ m) : flow_Flow_22.zip n a b acc = flow_Flow_22.zip m a b acc := by
  induction n generalizing a b acc m with
  | zero =>
    have ha : a = [] := List.eq_nil_of_length_eq_zero (by omega)
    have hb : b = [] := List.eq_nil_of_length_eq_zero (by omega)
    subst ha; subst hb
    cases m <;> rfl
  | succ n ih =>
    cases m with
    | zero =>
      have ha : a = [] := List.eq_nil_of_length_eq_zero (by omega)
      have hb : b = [] := List.eq_nil_of_length_eq_zero (by omega)
      subst ha; subst hb
      rfl
    | succ m =>
      simp only [flow_Flow_22.zip]
      split
      · rfl
      · rename_i k p q a' b' hx
        have := flow_Flow_22.nxt_len hx
        rw [ih a' b' _ m (by omega) (by omega)]
def flow_Flow_22.Post (w0 : World) (bk bo Bs : Nat) (r : List S39 × Bool) (e : Ending) (w' : World) : Prop := e = .returned (.tuple #[]) ∧ ∃ v', flow_Flow_22.Vars w' bk bo Bs r.2 v' r.1 ∧ Below Bs w0 w'
set_option maxHeartbeats 8000000 in
set_option maxRecDepth 100000 in
theorem flow_Flow_22.go_ (A B : Option Addr) (ca cb na nb : Nat) (a b : List S39) (w0 w : World) (Bs bk bo : Nat) (v : Value) (acc : List S39) (ha : flow_Flow_22.In w0 A na ca a) (hb : flow_Flow_22.In w0 B nb cb b) (hna : na ≤ 700) (hnb : nb ≤ 700)
    (hV : flow_Flow_22.Vars w bk bo Bs true v acc) (hBk : Bs ≤ bk) (hBo : Bs ≤ bo) (hBw : w0.heap.size ≤ Bs) (hB : Below Bs w0 w) (hacc : acc.length = 0) :
    Calls Try.prog 22 #[.slice A na ca, .slice B nb cb, .func (.func 23) #[] #[], .func (.func 24) #[] #[.pointer (some ⟨bk, 0, none⟩), .pointer (some ⟨bo, 0, none⟩)]] w
      (flow_Flow_22.Post w0 bk bo Bs (flow_Flow_22.zip (na + nb) a b acc)) := by
  have HA := Aside0.mk ha
  have HBq := Aside0.mk hb
  have HV := Aside0.mk hV
  have HB := Aside0.mk hB
  obtain ⟨r, hr⟩ : ∃ r, flow_Flow_22.zip (na + nb) a b acc = r := ⟨_, rfl⟩
  rw [hr]
  have HR := Aside0.mk hr
  have HAC := Aside0.mk (show acc.length + na + nb ≤ 1400 by omega)
  clear ha hb hV hB hr hacc
  go_enter Try.func22, Try.ntmps22
  go_wp2
  go_loopw [0, 1] (fun va vb wr => ∃ (a b acc : List S39) (A B : Option Addr) (na nb ca cb : Nat) (v : Value), va = .slice A na ca ∧ vb = .slice B nb cb ∧ na ≤ 700 ∧ nb ≤ 700 ∧ Aside0 (acc.length + na + nb ≤ 1400) ∧ Aside0 (flow_Flow_22.In w0 A na ca a) ∧ Aside0 (flow_Flow_22.In w0 B nb cb b) ∧ Aside0 (flow_Flow_22.Vars wr bk bo Bs true v acc) ∧ Aside0 (Below Bs w0 wr) ∧ Aside0 (flow_Flow_22.zip (na + nb) a b acc = r)) (fun va vb _ => flow_Flow_22.lenOf va + flow_Flow_22.lenOf vb)
  case atStart => exact ⟨a, b, acc, A, B, na, nb, ca, cb, v, rfl, rfl, hna, hnb, HAC, HA, HBq, HV, HB, HR⟩
  case round =>
    clear HA HBq HV HB HR HAC hna hnb
    obtain ⟨a, b, acc, A, B, na, nb, ca, cb, v, rfl, rfl, hna, hnb, HAC, HA, HBq, HV, HB, HR⟩ := hrel
    cases a with
    | nil =>
      obtain rfl : 0 = na := HA.out.hn
      cases b with
      | nil =>
        obtain rfl : 0 = nb := HBq.out.hn
        have hr := HR.out
        simp only [Nat.add_zero, flow_Flow_22.zip] at hr
        subst hr
        go_wp2
        go_end0
        exact ⟨rfl, v, HV.out, HB.out⟩
      | cons y b' =>
        obtain ⟨bd, B', m, rfl, rfl, hy0, hy1, hyb, hsl, hIn, hc1, hya⟩ := HBq.out.cons (by omega)
        have HB0 := Aside0.mk (HB.out.mono hBw)
        have hsz : w0.heap.size ≤ wr.heap.size := HB0.out.size
        have hacc := HAC.out
        have hr := HR.out
        have key : ∀ z, Below wr.heap.size wr z → z.cell? bd = some (.int .i64 y.f0) ∧ z.cell? ⟨bd.block, bd.off + 1, none⟩ = some (.int .i64 y.f1) := fun z hy => ⟨((below_step HB0.out hy).cell hyb).trans hy0, ((below_step HB0.out hy).cell (p := ⟨bd.block, bd.off + 1, none⟩) hyb).trans hy1⟩
        simp only [Nat.add_zero, Nat.zero_add, flow_Flow_22.zip, flow_Flow_22.nxt, Int.add_zero, Int.zero_add] at hr
        rw [flow_Flow_22.zip_more _ _ _ _ (0 + m) (by have := hIn.hn; simp; omega) (by have := hIn.hn; simp; omega)] at hr
        have HRR := Aside0.mk hr
        clear hr HR HAC
        cases hm : flow_Flow_22.may (y.f1)
        all_goals
          have HRR2 := HRR.out
          simp only [hm, if_true, if_false, Bool.false_eq_true] at HRR2
          have HRR3 := Aside0.mk HRR2
          clear HRR HRR2
          have bm : ((m : Int) + 1 == 0) = false := by rw [beq_eq_false_iff_ne]; omega
          go_wp2
          go_region
          go_wp2_with fail
          go_region
          go_wp2_with fail
          go_region_held3 (fun z => z.cell? bd = some (.int .i64 y.f0) ∧ z.cell? ⟨bd.block, bd.off + 1, none⟩ = some (.int .i64 y.f1))
            (exact key _ (by repeat (first | exact Below.refl _ _ | exact R8.out.b | exact R7.out.b | exact R6.out.b | exact R5.out.b | exact R4.out.b | exact R3.out.b | apply below_alloc | apply pw_below_drewN | apply below_drew1 | refine below_set ?_ (by first | omega | (simp; omega)))))
            (first | (go_at_call 23; (with_reducible refine (flow_day.calls y.f0 y.f1 y.f0 _ rfl).mono ?_); rintro e w3 ⟨rfl, hb⟩; have R3 := Aside0.mk (flow_Flow_22.Rd.call (by repeat (first | exact R8.out | exact R7.out | exact R6.out | exact R5.out | exact R4.out | exact R3.out | exact flow_Flow_22.Rd.start _ | apply flow_Flow_22.Rd.drewN | apply flow_Flow_22.Rd.drew)) hb); obtain ⟨hc0_3, hc1_3, hf0_3, hf1_3, hc2_3, hc3_3, hf2_3, hf3_3⟩ := R3.out.cells; clear hb))
          go_wp2_with fail
          have HB5 : Aside0 (Below wr.heap.size wr ((w3.setCell ⟨wr.heap.size + 1, 0, none⟩ (.int .i64 y.f0)).setCell ⟨wr.heap.size + 1, 1, none⟩ (.int .i64 y.f1))) := ⟨below_set (below_set (R3.out.b) (by omega)) (by omega)⟩
          with_reducible refine (flow_Flow_22.cl2 (k := y.f0) (n := y.f1) (B := Bs) (w0 := w0) (m := _) (Int.zero_add _) hm (by omega) hya (HV.out.below HB5.out) hBk hBo hBw (HB.out.trans (HB5.out.mono (by have := HB.out.size; have := blk_lt HV.out.hk; omega))) (by omega)).mono ?_
          rintro e w9 ⟨rfl, hq⟩
          obtain ⟨v', hV9, hB9⟩ := hq
          have HV9 := Aside0.mk hV9
          have HB9 := Aside0.mk hB9
          clear hV9 hB9
        · go_wp2
          go_end0
          have := HRR3.out
          subst this
          exact ⟨rfl, v', HV9.out, HB9.out⟩
        · go_wp2
          go_roundw
          case rel => exact ⟨_, _, _, _, _, _, _, _, _, v', rfl, rfl, by omega, by omega, ⟨Nat.le_trans (Nat.add_le_add_right (Nat.add_le_add_right (flow_Flow_22.put_len _ _ _) _) _) (by omega)⟩, ⟨HA.out⟩, ⟨hIn⟩, HV9, HB9, HRR3⟩
          case measure => simp [flow_Flow_22.lenOf]; try omega
    | cons x a' =>
      obtain ⟨ad, A', m, rfl, rfl, hx0, hx1, hxb, hsl, hIn, hc1, hxa⟩ := HA.out.cons (by omega)
      cases b with
      | nil =>
        obtain rfl : 0 = nb := HBq.out.hn
        have HB0 := Aside0.mk (HB.out.mono hBw)
        have hsz : w0.heap.size ≤ wr.heap.size := HB0.out.size
        have hacc := HAC.out
        have hr := HR.out
        have key : ∀ z, Below wr.heap.size wr z → z.cell? ad = some (.int .i64 x.f0) ∧ z.cell? ⟨ad.block, ad.off + 1, none⟩ = some (.int .i64 x.f1) := fun z hy => ⟨((below_step HB0.out hy).cell hxb).trans hx0, ((below_step HB0.out hy).cell (p := ⟨ad.block, ad.off + 1, none⟩) hxb).trans hx1⟩
        simp only [Nat.add_zero, Nat.zero_add, flow_Flow_22.zip, flow_Flow_22.nxt, Int.add_zero, Int.zero_add] at hr
        rw [flow_Flow_22.zip_more _ _ _ _ (m + 0) (by have := hIn.hn; simp; omega) (by have := hIn.hn; simp; omega)] at hr
        have HRR := Aside0.mk hr
        clear hr HR HAC
        cases hm : flow_Flow_22.may (x.f1)
        all_goals
          have HRR2 := HRR.out
          simp only [hm, if_true, if_false, Bool.false_eq_true] at HRR2
          have HRR3 := Aside0.mk HRR2
          clear HRR HRR2
          have bm : ((m : Int) + 1 == 0) = false := by rw [beq_eq_false_iff_ne]; omega
          go_wp2
          go_region
          go_wp2_with fail
          go_region_held3 (fun z => z.cell? ad = some (.int .i64 x.f0) ∧ z.cell? ⟨ad.block, ad.off + 1, none⟩ = some (.int .i64 x.f1))
            (exact key _ (by repeat (first | exact Below.refl _ _ | exact R8.out.b | exact R7.out.b | exact R6.out.b | exact R5.out.b | exact R4.out.b | exact R3.out.b | apply below_alloc | apply pw_below_drewN | apply below_drew1 | refine below_set ?_ (by first | omega | (simp; omega)))))
            (first | (go_at_call 23; (with_reducible refine (flow_day.calls x.f0 x.f1 x.f0 _ rfl).mono ?_); rintro e w3 ⟨rfl, hb⟩; have R3 := Aside0.mk (flow_Flow_22.Rd.call (by repeat (first | exact R8.out | exact R7.out | exact R6.out | exact R5.out | exact R4.out | exact R3.out | exact flow_Flow_22.Rd.start _ | apply flow_Flow_22.Rd.drewN | apply flow_Flow_22.Rd.drew)) hb); obtain ⟨hc0_3, hc1_3, hf0_3, hf1_3, hc2_3, hc3_3, hf2_3, hf3_3⟩ := R3.out.cells; clear hb))
          go_wp2_with fail
          have HB5 : Aside0 (Below wr.heap.size wr ((w3.setCell ⟨wr.heap.size, 0, none⟩ (.int .i64 x.f0)).setCell ⟨wr.heap.size, 1, none⟩ (.int .i64 x.f1))) := ⟨below_set (below_set (R3.out.b) (by omega)) (by omega)⟩
          with_reducible refine (flow_Flow_22.cl2 (k := x.f0) (n := x.f1) (B := Bs) (w0 := w0) (m := _) (Int.add_zero _) hm hxa (by omega) (HV.out.below HB5.out) hBk hBo hBw (HB.out.trans (HB5.out.mono (by have := HB.out.size; have := blk_lt HV.out.hk; omega))) (by omega)).mono ?_
          rintro e w9 ⟨rfl, hq⟩
          obtain ⟨v', hV9, hB9⟩ := hq
          have HV9 := Aside0.mk hV9
          have HB9 := Aside0.mk hB9
          clear hV9 hB9
        · go_wp2
          go_end0
          have := HRR3.out
          subst this
          exact ⟨rfl, v', HV9.out, HB9.out⟩
        · go_wp2
          go_roundw
          case rel => exact ⟨_, _, _, _, _, _, _, _, _, v', rfl, rfl, by omega, by omega, ⟨Nat.le_trans (Nat.add_le_add_right (Nat.add_le_add_right (flow_Flow_22.put_len _ _ _) _) _) (by omega)⟩, ⟨hIn⟩, ⟨HBq.out⟩, HV9, HB9, HRR3⟩
          case measure => simp [flow_Flow_22.lenOf]; try omega
      | cons y b' =>
        obtain ⟨bd, B', m2, rfl, rfl, hy0, hy1, hyb, hsl2, hIn2, hc2, hya⟩ := HBq.out.cons (by omega)
        by_cases c1 : x.f0 < y.f0
        · have cb1 : decide (x.f0 < y.f0) = true := by simpa using c1
          have HB0 := Aside0.mk (HB.out.mono hBw)
          have hsz : w0.heap.size ≤ wr.heap.size := HB0.out.size
          have hacc := HAC.out
          have hr := HR.out
          have key : ∀ z, Below wr.heap.size wr z → z.cell? ad = some (.int .i64 x.f0) ∧ z.cell? ⟨ad.block, ad.off + 1, none⟩ = some (.int .i64 x.f1) ∧ z.cell? bd = some (.int .i64 y.f0) ∧ z.cell? ⟨bd.block, bd.off + 1, none⟩ = some (.int .i64 y.f1) := fun z hy => ⟨((below_step HB0.out hy).cell hxb).trans hx0, ((below_step HB0.out hy).cell (p := ⟨ad.block, ad.off + 1, none⟩) hxb).trans hx1 , ((below_step HB0.out hy).cell hyb).trans hy0, ((below_step HB0.out hy).cell (p := ⟨bd.block, bd.off + 1, none⟩) hyb).trans hy1⟩
          simp only [Nat.add_zero, Nat.zero_add, flow_Flow_22.zip, flow_Flow_22.nxt, Int.add_zero, Int.zero_add, if_pos c1] at hr
          rw [flow_Flow_22.zip_more _ _ _ _ (m + (m2 + 1)) (by have := hIn.hn; have := hIn2.hn; simp; omega) (by have := hIn.hn; have := hIn2.hn; simp; omega)] at hr
          have HRR := Aside0.mk hr
          clear hr HR HAC
          cases hm : flow_Flow_22.may (x.f1)
          all_goals
            have HRR2 := HRR.out
            simp only [hm, if_true, if_false, Bool.false_eq_true] at HRR2
            have HRR3 := Aside0.mk HRR2
            clear HRR HRR2
            have bm : ((m : Int) + 1 == 0) = false := by rw [beq_eq_false_iff_ne]; omega
            have bm2 : ((m2 : Int) + 1 == 0) = false := by rw [beq_eq_false_iff_ne]; omega
            go_wp2
            go_region_held3 (fun z => z.cell? ad = some (.int .i64 x.f0) ∧ z.cell? ⟨ad.block, ad.off + 1, none⟩ = some (.int .i64 x.f1) ∧ z.cell? bd = some (.int .i64 y.f0) ∧ z.cell? ⟨bd.block, bd.off + 1, none⟩ = some (.int .i64 y.f1))
              (exact key _ (by repeat (first | exact Below.refl _ _ | exact R8.out.b | exact R7.out.b | exact R6.out.b | exact R5.out.b | exact R4.out.b | exact R3.out.b | apply below_alloc | apply pw_below_drewN | apply below_drew1 | refine below_set ?_ (by first | omega | (simp; omega)))))
              (first | (go_at_call 23; (with_reducible refine (flow_day.calls x.f0 x.f1 x.f0 _ rfl).mono ?_); rintro e w3 ⟨rfl, hb⟩; have R3 := Aside0.mk (flow_Flow_22.Rd.call (by repeat (first | exact R8.out | exact R7.out | exact R6.out | exact R5.out | exact R4.out | exact R3.out | exact flow_Flow_22.Rd.start _ | apply flow_Flow_22.Rd.drewN | apply flow_Flow_22.Rd.drew)) hb); obtain ⟨hc0_3, hc1_3, hf0_3, hf1_3, hc2_3, hc3_3, hf2_3, hf3_3⟩ := R3.out.cells; clear hb) | (go_at_call 23; (with_reducible refine (flow_day.calls y.f0 y.f1 y.f0 _ rfl).mono ?_); rintro e w4 ⟨rfl, hb⟩; have R4 := Aside0.mk (flow_Flow_22.Rd.call (by repeat (first | exact R8.out | exact R7.out | exact R6.out | exact R5.out | exact R4.out | exact R3.out | exact flow_Flow_22.Rd.start _ | apply flow_Flow_22.Rd.drewN | apply flow_Flow_22.Rd.drew)) hb); obtain ⟨hc0_4, hc1_4, hf0_4, hf1_4, hc2_4, hc3_4, hf2_4, hf3_4⟩ := R4.out.cells; clear hb))
            go_wp2_with fail
            go_region_held3 (fun z => z.cell? ad = some (.int .i64 x.f0) ∧ z.cell? ⟨ad.block, ad.off + 1, none⟩ = some (.int .i64 x.f1) ∧ z.cell? bd = some (.int .i64 y.f0) ∧ z.cell? ⟨bd.block, bd.off + 1, none⟩ = some (.int .i64 y.f1))
              (exact key _ (by repeat (first | exact Below.refl _ _ | exact R8.out.b | exact R7.out.b | exact R6.out.b | exact R5.out.b | exact R4.out.b | exact R3.out.b | apply below_alloc | apply pw_below_drewN | apply below_drew1 | refine below_set ?_ (by first | omega | (simp; omega)))))
              (first | (go_at_call 23; (with_reducible refine (flow_day.calls x.f0 x.f1 x.f0 _ rfl).mono ?_); rintro e w5 ⟨rfl, hb⟩; have R5 := Aside0.mk (flow_Flow_22.Rd.call (by repeat (first | exact R8.out | exact R7.out | exact R6.out | exact R5.out | exact R4.out | exact R3.out | exact flow_Flow_22.Rd.start _ | apply flow_Flow_22.Rd.drewN | apply flow_Flow_22.Rd.drew)) hb); obtain ⟨hc0_5, hc1_5, hf0_5, hf1_5, hc2_5, hc3_5, hf2_5, hf3_5⟩ := R5.out.cells; clear hb))
            go_wp2_with fail
            have HB5 : Aside0 (Below wr.heap.size wr ((w5.setCell ⟨wr.heap.size, 0, none⟩ (.int .i64 x.f0)).setCell ⟨wr.heap.size, 1, none⟩ (.int .i64 x.f1))) := ⟨below_set (below_set (R5.out.b) (by omega)) (by omega)⟩
            with_reducible refine (flow_Flow_22.cl2 (k := x.f0) (n := x.f1) (B := Bs) (w0 := w0) (m := _) (Int.add_zero _) hm hxa (by omega) (HV.out.below HB5.out) hBk hBo hBw (HB.out.trans (HB5.out.mono (by have := HB.out.size; have := blk_lt HV.out.hk; omega))) (by omega)).mono ?_
            rintro e w9 ⟨rfl, hq⟩
            obtain ⟨v', hV9, hB9⟩ := hq
            have HV9 := Aside0.mk hV9
            have HB9 := Aside0.mk hB9
            clear hV9 hB9
          · go_wp2
            go_end0
            have := HRR3.out
            subst this
            exact ⟨rfl, v', HV9.out, HB9.out⟩
          · go_wp2
            go_roundw
            case rel => exact ⟨_, _, _, _, _, _, _, _, _, v', rfl, rfl, by omega, by omega, ⟨Nat.le_trans (Nat.add_le_add_right (Nat.add_le_add_right (flow_Flow_22.put_len _ _ _) _) _) (by omega)⟩, ⟨hIn⟩, ⟨HBq.out⟩, HV9, HB9, HRR3⟩
            case measure => simp [flow_Flow_22.lenOf]; try omega
        · have cb1 : decide (x.f0 < y.f0) = false := by simpa using c1
          by_cases c2 : y.f0 < x.f0
          · have cb2 : decide (y.f0 < x.f0) = true := by simpa using c2
            have HB0 := Aside0.mk (HB.out.mono hBw)
            have hsz : w0.heap.size ≤ wr.heap.size := HB0.out.size
            have hacc := HAC.out
            have hr := HR.out
            have key : ∀ z, Below wr.heap.size wr z → z.cell? ad = some (.int .i64 x.f0) ∧ z.cell? ⟨ad.block, ad.off + 1, none⟩ = some (.int .i64 x.f1) ∧ z.cell? bd = some (.int .i64 y.f0) ∧ z.cell? ⟨bd.block, bd.off + 1, none⟩ = some (.int .i64 y.f1) := fun z hy => ⟨((below_step HB0.out hy).cell hxb).trans hx0, ((below_step HB0.out hy).cell (p := ⟨ad.block, ad.off + 1, none⟩) hxb).trans hx1 , ((below_step HB0.out hy).cell hyb).trans hy0, ((below_step HB0.out hy).cell (p := ⟨bd.block, bd.off + 1, none⟩) hyb).trans hy1⟩
            simp only [Nat.add_zero, Nat.zero_add, flow_Flow_22.zip, flow_Flow_22.nxt, Int.add_zero, Int.zero_add, if_neg c1, if_pos c2] at hr
            rw [flow_Flow_22.zip_more _ _ _ _ ((m + 1) + m2) (by have := hIn.hn; have := hIn2.hn; simp; omega) (by have := hIn.hn; have := hIn2.hn; simp; omega)] at hr
            have HRR := Aside0.mk hr
            clear hr HR HAC
            cases hm : flow_Flow_22.may (y.f1)
            all_goals
              have HRR2 := HRR.out
              simp only [hm, if_true, if_false, Bool.false_eq_true] at HRR2
              have HRR3 := Aside0.mk HRR2
              clear HRR HRR2
              have bm : ((m : Int) + 1 == 0) = false := by rw [beq_eq_false_iff_ne]; omega
              have bm2 : ((m2 : Int) + 1 == 0) = false := by rw [beq_eq_false_iff_ne]; omega
              go_wp2
              go_region_held3 (fun z => z.cell? ad = some (.int .i64 x.f0) ∧ z.cell? ⟨ad.block, ad.off + 1, none⟩ = some (.int .i64 x.f1) ∧ z.cell? bd = some (.int .i64 y.f0) ∧ z.cell? ⟨bd.block, bd.off + 1, none⟩ = some (.int .i64 y.f1))
                (exact key _ (by repeat (first | exact Below.refl _ _ | exact R8.out.b | exact R7.out.b | exact R6.out.b | exact R5.out.b | exact R4.out.b | exact R3.out.b | apply below_alloc | apply pw_below_drewN | apply below_drew1 | refine below_set ?_ (by first | omega | (simp; omega)))))
                (first | (go_at_call 23; (with_reducible refine (flow_day.calls x.f0 x.f1 x.f0 _ rfl).mono ?_); rintro e w3 ⟨rfl, hb⟩; have R3 := Aside0.mk (flow_Flow_22.Rd.call (by repeat (first | exact R8.out | exact R7.out | exact R6.out | exact R5.out | exact R4.out | exact R3.out | exact flow_Flow_22.Rd.start _ | apply flow_Flow_22.Rd.drewN | apply flow_Flow_22.Rd.drew)) hb); obtain ⟨hc0_3, hc1_3, hf0_3, hf1_3, hc2_3, hc3_3, hf2_3, hf3_3⟩ := R3.out.cells; clear hb) | (go_at_call 23; (with_reducible refine (flow_day.calls y.f0 y.f1 y.f0 _ rfl).mono ?_); rintro e w4 ⟨rfl, hb⟩; have R4 := Aside0.mk (flow_Flow_22.Rd.call (by repeat (first | exact R8.out | exact R7.out | exact R6.out | exact R5.out | exact R4.out | exact R3.out | exact flow_Flow_22.Rd.start _ | apply flow_Flow_22.Rd.drewN | apply flow_Flow_22.Rd.drew)) hb); obtain ⟨hc0_4, hc1_4, hf0_4, hf1_4, hc2_4, hc3_4, hf2_4, hf3_4⟩ := R4.out.cells; clear hb))
              go_wp2_with fail
              go_region_held3 (fun z => z.cell? ad = some (.int .i64 x.f0) ∧ z.cell? ⟨ad.block, ad.off + 1, none⟩ = some (.int .i64 x.f1) ∧ z.cell? bd = some (.int .i64 y.f0) ∧ z.cell? ⟨bd.block, bd.off + 1, none⟩ = some (.int .i64 y.f1))
                (exact key _ (by repeat (first | exact Below.refl _ _ | exact R8.out.b | exact R7.out.b | exact R6.out.b | exact R5.out.b | exact R4.out.b | exact R3.out.b | apply below_alloc | apply pw_below_drewN | apply below_drew1 | refine below_set ?_ (by first | omega | (simp; omega)))))
                (first | (go_at_call 23; (with_reducible refine (flow_day.calls y.f0 y.f1 y.f0 _ rfl).mono ?_); rintro e w5 ⟨rfl, hb⟩; have R5 := Aside0.mk (flow_Flow_22.Rd.call (by repeat (first | exact R8.out | exact R7.out | exact R6.out | exact R5.out | exact R4.out | exact R3.out | exact flow_Flow_22.Rd.start _ | apply flow_Flow_22.Rd.drewN | apply flow_Flow_22.Rd.drew)) hb); obtain ⟨hc0_5, hc1_5, hf0_5, hf1_5, hc2_5, hc3_5, hf2_5, hf3_5⟩ := R5.out.cells; clear hb) | (go_at_call 23; (with_reducible refine (flow_day.calls x.f0 x.f1 x.f0 _ rfl).mono ?_); rintro e w6 ⟨rfl, hb⟩; have R6 := Aside0.mk (flow_Flow_22.Rd.call (by repeat (first | exact R8.out | exact R7.out | exact R6.out | exact R5.out | exact R4.out | exact R3.out | exact flow_Flow_22.Rd.start _ | apply flow_Flow_22.Rd.drewN | apply flow_Flow_22.Rd.drew)) hb); obtain ⟨hc0_6, hc1_6, hf0_6, hf1_6, hc2_6, hc3_6, hf2_6, hf3_6⟩ := R6.out.cells; clear hb))
              go_wp2_with fail
              go_region_held3 (fun z => z.cell? ad = some (.int .i64 x.f0) ∧ z.cell? ⟨ad.block, ad.off + 1, none⟩ = some (.int .i64 x.f1) ∧ z.cell? bd = some (.int .i64 y.f0) ∧ z.cell? ⟨bd.block, bd.off + 1, none⟩ = some (.int .i64 y.f1))
                (exact key _ (by repeat (first | exact Below.refl _ _ | exact R8.out.b | exact R7.out.b | exact R6.out.b | exact R5.out.b | exact R4.out.b | exact R3.out.b | apply below_alloc | apply pw_below_drewN | apply below_drew1 | refine below_set ?_ (by first | omega | (simp; omega)))))
                (first | (go_at_call 23; (with_reducible refine (flow_day.calls y.f0 y.f1 y.f0 _ rfl).mono ?_); rintro e w7 ⟨rfl, hb⟩; have R7 := Aside0.mk (flow_Flow_22.Rd.call (by repeat (first | exact R8.out | exact R7.out | exact R6.out | exact R5.out | exact R4.out | exact R3.out | exact flow_Flow_22.Rd.start _ | apply flow_Flow_22.Rd.drewN | apply flow_Flow_22.Rd.drew)) hb); obtain ⟨hc0_7, hc1_7, hf0_7, hf1_7, hc2_7, hc3_7, hf2_7, hf3_7⟩ := R7.out.cells; clear hb))
              go_wp2_with fail
              have HB5 : Aside0 (Below wr.heap.size wr ((w7.setCell ⟨wr.heap.size + 1, 0, none⟩ (.int .i64 y.f0)).setCell ⟨wr.heap.size + 1, 1, none⟩ (.int .i64 y.f1))) := ⟨below_set (below_set (R7.out.b) (by omega)) (by omega)⟩
              with_reducible refine (flow_Flow_22.cl2 (k := y.f0) (n := y.f1) (B := Bs) (w0 := w0) (m := _) (Int.zero_add _) hm (by omega) hya (HV.out.below HB5.out) hBk hBo hBw (HB.out.trans (HB5.out.mono (by have := HB.out.size; have := blk_lt HV.out.hk; omega))) (by omega)).mono ?_
              rintro e w9 ⟨rfl, hq⟩
              obtain ⟨v', hV9, hB9⟩ := hq
              have HV9 := Aside0.mk hV9
              have HB9 := Aside0.mk hB9
              clear hV9 hB9
            · go_wp2
              go_end0
              have := HRR3.out
              subst this
              exact ⟨rfl, v', HV9.out, HB9.out⟩
            · go_wp2
              go_roundw
              case rel => exact ⟨_, _, _, _, _, _, _, _, _, v', rfl, rfl, by omega, by omega, ⟨Nat.le_trans (Nat.add_le_add_right (Nat.add_le_add_right (flow_Flow_22.put_len _ _ _) _) _) (by omega)⟩, ⟨HA.out⟩, ⟨hIn2⟩, HV9, HB9, HRR3⟩
              case measure => simp [flow_Flow_22.lenOf]; try omega
          · have cb2 : decide (y.f0 < x.f0) = false := by simpa using c2
            have HB0 := Aside0.mk (HB.out.mono hBw)
            have hsz : w0.heap.size ≤ wr.heap.size := HB0.out.size
            have hacc := HAC.out
            have hr := HR.out
            have key : ∀ z, Below wr.heap.size wr z → z.cell? ad = some (.int .i64 x.f0) ∧ z.cell? ⟨ad.block, ad.off + 1, none⟩ = some (.int .i64 x.f1) ∧ z.cell? bd = some (.int .i64 y.f0) ∧ z.cell? ⟨bd.block, bd.off + 1, none⟩ = some (.int .i64 y.f1) := fun z hy => ⟨((below_step HB0.out hy).cell hxb).trans hx0, ((below_step HB0.out hy).cell (p := ⟨ad.block, ad.off + 1, none⟩) hxb).trans hx1 , ((below_step HB0.out hy).cell hyb).trans hy0, ((below_step HB0.out hy).cell (p := ⟨bd.block, bd.off + 1, none⟩) hyb).trans hy1⟩
            simp only [Nat.add_zero, Nat.zero_add, flow_Flow_22.zip, flow_Flow_22.nxt, Int.add_zero, Int.zero_add, if_neg c1, if_neg c2] at hr
            rw [flow_Flow_22.zip_more _ _ _ _ (m + m2) (by have := hIn.hn; have := hIn2.hn; simp; omega) (by have := hIn.hn; have := hIn2.hn; simp; omega)] at hr
            have HRR := Aside0.mk hr
            clear hr HR HAC
            cases hm : flow_Flow_22.may (x.f1 + y.f1)
            all_goals
              have HRR2 := HRR.out
              simp only [hm, if_true, if_false, Bool.false_eq_true] at HRR2
              have HRR3 := Aside0.mk HRR2
              clear HRR HRR2
              have bm : ((m : Int) + 1 == 0) = false := by rw [beq_eq_false_iff_ne]; omega
              have bm2 : ((m2 : Int) + 1 == 0) = false := by rw [beq_eq_false_iff_ne]; omega
              go_wp2
              go_region_held3 (fun z => z.cell? ad = some (.int .i64 x.f0) ∧ z.cell? ⟨ad.block, ad.off + 1, none⟩ = some (.int .i64 x.f1) ∧ z.cell? bd = some (.int .i64 y.f0) ∧ z.cell? ⟨bd.block, bd.off + 1, none⟩ = some (.int .i64 y.f1))
                (exact key _ (by repeat (first | exact Below.refl _ _ | exact R8.out.b | exact R7.out.b | exact R6.out.b | exact R5.out.b | exact R4.out.b | exact R3.out.b | apply below_alloc | apply pw_below_drewN | apply below_drew1 | refine below_set ?_ (by first | omega | (simp; omega)))))
                (first | (go_at_call 23; (with_reducible refine (flow_day.calls x.f0 x.f1 x.f0 _ rfl).mono ?_); rintro e w3 ⟨rfl, hb⟩; have R3 := Aside0.mk (flow_Flow_22.Rd.call (by repeat (first | exact R8.out | exact R7.out | exact R6.out | exact R5.out | exact R4.out | exact R3.out | exact flow_Flow_22.Rd.start _ | apply flow_Flow_22.Rd.drewN | apply flow_Flow_22.Rd.drew)) hb); obtain ⟨hc0_3, hc1_3, hf0_3, hf1_3, hc2_3, hc3_3, hf2_3, hf3_3⟩ := R3.out.cells; clear hb) | (go_at_call 23; (with_reducible refine (flow_day.calls y.f0 y.f1 y.f0 _ rfl).mono ?_); rintro e w4 ⟨rfl, hb⟩; have R4 := Aside0.mk (flow_Flow_22.Rd.call (by repeat (first | exact R8.out | exact R7.out | exact R6.out | exact R5.out | exact R4.out | exact R3.out | exact flow_Flow_22.Rd.start _ | apply flow_Flow_22.Rd.drewN | apply flow_Flow_22.Rd.drew)) hb); obtain ⟨hc0_4, hc1_4, hf0_4, hf1_4, hc2_4, hc3_4, hf2_4, hf3_4⟩ := R4.out.cells; clear hb))
              go_wp2_with fail
              go_region_held3 (fun z => z.cell? ad = some (.int .i64 x.f0) ∧ z.cell? ⟨ad.block, ad.off + 1, none⟩ = some (.int .i64 x.f1) ∧ z.cell? bd = some (.int .i64 y.f0) ∧ z.cell? ⟨bd.block, bd.off + 1, none⟩ = some (.int .i64 y.f1))
                (exact key _ (by repeat (first | exact Below.refl _ _ | exact R8.out.b | exact R7.out.b | exact R6.out.b | exact R5.out.b | exact R4.out.b | exact R3.out.b | apply below_alloc | apply pw_below_drewN | apply below_drew1 | refine below_set ?_ (by first | omega | (simp; omega)))))
                (first | (go_at_call 23; (with_reducible refine (flow_day.calls y.f0 y.f1 y.f0 _ rfl).mono ?_); rintro e w5 ⟨rfl, hb⟩; have R5 := Aside0.mk (flow_Flow_22.Rd.call (by repeat (first | exact R8.out | exact R7.out | exact R6.out | exact R5.out | exact R4.out | exact R3.out | exact flow_Flow_22.Rd.start _ | apply flow_Flow_22.Rd.drewN | apply flow_Flow_22.Rd.drew)) hb); obtain ⟨hc0_5, hc1_5, hf0_5, hf1_5, hc2_5, hc3_5, hf2_5, hf3_5⟩ := R5.out.cells; clear hb) | (go_at_call 23; (with_reducible refine (flow_day.calls x.f0 x.f1 x.f0 _ rfl).mono ?_); rintro e w6 ⟨rfl, hb⟩; have R6 := Aside0.mk (flow_Flow_22.Rd.call (by repeat (first | exact R8.out | exact R7.out | exact R6.out | exact R5.out | exact R4.out | exact R3.out | exact flow_Flow_22.Rd.start _ | apply flow_Flow_22.Rd.drewN | apply flow_Flow_22.Rd.drew)) hb); obtain ⟨hc0_6, hc1_6, hf0_6, hf1_6, hc2_6, hc3_6, hf2_6, hf3_6⟩ := R6.out.cells; clear hb))
              go_wp2_with fail
              go_region_held3 (fun z => z.cell? ad = some (.int .i64 x.f0) ∧ z.cell? ⟨ad.block, ad.off + 1, none⟩ = some (.int .i64 x.f1) ∧ z.cell? bd = some (.int .i64 y.f0) ∧ z.cell? ⟨bd.block, bd.off + 1, none⟩ = some (.int .i64 y.f1))
                (exact key _ (by repeat (first | exact Below.refl _ _ | exact R8.out.b | exact R7.out.b | exact R6.out.b | exact R5.out.b | exact R4.out.b | exact R3.out.b | apply below_alloc | apply pw_below_drewN | apply below_drew1 | refine below_set ?_ (by first | omega | (simp; omega)))))
                (first | (go_at_call 23; (with_reducible refine (flow_day.calls x.f0 x.f1 x.f0 _ rfl).mono ?_); rintro e w7 ⟨rfl, hb⟩; have R7 := Aside0.mk (flow_Flow_22.Rd.call (by repeat (first | exact R8.out | exact R7.out | exact R6.out | exact R5.out | exact R4.out | exact R3.out | exact flow_Flow_22.Rd.start _ | apply flow_Flow_22.Rd.drewN | apply flow_Flow_22.Rd.drew)) hb); obtain ⟨hc0_7, hc1_7, hf0_7, hf1_7, hc2_7, hc3_7, hf2_7, hf3_7⟩ := R7.out.cells; clear hb))
              go_wp2_with fail
              have HB5 : Aside0 (Below wr.heap.size wr ((((w7.setCell ⟨wr.heap.size, 0, none⟩ (.int .i64 x.f0)).setCell ⟨wr.heap.size, 1, none⟩ (.int .i64 x.f1)).setCell ⟨wr.heap.size + 1, 0, none⟩ (.int .i64 y.f0)).setCell ⟨wr.heap.size + 1, 1, none⟩ (.int .i64 y.f1))) := ⟨below_set (below_set (below_set (below_set (R7.out.b) (by omega)) (by omega)) (by omega)) (by omega)⟩
              with_reducible refine (flow_Flow_22.cl2 (k := x.f0) (n := x.f1 + y.f1) (B := Bs) (w0 := w0) (m := _) rfl hm hxa hya (HV.out.below HB5.out) hBk hBo hBw (HB.out.trans (HB5.out.mono (by have := HB.out.size; have := blk_lt HV.out.hk; omega))) (by omega)).mono ?_
              rintro e w9 ⟨rfl, hq⟩
              obtain ⟨v', hV9, hB9⟩ := hq
              have HV9 := Aside0.mk hV9
              have HB9 := Aside0.mk hB9
              clear hV9 hB9
            · go_wp2
              go_end0
              have := HRR3.out
              subst this
              exact ⟨rfl, v', HV9.out, HB9.out⟩
            · go_wp2
              go_roundw
              case rel => exact ⟨_, _, _, _, _, _, _, _, _, v', rfl, rfl, by omega, by omega, ⟨Nat.le_trans (Nat.add_le_add_right (Nat.add_le_add_right (flow_Flow_22.put_len _ _ _) _) _) (by omega)⟩, ⟨hIn⟩, ⟨hIn2⟩, HV9, HB9, HRR3⟩
              case measure => simp [flow_Flow_22.lenOf]; try omega


end Go.Proofs.Ytpolkjmdkeengaa.Print
