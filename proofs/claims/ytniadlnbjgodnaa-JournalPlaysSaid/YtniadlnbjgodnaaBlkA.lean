/- What a store of blocks is, in the world's memory: no condition. -/
import Derived.Test.YtniadlnbjgodnaaProg
import Derived.Below
import Derived.Deep.Draws
import Derived.Deep.AppendLies
import Derived.Maps.AppendAt
import Derived.OwnWalk
import Derived.Laws.BytesArg
import Derived.Laws.MakeOwn
import Derived.Laws.OwnMore
import Derived.Deep.OwnRows
import Derived.Tactics
import Derived.Lib.ConvBytes
import Derived.Laws.Slices
import Derived.WalkKit
import Derived.KernelRfl
import Derived.RowKit3
import Derived.Deep.LoopGhost
import Derived.Deep.QuietTactic
import Derived.BigQuiet
import Derived.WideLaws
import Derived.Deep.DeepCutAuto
import Derived.Deep.CutBlock
import Derived.Deep.RegionHeld3
import Derived.Laws.Rows
import Derived.Lib.AppendStr
import Derived.ArgAppend
import Derived.Laws.IdiomCopy
import Derived.OrdersHeld
import Derived.Laws.BitsLemmas
import Derived.RowKit
import Derived.LoopN
import Derived.Handy
import Derived.Laws.EntriesVeiled
import Derived.MapKept
import Derived.Laws.Externs
import Derived.ChangeKeysEq
import Derived.Deep.WholeRow
import Derived.Test.YtniadlnbjgodnaaWWords
import Derived.Test.YtniadlnbjgodnaaWLast
import Derived.Test.YtniadlnbjgodnaaWTab
import Derived.Test.YtniadlnbjgodnaaWFour
import Derived.Test.YtniadlnbjgodnaaWQPut
import Derived.Test.YtniadlnbjgodnaaWApart
import Derived.Test.YtniadlnbjgodnaaWArr
import Derived.Test.YtniadlnbjgodnaaWZeros
import Derived.Test.YtniadlnbjgodnaaWFoot
import Derived.Test.YtniadlnbjgodnaaWKept
import Derived.Test.YtniadlnbjgodnaaWShare
import Derived.Test.YtniadlnbjgodnaaWN
import Derived.Test.YtniadlnbjgodnaaWFootNe
import Derived.Test.YtniadlnbjgodnaaWAt
import Derived.Test.YtniadlnbjgodnaaWEqStruct
import Derived.Test.YtniadlnbjgodnaaWRepsOne
import Derived.Test.YtniadlnbjgodnaaWInv
import Derived.Test.YtniadlnbjgodnaaWInvWords
import Derived.Test.YtniadlnbjgodnaaWGuard
import Derived.Test.YtniadlnbjgodnaaWNEv
import Derived.Test.YtniadlnbjgodnaaWMore
namespace Go.Proofs.Ytniadlnbjgodnaa.Print
open Go.RowKit Go.Proofs.YtniadlnbjgodnaaW.PrintWords Go.Proofs.YtniadlnbjgodnaaW.PrintLast Go.Proofs.YtniadlnbjgodnaaW.PrintMore
attribute [local go_sem] max2_int min2_int max_two min_two max_three min_three max_four min_four
set_option linter.unusedVariables false
set_option linter.unusedSimpArgs false
/-! ### maps with whole numbers as keys, told as lists of pairs (by this session) -/
def lk (m : List (Int × Value)) (k : Int) : Option Value := (m.find? (fun p => p.1 == k)).map (·.2)
def upd : List (Int × Value) → Int → Value → List (Int × Value)
  | [], k, v => [(k, v)]
  | (a, b) :: t, k, v => if a = k then (a, v) :: t else (a, b) :: upd t k v
def MapAt (w : World) (g : Nat) (m : List (Int × Value)) : Prop :=
  ∃ es clock, w.heap[g]? = some (.map es clock) ∧ es.toList.map (fun e => (e.key, e.val)) = m.map (fun p => (Value.int .i64 p.1, p.2))
theorem MapAt.keys {w : World} {es : Array MapEntry} {m : List (Int × Value)} (h : es.toList.map (fun e => (e.key, e.val)) = m.map (fun p => (Value.int .i64 p.1, p.2))) :
    ∀ x ∈ es.toList, MapKept.IsKey (.int .i64) x.key := by
  intro x hx
  have : (x.key, x.val) ∈ es.toList.map (fun e => (e.key, e.val)) := List.mem_map_of_mem hx
  rw [h, List.mem_map] at this
  obtain ⟨p, _, e⟩ := this
  have := (Prod.mk.inj e).1
  rw [← this]
  rfl
theorem MapAt.find {m : List (Int × Value)} (k : Int) : ∀ (es : List MapEntry) (i : Nat), es.map (fun e => (e.key, e.val)) = m.map (fun p => (Value.int .i64 p.1, p.2)) →
    (lk m k = none → Instr.findNow (.int .i64) (.int .i64 k) es i = some none) ∧ (∀ v, lk m k = some v → ∃ j e, Instr.findNow (.int .i64) (.int .i64 k) es i = some (some (i + j, v)) ∧ es[j]? = some e ∧ e.key = .int .i64 k ∧
      ∀ u, (es.modify j (fun e => { e with key := .int .i64 k, val := u })).map (fun e => (e.key, e.val)) = (upd m k u).map (fun p => (Value.int .i64 p.1, p.2))) := by
  induction m with
  | nil =>
    intro es i h
    obtain rfl : es = [] := by simpa using h
    exact ⟨fun _ => rfl, fun v hv => by simp [lk] at hv⟩
  | cons p t ih =>
    intro es i h
    obtain ⟨a, b⟩ := p
    cases es with
    | nil => simp at h
    | cons e es =>
      simp only [List.map_cons, List.cons.injEq, Prod.mk.injEq] at h
      obtain ⟨⟨hk, hv⟩, ht⟩ := h
      have ih' := ih es (i + 1) ht
      by_cases c : a = k
      · subst c
        have hl : lk ((a, b) :: t) a = some b := by simp [lk]
        refine ⟨fun hn => (by rw [hl] at hn; cases hn), fun v hv' => ?_⟩
        rw [hl] at hv'
        obtain rfl := Option.some.inj hv'
        refine ⟨0, e, by simp [Instr.findNow, Instr.sameNow, hk, hv], rfl, hk, fun u => ?_⟩
        simp [upd, ht]
      · have hl : lk ((a, b) :: t) k = lk t k := by simp [lk, c]
        have hs : Instr.sameNow (.int .i64) (.int .i64 k) e.key = some false := by
          rw [hk]; simp [Instr.sameNow]; exact fun z => c z.symm
        refine ⟨fun hn => ?_, fun v hv' => ?_⟩
        · rw [hl] at hn
          simp [Instr.findNow, hs, ih'.1 hn]
        · rw [hl] at hv'
          obtain ⟨j, e', h1, h2, h3, h4⟩ := ih'.2 v hv'
          refine ⟨j + 1, e', by simp [Instr.findNow, hs, h1]; omega, by simpa using h2, h3, fun u => ?_⟩
          have := h4 u
          simp only [upd, if_neg c, List.map_cons, List.modify_succ_cons, List.cons.injEq]
          exact ⟨by rw [hk, hv], this⟩
theorem upd_new {m : List (Int × Value)} {k : Int} (h : lk m k = none) (v : Value) : upd m k v = m ++ [(k, v)] := by
  induction m with
  | nil => rfl
  | cons p t ih =>
    obtain ⟨a, b⟩ := p
    by_cases c : a = k
    · subst c; simp [lk] at h
    · simp [upd, c]; exact ih (by simpa [lk, c] using h)
theorem lk_upd_same (m : List (Int × Value)) (k : Int) (v : Value) : lk (upd m k v) k = some v := by
  induction m with
  | nil => simp [upd, lk]
  | cons p t ih =>
    obtain ⟨a, b⟩ := p
    by_cases c : a = k
    · simp [upd, c, lk]
    · simp only [upd, if_neg c]; simpa [lk, c] using ih
theorem lk_upd_other (m : List (Int × Value)) (k j : Int) (v : Value) (h : j ≠ k) : lk (upd m k v) j = lk m j := by
  induction m with
  | nil => simp [upd, lk]; exact fun z => h z.symm
  | cons p t ih =>
    obtain ⟨a, b⟩ := p
    by_cases c : a = k
    · subst c
      have : (a == j) = false := by simpa using fun z => h z.symm
      simp [upd, lk, this]
    · by_cases e : a = j
      · subst e; simp [upd, c, lk]
      · simp only [upd, if_neg c]; simpa [lk, e] using ih
section
variable {P : Program} {w : World} {g : Nat} {m : List (Int × Value)} {mt kt et : TypeId}
theorem MapAt.lookup_none (hm : P.underlying mt = some (.map kt et)) (hd : P.underlying kt = some (.int .i64)) (h : MapAt w g m) {k : Int} (hk : lk m k = none) {z : Value} (hz : (zeroValue et).run P w = .ok z w) (ok : Bool) :
    (Instr.lookup mt (.map (some g)) (.int .i64 k) ok).run P w = .ok (if ok then .tuple #[z, .bool false] else z) w := by
  obtain ⟨es, c, hb, he⟩ := h
  have h1 := (MapAt.find k es.toList 0 he).1 hk
  simp [Instr.lookup, run_underlying hm, MapKept.run_getObj_map hb, MapKept.run_checkKey hd (k := .int .i64 k) rfl, MapKept.run_findKey hd h1, hz, Result.andThen]
theorem MapAt.lookup_some (hm : P.underlying mt = some (.map kt et)) (hd : P.underlying kt = some (.int .i64)) (h : MapAt w g m) {k : Int} {v : Value} (hk : lk m k = some v) (ok : Bool) :
    (Instr.lookup mt (.map (some g)) (.int .i64 k) ok).run P w = .ok (if ok then .tuple #[v, .bool true] else v) w := by
  obtain ⟨es, c, hb, he⟩ := h
  obtain ⟨j, e, h1, _⟩ := (MapAt.find k es.toList 0 he).2 v hk
  simp [Instr.lookup, run_underlying hm, MapKept.run_getObj_map hb, MapKept.run_checkKey hd (k := .int .i64 k) rfl, MapKept.run_findKey hd h1, Result.andThen]
/-- Only block g's object differs. -/
def World.putMap (w w' : World) (g : Nat) : Prop := ∃ o, w' = { w with heap := w.heap.setIfInBounds g o }
theorem World.putMap.size {w w' : World} {g : Nat} (h : World.putMap w w' g) : w'.heap.size = w.heap.size := by obtain ⟨o, rfl⟩ := h; simp
theorem World.putMap.block {w w' : World} {g : Nat} (h : World.putMap w w' g) (k : Nat) (hk : k ≠ g) : w'.heap[k]? = w.heap[k]? := by obtain ⟨o, rfl⟩ := h; simp [Ne.symm hk]
theorem World.putMap.below {w0 w w' : World} {g B : Nat} (h : World.putMap w w' g) (hB : Below B w0 w) (hg : B ≤ g) : Below B w0 w' := by
  obtain ⟨o, rfl⟩ := h
  exact hB.trans ⟨rfl, rfl, rfl, by simp, fun k hk => by simp [Ne.symm (show k ≠ g by omega)]⟩
theorem World.putMap.cell {w w' : World} {g : Nat} (h : World.putMap w w' g) (a : Addr) (ha : a.block ≠ g) : w'.cell? a = w.cell? a := by
  have := h.block a.block ha
  simp only [World.cell?, this]
theorem World.putMap.frozen {w w' : World} {g : Nat} (h : World.putMap w w' g) (a : Addr) (ha : a.block ≠ g) : w'.frozen? a = w.frozen? a := by
  have := h.block a.block ha
  simp only [World.frozen?, this]
theorem MapAt.update (hm : P.underlying mt = some (.map kt et)) (hd : P.underlying kt = some (.int .i64)) (h : MapAt w g m) (k : Int) (v : Value) :
    ∃ w', (Instr.mapUpdate mt (.map (some g)) (.int .i64 k) v).run P w = .ok () w' ∧ MapAt w' g (upd m k v) ∧ World.putMap w w' g := by
  obtain ⟨es, c, hb, he⟩ := h
  cases hl : lk m k with
  | none =>
    have h1 := (MapAt.find k es.toList 0 he).1 hl
    refine ⟨_, by simp [Instr.mapUpdate, run_underlying hm, MapKept.run_getObj_map hb, MapKept.run_checkKey hd (k := .int .i64 k) rfl, MapKept.run_findKey hd h1, MapKept.run_setObj_map _ hb, Result.andThen]; rfl, ?_, ⟨_, rfl⟩⟩
    refine ⟨_, _, (MapKept.heap_set hb).1, ?_⟩
    rw [upd_new hl]
    simp [he]
  | some v0 =>
    obtain ⟨j, e, h1, h2, h3, h4⟩ := (MapAt.find k es.toList 0 he).2 v0 hl
    have hj : es[j]? = some e := by simpa using h2
    rw [Nat.zero_add] at h1
    refine ⟨_, by simp [Instr.mapUpdate, run_underlying hm, MapKept.run_getObj_map hb, MapKept.run_checkKey hd (k := .int .i64 k) rfl, MapKept.run_findKey hd h1, hj, h3, MapKept.run_keyThatStays (d := .int .i64) (k := .int .i64 k) rfl, MapKept.run_setObj_map _ hb, Result.andThen]; rfl, ?_, ⟨_, rfl⟩⟩
    refine ⟨_, _, (MapKept.heap_set hb).1, ?_⟩
    simpa using h4 v
theorem MapAt.made (w : World) : MapAt (w.alloc (.map #[] 0)) w.heap.size [] := ⟨#[], 0, (MapKept.heap_alloc w _).1, rfl⟩
theorem MapAt.below {w1 : World} (h : MapAt w g m) (hb : Below w.heap.size w w1) : MapAt w1 g m := by
  obtain ⟨es, c, h1, h2⟩ := h
  exact ⟨es, c, (hb.block g (Array.getElem?_eq_some_iff.1 h1).1).trans h1, h2⟩
theorem MapAt.lt (h : MapAt w g m) : g < w.heap.size := by
  obtain ⟨es, c, h1, h2⟩ := h
  exact (Array.getElem?_eq_some_iff.1 h1).1
theorem MapAt.same {w1 : World} (h : MapAt w g m) (hb : w1.heap[g]? = w.heap[g]?) : MapAt w1 g m := by
  obtain ⟨es, c, h1, h2⟩ := h
  exact ⟨es, c, hb.trans h1, h2⟩
end
section
variable {P : Program} {w : World} {ops : Array Oper} {rest : List Oper} {o : Oper} {a : Act} {Q : Exit → Act → World → Prop} {g : Nat} {l : List (Int × Value)}
theorem wpList_insert_map (hg : o.guard = none) (t : TypeId) (m x v : Operand) (hop : o.op = Op.insert t m x v) {k e : TypeId} (ht : P.underlying t = some (.map k e)) (hd : P.underlying k = some (.int .i64)) (key : Int)
    (hm : a.eval m = .map (some g)) (hx : a.eval x = .int .i64 key) (hmap : MapAt w g l) (hK : ∀ w', MapAt w' g (upd l key (a.eval v)) → World.putMap w w' g → wpList P ops Q rest (a.put o.dst undef) w') : wpList P ops Q (o :: rest) a w := by
  refine wpList_plain hg fun K' hK' => ?_
  obtain ⟨w', hrun, r1, r2⟩ := hmap.update ht hd key (a.eval v)
  unfold Oper.wp
  simp [execOp, hop, hm, hx, hrun, Result.andThen]
  exact hK' _ _ (hK w' r1 r2)
theorem wpList_mapUpdate_map (hg : o.guard = none) (t : TypeId) (m x v : Operand) (hop : o.op = Op.mapUpdate t m x v) {k e : TypeId} (ht : P.underlying t = some (.map k e)) (hd : P.underlying k = some (.int .i64)) (key : Int)
    (hm : a.eval m = .map (some g)) (hx : a.eval x = .int .i64 key) (hmap : MapAt w g l) (hK : ∀ w', MapAt w' g (upd l key (a.eval v)) → World.putMap w w' g → wpList P ops Q rest (a.put o.dst undef) w') : wpList P ops Q (o :: rest) a w := by
  refine wpList_plain hg fun K' hK' => ?_
  obtain ⟨w', hrun, r1, r2⟩ := hmap.update ht hd key (a.eval v)
  unfold Oper.wp
  simp [execOp, hop, hm, hx, hrun, Result.andThen]
  exact hK' _ _ (hK w' r1 r2)
theorem wpList_lookup_some (hg : o.guard = none) (t : TypeId) (m x : Operand) (ok : Bool) (hop : o.op = Op.lookup t m x ok) {k e : TypeId} (ht : P.underlying t = some (.map k e)) (hd : P.underlying k = some (.int .i64)) (key : Int)
    (hm : a.eval m = .map (some g)) (hx : a.eval x = .int .i64 key) (hmap : MapAt w g l) {v : Value} (hl : lk l key = some v) (hK : wpList P ops Q rest (a.put o.dst (if ok then .tuple #[v, .bool true] else v)) w) : wpList P ops Q (o :: rest) a w := by
  refine wpList_plain hg fun K' hK' => ?_
  have hrun := hmap.lookup_some ht hd hl ok
  unfold Oper.wp
  simp [execOp, hop, hm, hx, hrun, Result.andThen]
  exact hK' _ _ hK
theorem wpList_lookup_none (hg : o.guard = none) (t : TypeId) (m x : Operand) (ok : Bool) (hop : o.op = Op.lookup t m x ok) {k e : TypeId} (ht : P.underlying t = some (.map k e)) (hd : P.underlying k = some (.int .i64)) (key : Int)
    (hm : a.eval m = .map (some g)) (hx : a.eval x = .int .i64 key) (hmap : MapAt w g l) (hl : lk l key = none) {z : Value} (hz : (zeroValue e).run P w = .ok z w) (hK : wpList P ops Q rest (a.put o.dst (if ok then .tuple #[z, .bool false] else z)) w) : wpList P ops Q (o :: rest) a w := by
  refine wpList_plain hg fun K' hK' => ?_
  have hrun := hmap.lookup_none ht hd hl hz ok
  unfold Oper.wp
  simp [execOp, hop, hm, hx, hrun, Result.andThen]
  exact hK' _ _ hK
end
section
variable {P : Program} {w : World} {ops : Array Oper} {o : Oper} {a : Act} {K : Act → World → Prop} {Q : Exit → Act → World → Prop} {E : Prop} {g : Nat} {l : List (Int × Value)}
theorem step_mapUpdate_map (hgd : o.guard = none) (t : TypeId) (m x v : Operand) (hop : o.op = Op.mapUpdate t m x v) {k e : TypeId} (ht : P.underlying t = some (.map k e)) (hd : P.underlying k = some (.int .i64)) (key : Int)
    (hm : a.eval m = .map (some g)) (hx : a.eval x = .int .i64 key) (hmap : MapAt w g l) (hK : ∀ w', MapAt w' g (upd l key (a.eval v)) → World.putMap w w' g → K (a.put o.dst undef) w') :
    if Region.wanted o (yielded ops a.tmps) = true then Oper.wp P o a w K Q else E := by
  have hw : Region.wanted o (yielded ops a.tmps) = true := by simp [Region.wanted, hgd]
  rw [if_pos hw]
  obtain ⟨w', hrun, r1, r2⟩ := hmap.update ht hd key (a.eval v)
  unfold Oper.wp
  simp [execOp, hop, hm, hx, hrun, Result.andThen]
  exact hK w' r1 r2
end
/-- A map of rows of whole numbers, each row the call's own; no two rows lie in one block. -/
structure Grp (w : World) (base e g : Nat) (val : Int → Value) (xs : Int → List Int) : Prop where
  map : ∃ m, MapAt w g m ∧ ∀ a, (lk m a).getD (.slice none 0 0) = val a
  own : ∀ a, w.ownsRow base e 1 (val a) (xs a).length ((xs a).map (Value.int .i64))
  far : ∀ a b, a ≠ b → ∀ k, (val a).ownBlock = some k → (val b).ownBlock ≠ some k
theorem Grp.made (w : World) (e : Nat) : Grp (w.alloc (.map #[] 0)) (w.heap.size + 1) e w.heap.size (fun _ => .slice none 0 0) (fun _ => []) :=
  ⟨⟨[], MapAt.made w, fun _ => rfl⟩, fun _ => World.ownsRow_nil _ _ _ _, fun _ _ _ k h => by simp [Value.ownBlock] at h⟩
theorem Grp.below {w w1 : World} {base e g : Nat} {val : Int → Value} {xs : Int → List Int} (h : Grp w base e g val xs) (hb : Below w.heap.size w w1) : Grp w1 base e g val xs := by
  obtain ⟨⟨m, h1, h2⟩, h3, h4⟩ := h
  exact ⟨⟨m, h1.below hb, h2⟩, fun a => own_move (h3 a) (fun k hk => hb.block k (own_lt (h3 a) k hk)), h4⟩
def fset {α : Type} (f : Int → α) (a : Int) (x : α) : Int → α := fun b => if b = a then x else f b
/-- Below H the heap is as it was, but for one block. -/
def Near (W : World) (b : Option Nat) (x : World) : Prop := W.heap.size ≤ x.heap.size ∧ ∀ k, k < W.heap.size → some k ≠ b → x.heap[k]? = W.heap[k]?
theorem Near.refl (W : World) (b : Option Nat) : Near W b W := ⟨Nat.le_refl _, fun _ _ _ => rfl⟩
theorem Near.drew {W : World} {b : Option Nat} {x : World} (h : Near W b x) : Near W b x.drew := h
theorem Near.drewN {W : World} {b : Option Nat} {x : World} (h : Near W b x) (n : Nat) : Near W b (x.drewN n) := h
theorem Near.alloc {W : World} {b : Option Nat} {x : World} (h : Near W b x) (o : Obj) : Near W b (x.alloc o) :=
  ⟨by have := h.1; simp; omega, fun k hk hb => (Below.heap_alloc x o k (by have := h.1; omega)).trans (h.2 k hk hb)⟩
theorem Near.grown {W : World} {b : Option Nat} {x y : World} (h : Near W b x) (hg : x.grownBy y b) : Near W b y :=
  ⟨Nat.le_trans h.1 hg.size, fun k hk hb => (hg.block k (by have := h.1; omega) hb).trans (h.2 k hk hb)⟩
theorem Grp.put {w w1 w2 : World} {base e g cap gg : Nat} {a n : Int} {val : Int → Value} {xs : Int → List Int} (h : Grp w base e g val xs) (hgb : g < base) {u : Value} (hu : u = .slice (some ⟨gg, 0, none⟩) ((xs a).length + 1) cap)
    (hown : w1.ownsRow base e 1 u ((xs a).length + 1) ((xs a).map (Value.int .i64) ++ [.int .i64 n])) (hgrow : Near w (val a).ownBlock w1) (hat : (val a).ownBlock = some gg ∨ w.heap.size ≤ gg)
    {m : List (Int × Value)} (hm : MapAt w2 g (upd m a u)) (hput : World.putMap w1 w2 g) (hmv : ∀ b, (lk m b).getD (.slice none 0 0) = val b) :
    Grp w2 base e g (fset val a u) (fset xs a (xs a ++ [n])) := by
  have hub : u.ownBlock = some gg := by rw [hu]; rfl
  refine ⟨⟨_, hm, fun b => ?_⟩, fun b => ?_, fun b c hbc k hk => ?_⟩
  · unfold fset
    by_cases c : b = a
    · subst c; rw [lk_upd_same, if_pos rfl]; rfl
    · rw [lk_upd_other _ _ _ _ c, if_neg c]; exact hmv b
  · unfold fset
    by_cases c : b = a
    · subst c
      rw [if_pos rfl, if_pos rfl]
      have : (xs b ++ [n]).length = (xs b).length + 1 := by simp
      rw [this, List.map_append]
      exact own_move hown (fun k hk => hput.block k (fun e => by
        have := own_base hown k hk
        omega))
    · rw [if_neg c, if_neg c]
      have hb := h.own b
      have h1 : w1.ownsRow base e 1 (val b) (xs b).length ((xs b).map (Value.int .i64)) := own_move hb (fun k hk => hgrow.2 k (own_lt hb k hk) (fun e => h.far b a c k hk e.symm))
      exact own_move h1 (fun k hk => hput.block k (fun e => by
        have := own_base h1 k hk
        omega))
  · unfold fset at hk ⊢
    by_cases cb : b = a
    · rw [if_pos cb, hub] at hk
      obtain rfl := Option.some.inj hk
      have cc : c ≠ a := fun e => hbc (cb.trans e.symm)
      rw [if_neg cc]
      intro hc
      rcases hat with hat | hat
      · exact h.far a c (Ne.symm cc) gg hat hc
      · have := own_lt (h.own c) gg hc
        omega
    · rw [if_neg cb] at hk
      by_cases cc : c = a
      · rw [if_pos cc, hub]
        intro e
        obtain rfl := Option.some.inj e
        rcases hat with hat | hat
        · exact h.far b a cb gg hk hat
        · have := own_lt (h.own b) gg hk
          omega
      · rw [if_neg cc]
        exact h.far b c hbc k hk
theorem Grp.look {P : Program} {w : World} {base e g : Nat} {val : Int → Value} {xs : Int → List Int} {mt kt et : TypeId} (h : Grp w base e g val xs) (hm : P.underlying mt = some (.map kt et)) (hd : P.underlying kt = some (.int .i64)) (hz : (zeroValue et).run P w = .ok (.slice none 0 0) w) (a : Int) :
    (Instr.lookup mt (.map (some g)) (.int .i64 a) false).run P w = .ok (val a) w := by
  obtain ⟨⟨m, hm1, hv⟩, _, _⟩ := h
  have := hv a
  cases hl : lk m a with
  | none => rw [hl] at this; rw [← this]; exact hm1.lookup_none hm hd hl hz false
  | some v => rw [hl] at this; rw [← this]; exact hm1.lookup_some hm hd hl false
theorem Grp.near {w x : World} {base e g : Nat} {val : Int → Value} {xs : Int → List Int} (h : Grp w base e g val xs) {m : List (Int × Value)} (hm : MapAt w g m) (hg : g < base) {a : Int} (hn : Near w (val a).ownBlock x) : MapAt x g m :=
  hm.same (hn.2 g hm.lt (fun e => by have := own_base (h.own a) g e.symm; omega))
/-- The world behind a store into a map. -/
def mput (P : Program) (mt : TypeId) (w : World) (g : Nat) (k : Int) (v : Value) : World :=
  match (Instr.mapUpdate mt (.map (some g)) (.int .i64 k) v).run P w with
  | .ok _ x => x
  | _ => w
theorem MapAt.update' {P : Program} {w : World} {g : Nat} {m : List (Int × Value)} {mt kt et : TypeId} (hm : P.underlying mt = some (.map kt et)) (hd : P.underlying kt = some (.int .i64)) (h : MapAt w g m) (k : Int) (v : Value) :
    (Instr.mapUpdate mt (.map (some g)) (.int .i64 k) v).run P w = .ok () (mput P mt w g k v) ∧ MapAt (mput P mt w g k v) g (upd m k v) ∧ World.putMap w (mput P mt w g k v) g := by
  obtain ⟨w', h1, h2, h3⟩ := h.update hm hd k v
  have e : mput P mt w g k v = w' := by
    unfold mput
    rw [h1]
  rw [e]
  exact ⟨h1, h2, h3⟩
/-- What a lookup gives in a world. -/
def lookV (P : Program) (mt : TypeId) (w : World) (g : Nat) (k : Int) : Value :=
  match (Instr.lookup mt (.map (some g)) (.int .i64 k) false).run P w with
  | .ok v _ => v
  | _ => undef
theorem lookV_of {P : Program} {mt : TypeId} {w : World} {g : Nat} {k : Int} {v : Value} (h : (Instr.lookup mt (.map (some g)) (.int .i64 k) false).run P w = .ok v w) :
    (Instr.lookup mt (.map (some g)) (.int .i64 k) false).run P w = .ok (lookV P mt w g k) w ∧ lookV P mt w g k = v := by
  have e : lookV P mt w g k = v := by unfold lookV; rw [h]
  rw [e]; exact ⟨h, rfl⟩
theorem Grp.keyed {P : Program} {w x : World} {base e g : Nat} {val : Int → Value} {xs : Int → List Int} {mt kt et : TypeId} (h : Grp w base e g val xs) {m : List (Int × Value)} (hm : MapAt w g m) (hv : ∀ b, (lk m b).getD (.slice none 0 0) = val b) (hg : g < base)
    (hu : P.underlying mt = some (.map kt et)) (hd : P.underlying kt = some (.int .i64)) (hz : ∀ y, (zeroValue et).run P y = .ok (.slice none 0 0) y) (a : Int) (hn : Near w (val a).ownBlock x) :
    (Instr.lookup mt (.map (some g)) (.int .i64 a) false).run P x = .ok (val a) x := by
  have hm' := h.near hm hg hn
  have := hv a
  cases hl : lk m a with
  | none => rw [hl] at this; rw [← this]; exact hm'.lookup_none hu hd hl (hz _) false
  | some v => rw [hl] at this; rw [← this]; exact hm'.lookup_some hu hd hl false
theorem MapAt.looked {P : Program} {w : World} {g : Nat} {m : List (Int × Value)} {mt kt et : TypeId} (hm : P.underlying mt = some (.map kt et)) (hd : P.underlying kt = some (.int .i64)) (hz : ∀ y, (zeroValue et).run P y = .ok (.slice none 0 0) y) (h : MapAt w g m) (k : Int) :
    (Instr.lookup mt (.map (some g)) (.int .i64 k) false).run P w = .ok (lookV P mt w g k) w := by
  cases hl : lk m k with
  | none => exact (lookV_of (h.lookup_none hm hd hl (hz _) false)).1
  | some v => exact (lookV_of (h.lookup_some hm hd hl false)).1

/-- A row of whole numbers that lies whole in a block can be read (by this session). -/
theorem C_lit64 {w : World} {g e : Nat} {fr : Nat × Nat} {cs : Array Value} (xs : List Int) (hb : w.heap[g]? = some (.cells cs e fr)) (hcs : cs = (xs.map (Value.int .i64)).toArray) (hm : xs.length ≤ 9223372036854775807) : Kd.C (Kd.int .i64) w (some ⟨g, 0, none⟩) xs.length xs := by
  subst hcs
  refine ⟨rfl, hm, fun _ => ⟨⟨g, 0, none⟩, rfl, fun j p hj => ?_⟩⟩
  refine ⟨[.int .i64 p], rfl, rfl, fun i u hi => ?_⟩
  have hi0 : i = 0 := by
    cases i with
    | zero => rfl
    | succ i => simp at hi
  subst hi0
  have hu : u = .int .i64 p := by simpa using hi.symm
  subst hu
  have hj' := (List.getElem?_eq_some_iff.1 hj)
  have hadd : (⟨g, 0, none⟩ : Addr).add (j * (Kd.int .i64).sz + 0) = ⟨g, j, none⟩ := by
    have : (Kd.int .i64).sz = 1 := rfl
    rw [this]; unfold Addr.add; split <;> simp_all
  rw [hadd, cell_of_row w g j _ e fr hb]
  simp [hj]

/-- A store of a whole variable of a block of its own. -/
theorem store_rowTo {P : Program} {ops : Array Oper} {rest : List Oper} {o : Oper} {a : Act} {w : World} {Q : Exit → Act → World → Prop} (hgd : o.guard = none) (ty : TypeId) (x y : Operand) (ho : o.op = .store ty x y)
    (hd : o.dst = none) (g : Nat) (cells : Array Value) (hx : a.eval x = .pointer (some ⟨g, 0, none⟩)) (hy : a.eval y = .agg cells)
    (t : TypeId) (old : Array Value) (hg : w.heap[g]? = some (.cells old t (0, 0))) (hi : (P.info? ty).map (·.size) = some cells.size)
    (hold : old.size = cells.size) (h1 : cells.all (·.oneCell') = true)
    (h : wpList P ops Q rest a (w.setRow g cells)) : wpList P ops Q (o :: rest) a w :=
  wpList_store_row hgd ty x y ho g cells hx hy t old hg hi hold h1 (by rw [hd]; exact h)
theorem row_below {B g : Nat} {w0 w : World} (hb : Below B w0 w) (hBg : B ≤ g) (cs : Array Value) : Below B w0 (w.setRow g cs) :=
  hb.trans ⟨rfl, rfl, rfl, by simp, fun k hk => setRow_other w g k cs (by omega)⟩
/-! ### arrays: equality, a store of the whole (by this session) -/
theorem eqi_cons {P : Program} {d e c j : Nat} {js : List Nat} {xs ys : Array Value} {a b : Value} {r s : Bool} {w : World} (ha : (part e xs (j * c)).run P w = .ok a w) (hb : (part e ys (j * c)).run P w = .ok b w) (he : (Op.equalIn d e a b).run P w = .ok r w) (hr : (Op.eqItems d e c xs ys js).run P w = .ok s w) : (Op.eqItems d e c xs ys (j :: js)).run P w = .ok (r && s) w := by
  simp only [Op.eqItems, Sem.run_bind, ha, hb, he, Result.andThen_ok]
  cases r
  · simp
  · simpa using hr
theorem eqi_last {P : Program} {d e c j : Nat} {xs ys : Array Value} {a b : Value} {r : Bool} {w : World} (ha : (part e xs (j * c)).run P w = .ok a w) (hb : (part e ys (j * c)).run P w = .ok b w) (he : (Op.equalIn d e a b).run P w = .ok r w) : (Op.eqItems d e c xs ys [j]).run P w = .ok r w := by
  have := eqi_cons (c := c) (js := []) (s := true) ha hb he (by simp [Op.eqItems])
  rwa [Bool.and_true] at this
theorem eqA_arr {P : Program} {d t e n c : Nat} {xs ys : Array Value} {r : Bool} {w : World} (hu : P.underlying t = some (.array n e)) (hi : (P.info? e).isSome = true) (hc : P.cellsOf e = c) (h : (Op.eqItems d e c xs ys (List.range n)).run P w = .ok r w) : (Op.equalIn (d + 1) t (.agg xs) (.agg ys)).run P w = .ok r w := by
  obtain ⟨i, hi⟩ := Option.isSome_iff_exists.1 hi
  rw [run_equalIn_array w d xs ys hu hi, hc]; exact h
/-- A store of a whole row, as one step of a region. -/
theorem store_run {P : Program} {o : Oper} {ev : Operand → Value} {w : World} (ty : TypeId) (x y : Operand) (ho : o.op = .store ty x y) (g : Nat) (cells : Array Value) (hx : ev x = .pointer (some ⟨g, 0, none⟩)) (hy : ev y = .agg cells)
    (t : TypeId) (old : Array Value) (hg : w.heap[g]? = some (.cells old t (0, 0))) (hi : (P.info? ty).map (·.size) = some cells.size) (hold : old.size = cells.size) (h1 : cells.all (·.oneCell') = true) :
    (execOp ev o).run P w = .ok .skip (w.setRow g cells) := by
  unfold execOp
  simp only [ho, hx, hy, Instr.storeAt, Instr.sureAddr, Sem.run_bind, Sem.run_pure, Result.andThen_ok, run_storeVar_row w g t ty old cells hg hi hold h1]
/-- A load of a whole row, as one step of a region. -/
theorem load_run {P : Program} {o : Oper} {ev : Operand → Value} {w : World} (ty : TypeId) (x : Operand) (ho : o.op = .load ty x) (g : Nat) (hx : ev x = .pointer (some ⟨g, 0, none⟩)) (t : TypeId) (cs : Array Value) (fr : Nat × Nat) (d : TypeDesc) (hg : w.heap[g]? = some (.cells cs t fr))
    (hu : P.underlying ty = some d) (hd : (match d with | .struct _ | .array _ _ => true | _ => false) = true) (hi : (P.info? ty).map (·.size) = some cs.size) :
    (execOp ev o).run P w = .ok (.value (.agg cs)) w := by
  unfold execOp
  simp only [ho, hx, Instr.loadAt, Instr.sureAddr, Sem.run_bind, Sem.run_pure, Result.andThen_ok, run_loadVar_row w g t ty cs fr d hg hu hd hi]
/-! ### rows that begin inside a block (by this session) -/
section
variable {P : Program}
theorem run_loadVar_cells (w : World) (a : Addr) (ty : TypeId) (cs : List Value) (d : TypeDesc) (h : ∀ j v, cs[j]? = some v → w.cell? (a.add j) = some v)
    (hu : P.underlying ty = some d) (hd : (match d with | .struct _ | .array _ _ => true | _ => false) = true) (hi : (P.info? ty).map (·.size) = some cs.length) :
    (loadVar ty a).run P w = .ok (.agg cs.toArray) w := by
  have hl := run_loadCells_list (P := P) w a cs h
  cases hq : P.info? ty with
  | none => simp [hq] at hi
  | some i =>
    have hs : i.size = cs.length := by simpa [hq] using hi
    have hagg : (isAgg ty).run P w = .ok true w := by
      unfold isAgg
      rw [Sem.run_bind, run_underlying hu w]
      cases d <;> simp_all
    simp [loadVar, Sem.run_bind, hagg, sizeOf, typeInfo, hq, hs, hl]
theorem storeCells_shift (g i : Nat) (l : List Value) : ∀ k, storeCells ⟨g, i, none⟩ l k = storeCells ⟨g, 0, none⟩ l (i + k) := by
  induction l with
  | nil => intro k; rfl
  | cons v t ih =>
    intro k
    have e : (⟨g, i, none⟩ : Addr).add k = (⟨g, 0, none⟩ : Addr).add (i + k) := by unfold Addr.add; by_cases h1 : k = 0 <;> by_cases h2 : i = 0 <;> simp [h1, h2]
    simp only [storeCells, ih (k + 1), e]
    rfl
/-- A store of cells into the midst of a row. -/
theorem run_storeCells_mid (g : Nat) (t : TypeId) : ∀ (vs : List Value) (i : Nat) (cur : Array Value) (w : World), w.heap[g]? = some (.cells cur t (0, 0)) → i + vs.length ≤ cur.size → (∀ v ∈ vs, v.oneCell' = true) →
    (storeCells ⟨g, 0, none⟩ vs i).run P w = .ok () (w.setRow g (cur.toList.take i ++ vs ++ cur.toList.drop (i + vs.length)).toArray)
  | [], i, cur, w, hg, hl, _ => by
    have hlt : g < w.heap.size := (Array.getElem?_eq_some_iff.1 hg).1
    have e : (cur.toList.take i ++ [] ++ cur.toList.drop (i + ([] : List Value).length)).toArray = cur := by simp
    rw [e]
    have := run_storeCells_from (P := P) g t [] cur.size cur w hg (by simp) (by simp)
    simp only [storeCells] at this ⊢
    rw [this, List.append_nil, List.take_of_length_le (by simp)]
  | v :: rest, i, cur, w, hg, hl, h1 => by
    have hi : i < cur.size := by simp at hl; omega
    have hadd : (⟨g, 0, none⟩ : Addr).add i = ⟨g, i, none⟩ := by unfold Addr.add; by_cases h : i = 0 <;> simp [h]
    have hcell : w.cell? ⟨g, i, none⟩ = some cur[i] := by rw [cell_of_row w g i cur t (0, 0) hg]; simp [hi]
    have hfro : w.frozen? ⟨g, i, none⟩ = false := by simp [World.frozen?, hg]
    have hst : (store ((⟨g, 0, none⟩ : Addr).add i) v).run P w = .ok () (w.setRow g (cur.setIfInBounds i v)) := by
      rw [hadd, run_store P w _ v _ (h1 v (by simp)), hcell]
      simp [hfro, setCell_eq_setRow w g i cur t (0, 0) v hg]
    have ih := run_storeCells_mid g t rest (i + 1) (cur.setIfInBounds i v) (w.setRow g (cur.setIfInBounds i v)) (setRow_heap w g cur _ t _ hg) (by simp at hl ⊢; omega) (fun x hx => h1 x (by simp [hx]))
    simp only [storeCells, Sem.run_bind, hst, Result.andThen_ok, ih, setRow_setRow]
    congr 3
    apply List.ext_getElem?
    intro k
    simp only [Array.toList_setIfInBounds, List.append_assoc, List.getElem?_append, List.length_take, List.length_set, Array.length_toList, List.length_cons, List.getElem?_drop]
    by_cases hk : k < i
    · simp [hk, show k < i + 1 by omega, show min (i + 1) cur.size = i + 1 by omega, show min i cur.size = i by omega, show i ≠ k by omega]
    · by_cases hk2 : k = i
      · subst hk2
        simp [show min (k + 1) cur.size = k + 1 by omega, show min k cur.size = k by omega]
      · simp [hk, show ¬ k < i + 1 by omega, show min (i + 1) cur.size = i + 1 by omega, show min i cur.size = i by omega, show k - i = (k - (i + 1)) + 1 by omega, show i ≠ k by omega]
        split
        · rfl
        · rw [List.getElem?_set_ne (by omega), Array.getElem?_toList, show i + 1 + rest.length + (k - (i + 1) - rest.length) = i + (rest.length + 1) + (k - (i + 1) - rest.length) by omega]
theorem run_storeVar_mid (w : World) (g i : Nat) (t ty : TypeId) (old cells : Array Value) (hg : w.heap[g]? = some (.cells old t (0, 0))) (hi : (P.info? ty).map (·.size) = some cells.size)
    (ho : i + cells.size ≤ old.size) (h1 : cells.all (·.oneCell') = true) :
    (storeVar ty ⟨g, i, none⟩ (.agg cells)).run P w = .ok () (w.setRow g (old.toList.take i ++ cells.toList ++ old.toList.drop (i + cells.size)).toArray) := by
  have := run_storeCells_mid (P := P) g t cells.toList i old w hg (by simpa using ho) (fun v hv => (Array.all_eq_true_iff_forall_mem.1 h1) v (by simpa using hv))
  have e := storeCells_shift g i cells.toList 0
  cases hq : P.info? ty with
  | none => simp [hq] at hi
  | some j =>
    have hs : cells.size = j.size := by simp [hq] at hi; omega
    have e2 : cells.toList.length = cells.size := by simp
    rw [e2] at this
    simp [storeVar, sizeOf, typeInfo, hq, Value.cells, hs, e]
    rw [← hs, this]
    simp
theorem part_int {e : TypeId} {k : IntKind} (he : P.underlying e = some (.int k)) (a : List Int) (j : Nat) (h : j < a.length) (w : World) : (part e (a.map (Value.int k)).toArray j).run P w = .ok (.int k a[j]) w := by
  unfold part isAgg
  simp [Sem.run_bind, run_underlying he, h]
theorem equalIn_int {e : TypeId} {k : IntKind} (he : P.underlying e = some (.int k)) (d : Nat) (x y : Int) (w : World) : (Op.equalIn (d + 1) e (.int k x) (.int k y)).run P w = .ok (x == y) w := by
  simp [Op.equalIn, Sem.run_bind, run_underlying he]
theorem eqItems_ints {e : TypeId} {k : IntKind} (he : P.underlying e = some (.int k)) (d : Nat) (a b : List Int) (hl : a.length = b.length) (w : World) : ∀ (m i : Nat), i + m = a.length →
    (Op.eqItems (d + 1) e 1 (a.map (Value.int k)).toArray (b.map (Value.int k)).toArray (List.range' i m)).run P w = .ok (decide (a.drop i = b.drop i)) w := by
  intro m
  induction m with
  | zero =>
    intro i hi
    rw [List.drop_of_length_le (by omega), List.drop_of_length_le (by omega)]
    simp [Op.eqItems]
  | succ m ih =>
    intro i hi
    have h1 : i < a.length := by omega
    have h2 : i < b.length := by omega
    have := ih (i + 1) (by omega)
    rw [List.range'_succ]
    simp only [Op.eqItems, Nat.mul_one, Sem.run_bind, part_int he a i h1, part_int he b i h2, equalIn_int he, Result.andThen_ok]
    have e2 : (a.drop i = b.drop i) ↔ (a[i] = b[i] ∧ a.drop (i + 1) = b.drop (i + 1)) := by rw [List.drop_eq_getElem_cons h1, List.drop_eq_getElem_cons h2, List.cons.injEq]
    by_cases c : a[i] = b[i]
    · rw [if_neg (by simp [c]), this]
      exact congrArg (fun z => Result.ok z w) (decide_eq_decide.2 ⟨fun h => e2.2 ⟨c, h⟩, fun h => (e2.1 h).2⟩)
    · rw [if_pos (by simp [c]), decide_eq_false (fun h => c (e2.1 h).1)]
      rfl
theorem eqArr_ints {t e : TypeId} {k : IntKind} {n : Nat} (hu : P.underlying t = some (.array n e)) (he : P.underlying e = some (.int k)) (hi : (P.info? e).isSome = true) (hc : P.cellsOf e = 1) (d : Nat) (a b : List Int) (ha : a.length = n) (hb : b.length = n) (w : World) :
    (Op.equalIn (d + 2) t (.agg (a.map (Value.int k)).toArray) (.agg (b.map (Value.int k)).toArray)).run P w = .ok (decide (a = b)) w := by
  obtain ⟨i, hi⟩ := Option.isSome_iff_exists.1 hi
  rw [run_equalIn_array w (d + 1) _ _ hu hi, hc, List.range_eq_range', eqItems_ints he d a b (by omega) w n 0 (by omega)]
  simp
/-- A load of a whole row, wherever it begins, as one step. -/
theorem load_run_at {o : Oper} {ev : Operand → Value} {w : World} (ty : TypeId) (x : Operand) (ho : o.op = .load ty x) (a : Addr) (hx : ev x = .pointer (some a)) (cs : List Value) (d : TypeDesc) (h : ∀ j v, cs[j]? = some v → w.cell? (a.add j) = some v)
    (hu : P.underlying ty = some d) (hd : (match d with | .struct _ | .array _ _ => true | _ => false) = true) (hi : (P.info? ty).map (·.size) = some cs.length) :
    (execOp ev o).run P w = .ok (.value (.agg cs.toArray)) w := by
  unfold execOp
  simp only [ho, hx, Instr.loadAt, Instr.sureAddr, Sem.run_bind, Sem.run_pure, Result.andThen_ok, run_loadVar_cells w a ty cs d h hu hd hi]
/-- A store of a whole row into the midst of a block, as one step. -/
theorem store_run_mid {o : Oper} {ev : Operand → Value} {w : World} (ty : TypeId) (x y : Operand) (ho : o.op = .store ty x y) (g i : Nat) (cells : Array Value) (hx : ev x = .pointer (some ⟨g, i, none⟩)) (hy : ev y = .agg cells)
    (t : TypeId) (old : Array Value) (hg : w.heap[g]? = some (.cells old t (0, 0))) (hi : (P.info? ty).map (·.size) = some cells.size) (ho2 : i + cells.size ≤ old.size) (h1 : cells.all (·.oneCell') = true) :
    (execOp ev o).run P w = .ok .skip (w.setRow g (old.toList.take i ++ cells.toList ++ old.toList.drop (i + cells.size)).toArray) := by
  unfold execOp
  simp only [ho, hx, hy, Instr.storeAt, Instr.sureAddr, Sem.run_bind, Sem.run_pure, Result.andThen_ok, run_storeVar_mid w g i t ty old cells hg hi ho2 h1]
end
/-! ### blocks, and stores of them (by this session) -/
section
structure Bk where
  l : List Int
  h : l.length = 64
theorem Bk.eq {a b : Bk} (h : a.l = b.l) : a = b := by cases a; cases b; cases h; rfl
instance Bk.dec : DecidableEq Bk := fun a b => decidable_of_iff (a.l = b.l) ⟨Bk.eq, fun h => by rw [h]⟩
def Bk.cs (b : Bk) : List Value := b.l.map (Value.int .u8)
def Bk.z : Bk := ⟨List.replicate 64 0, by simp⟩
theorem Bk.len (b : Bk) : b.cs.length = 64 := by rw [Bk.cs, List.length_map, b.h]
theorem Bk.one (b : Bk) : ∀ u ∈ b.cs, u.oneCell' = true := by
  intro u hu
  obtain ⟨x, _, rfl⟩ := List.mem_map.1 hu
  rfl
theorem Bk.get (b : Bk) (i : Nat) (hi : i < 64) : b.cs[i]? = some (.int .u8 (b.l.getD i 0)) := by
  have : i < b.l.length := by rw [b.h]; exact hi
  simp [Bk.cs, this]
theorem Bk.zcs : Bk.z.cs = List.replicate 64 (.int .u8 0) := by simp [Bk.z, Bk.cs]
/-- A block's array. -/
def Bk.v (b : Bk) : Value := .agg b.cs.toArray
def hrow (x : Bk × Bool) : List Value := x.1.cs ++ [.bool x.2]
def wrow (x : Int × Bk) : List Value := .int .i64 x.1 :: x.2.cs
theorem hrow_len (x : Bk × Bool) : (hrow x).length = 65 := by rw [hrow, List.length_append, Bk.len]; rfl
theorem wrow_len (x : Int × Bk) : (wrow x).length = 65 := by rw [wrow, List.length_cons, Bk.len]
theorem hrow_one (x : Bk × Bool) : ∀ u ∈ hrow x, u.oneCell' = true := by
  intro u hu
  rcases List.mem_append.1 hu with h | h
  · exact x.1.one u h
  · simp at h; subst h; rfl
theorem wrow_one (x : Int × Bk) : ∀ u ∈ wrow x, u.oneCell' = true := by
  intro u hu
  rcases List.mem_cons.1 hu with h | h
  · subst h; rfl
  · exact x.2.one u h
theorem flat_len {α : Type} {f : α → List Value} {n : Nat} (hf : ∀ x, (f x).length = n) : ∀ L : List α, (L.flatMap f).length = L.length * n
  | [] => by simp
  | x :: L => by rw [List.flatMap_cons, List.length_append, hf, flat_len hf L, List.length_cons, Nat.add_mul, Nat.one_mul, Nat.add_comm]
theorem flat_take {α : Type} {f : α → List Value} {n : Nat} (hf : ∀ x, (f x).length = n) : ∀ (L : List α) (i : Nat), i ≤ L.length → (L.take i).flatMap f = (L.flatMap f).take (i * n)
  | _, 0, _ => by simp
  | x :: L, i + 1, h => by
    rw [List.take_succ_cons, List.flatMap_cons, List.flatMap_cons, flat_take hf L i (by simpa using h), List.take_append, hf, List.take_of_length_le (l := f x) (by rw [hf, Nat.add_mul]; omega), show (i + 1) * n - n = i * n by rw [Nat.add_mul]; omega]
theorem flat_drop {α : Type} {f : α → List Value} {n : Nat} (hf : ∀ x, (f x).length = n) : ∀ (L : List α) (i : Nat), i ≤ L.length → (L.drop i).flatMap f = (L.flatMap f).drop (i * n)
  | _, 0, _ => by simp
  | x :: L, i + 1, h => by
    rw [List.drop_succ_cons, List.flatMap_cons, flat_drop hf L i (by simpa using h), List.drop_append, hf, List.drop_of_length_le (l := f x) (by rw [hf, Nat.add_mul]; omega), show (i + 1) * n - n = i * n by rw [Nat.add_mul]; omega, List.nil_append]
theorem flat_get {α : Type} {f : α → List Value} {n : Nat} (hf : ∀ x, (f x).length = n) (L : List α) (i q : Nat) (hi : i < L.length) (hq : q < n) : (L.flatMap f)[i * n + q]? = (f L[i])[q]? := by
  rw [← List.getElem?_drop, ← flat_drop hf L i (by omega), List.drop_eq_getElem_cons hi, List.flatMap_cons, List.getElem?_append_left (by rw [hf]; exact hq)]
theorem flat_set {α : Type} {f : α → List Value} {n : Nat} (hf : ∀ x, (f x).length = n) (L : List α) (i : Nat) (hi : i < L.length) (x : α) : (L.flatMap f).take (i * n) ++ f x ++ (L.flatMap f).drop (i * n + n) = (L.set i x).flatMap f := by
  rw [List.set_eq_take_append_cons_drop, if_pos hi, List.flatMap_append, List.flatMap_cons, flat_take hf L i (by omega), flat_drop hf L (i + 1) (by omega), List.append_assoc, Nat.add_mul, Nat.one_mul]
def hcells (L : List (Bk × Bool)) : Array Value := (L.flatMap hrow).toArray
theorem hcells_size (L : List (Bk × Bool)) : (hcells L).size = L.length * 65 := by rw [hcells, List.size_toArray, flat_len hrow_len]
theorem hcells_at (L : List (Bk × Bool)) (i q : Nat) (hi : i < L.length) (hq : q < 65) : (hcells L)[i * 65 + q]? = (hrow L[i])[q]? := by
  rw [hcells, List.getElem?_toArray, flat_get hrow_len L i q hi hq]
theorem hcells_set (L : List (Bk × Bool)) (i : Nat) (hi : i < L.length) (x : Bk × Bool) : ((hcells L).toList.take (i * 65) ++ hrow x ++ (hcells L).toList.drop (i * 65 + 65)).toArray = hcells (L.set i x) := by
  rw [hcells, hcells]
  exact congrArg List.toArray (flat_set hrow_len L i hi x)
/-- The last write of a block. -/
def lastOf (W : List (Int × Bk)) (k : Int) : Option Bk := (W.reverse.find? (fun x => x.1 == k)).map (·.2)
theorem lastOf_nil (k : Int) : lastOf [] k = none := rfl
theorem lastOf_snoc (W : List (Int × Bk)) (a : Int) (b : Bk) (k : Int) : lastOf (W ++ [(a, b)]) k = if k = a then some b else lastOf W k := by
  rw [lastOf, lastOf, List.reverse_append, List.reverse_singleton, List.singleton_append, List.find?_cons]
  by_cases h : a = k
  · subst h; simp
  · have : (a == k) = false := by simpa using h
    simp [this, Ne.symm h]
/-- What is read. -/
def rd (L : List (Bk × Bool)) (W : List (Int × Bk)) (a : Int) : Bk × Int :=
  if 0 ≤ a ∧ a < L.length then
    match lastOf W a with
    | some b => (b, 0)
    | none => if (L.getD a.toNat (Bk.z, true)).2 = true then (Bk.z, 7) else ((L.getD a.toNat (Bk.z, true)).1, 0)
  else (Bk.z, 2)
/-- What a write answers, and what waits behind it. -/
def wrc (L : List (Bk × Bool)) (W : List (Int × Bk)) (a : Int) : Int := if 0 ≤ a ∧ a < L.length then (if 4096 ≤ W.length then 10 else 0) else 2
def wrW (L : List (Bk × Bool)) (W : List (Int × Bk)) (a : Int) (b : Bk) : List (Int × Bk) := if wrc L W a = 0 then W ++ [(a, b)] else W
def put1 (L : List (Bk × Bool)) (x : Int × Bk) (f : Int) : List (Bk × Bool) := if f = 1 then L.set x.1.toNat (x.2, false) else if f = 2 then L.set x.1.toNat (Bk.z, true) else L
theorem put1_len (L : List (Bk × Bool)) (x : Int × Bk) (f : Int) : (put1 L x f).length = L.length := by
  unfold put1
  split
  · simp
  · split <;> simp
def setl (fate : Nat → Int) : Nat → List (Int × Bk) → List (Bk × Bool) → List (Bk × Bool)
  | _, [], L => L
  | i, x :: W, L => setl fate (i + 1) W (put1 L x (fate i))
theorem setl_len (fate : Nat → Int) : ∀ (W : List (Int × Bk)) (i : Nat) (L : List (Bk × Bool)), (setl fate i W L).length = L.length
  | [], _, _ => rfl
  | x :: W, i, L => by rw [setl, setl_len fate W, put1_len]
/-- What is moved: nothing but blocks of F (new ones but for that); what is there then are blocks of F, and new ones. -/
structure Mv (F F' : Nat → Prop) (w w' : World) : Prop where
  os : w'.os = w.os
  tape : w'.tape = w.tape
  output : w'.output = w.output
  size : w.heap.size ≤ w'.heap.size
  block : ∀ k, k < w.heap.size → ¬ F k → w'.heap[k]? = w.heap[k]?
  foot : ∀ k, F' k → F k ∨ w.heap.size ≤ k
theorem Mv.refl (F : Nat → Prop) (w : World) : Mv F F w w := ⟨rfl, rfl, rfl, Nat.le_refl _, fun _ _ _ => rfl, fun _ h => .inl h⟩
theorem Mv.trans {F F' F'' : Nat → Prop} {w w' w'' : World} (h : Mv F F' w w') (k : Mv F' F'' w' w'') : Mv F F'' w w'' :=
  ⟨k.os.trans h.os, k.tape.trans h.tape, k.output.trans h.output, Nat.le_trans h.size k.size, fun j hj hF => (k.block j (Nat.lt_of_lt_of_le hj h.size) (fun h' => (h.foot j h').elim hF (fun h2 => by omega))).trans (h.block j hj hF),
   fun j hj => (k.foot j hj).elim (h.foot j) (fun h2 => .inr (Nat.le_trans h.size h2))⟩
theorem Mv.of_below {F : Nat → Prop} {w w' : World} (h : Below w.heap.size w w') : Mv F F w w' := ⟨h.os, h.tape, h.output, h.size, fun k hk _ => h.block k hk, fun _ h => .inl h⟩
theorem Mv.row {F : Nat → Prop} (w : World) (g : Nat) (hF : F g) (cs : Array Value) : Mv F F w (w.setRow g cs) :=
  ⟨rfl, rfl, rfl, by simp [World.setRow], fun k _ hk => setRow_other w g k cs (fun e => hk (by rw [e]; exact hF)), fun _ h => .inl h⟩
theorem Mv.cell {F : Nat → Prop} (w : World) (a : Addr) (hF : F a.block) (v : Value) : Mv F F w (w.setCell a v) :=
  ⟨rfl, rfl, rfl, by simp [World.setCell], fun k _ hk => Below.heap_setCell w a v k (fun e => hk (by rw [e]; exact hF)), fun _ h => .inl h⟩
theorem Mv.putMap {F : Nat → Prop} {w w' : World} {g : Nat} (hF : F g) (h : World.putMap w w' g) : Mv F F w w' := by
  obtain ⟨o, rfl⟩ := h
  exact ⟨rfl, rfl, rfl, by simp, fun k _ hk => by simp [show g ≠ k from fun e => hk (by rw [← e]; exact hF)], fun _ h => .inl h⟩
theorem Mv.grown {F F' : Nat → Prop} {w w' : World} {r : Option Nat} (h : w.grownBy w' r) (hr : ∀ k, r = some k → F k) (hf : ∀ k, F' k → F k ∨ w.heap.size ≤ k) : Mv F F' w w' :=
  ⟨h.os, h.tape, h.output, h.size, fun k hk hF => h.block k hk (fun e => hF (hr k e.symm)), hf⟩
theorem Mv.weaken {F F' F1 F1' : Nat → Prop} {w w' : World} (h : Mv F F' w w') (h1 : ∀ k, F k → F1 k) (h2 : ∀ k, F1' k → F1 k ∨ w.heap.size ≤ k) : Mv F1 F1' w w' :=
  ⟨h.os, h.tape, h.output, h.size, fun k hk hF => h.block k hk (fun e => hF (h1 k e)), h2⟩
theorem Mv.below {F F' : Nat → Prop} {w0 w w' : World} {B : Nat} (h : Mv F F' w w') (hb : Below B w0 w) (hB : B ≤ w.heap.size) (hF : ∀ k, F k → B ≤ k) : Below B w0 w' :=
  hb.trans ⟨h.os, h.tape, h.output, h.size, fun k hk => h.block k (by omega) (fun e => by have := hF k e; omega)⟩
theorem Mv.blk {F F' : Nat → Prop} {w w' : World} {g : Nat} {o : Obj} (h : Mv F F' w w') (hb : w.heap[g]? = some o) (hF : ¬ F g) : w'.heap[g]? = some o := (h.block g (blk_lt hb) hF).trans hb
/-- An own row of rows of cells, of nothing but F's blocks. -/
theorem Mv.R {F F' : Nat → Prop} {w w' : World} {n e B : Nat} {v : Value} {xs : List (List Value)} (h : Mv F F' w w') (hr : Kd.R (Kd.raw n) e w B (fun _ => True) v xs) (hF : ∀ k, v.ownBlock = some k → ¬ F k) : Kd.R (Kd.raw n) e w' B (fun _ => True) v xs :=
  Kd.R_mono (Kd.R_step (Kd.R_mono (Kd.R_tight rfl hr) (fun k hk => hk)) (fun k hk hlt => h.block k hlt (hF k (by simpa using hk.symm)))) (fun _ _ => trivial)
theorem same_R {w w' : World} {n e B : Nat} {v : Value} {xs : List (List Value)} (hr : Kd.R (Kd.raw n) e w B (fun _ => True) v xs) (h : ∀ k, v.ownBlock = some k → w'.heap[k]? = w.heap[k]?) : Kd.R (Kd.raw n) e w' B (fun _ => True) v xs :=
  Kd.R_mono (Kd.R_step (Kd.R_tight rfl hr) (fun k hk hlt => h k (by simpa using hk.symm))) (fun _ _ => trivial)
end
section
variable {P : Program} {ops : Array Oper} {rest : List Oper} {o : Oper} {a : Act} {w w1 : World} {Q : Exit → Act → World → Prop}
theorem wpl_value {v : Value} (hgd : o.guard = none) (h : (execOp a.eval o).run P w = .ok (.value v) w1) (hk : wpList P ops Q rest (a.put o.dst v) w1) : wpList P ops Q (o :: rest) a w :=
  wpList_plain hgd fun K hK => by
    unfold Oper.wp
    rw [h]
    exact hK _ _ hk
theorem wpl_skip (hgd : o.guard = none) (hd : o.dst = none) (h : (execOp a.eval o).run P w = .ok .skip w1) (hk : wpList P ops Q rest a w1) : wpList P ops Q (o :: rest) a w :=
  wpList_plain hgd fun K hK => by
    unfold Oper.wp
    rw [h]
    rw [Oper.upon_skip, hd]
    exact hK _ _ hk
theorem bk_all (b : Bk) : b.cs.toArray.all (·.oneCell') = true := by
  rw [Array.all_eq_true_iff_forall_mem]
  intro x hx
  exact b.one x (by simpa using hx)
theorem bk_sz (b : Bk) : b.cs.toArray.size = 64 := by rw [List.size_toArray, b.len]
/-- A block's array is stored over another (its own block), as one step. -/
theorem wpl_stbk (ty : TypeId) (x y : Operand) (g : Nat) (b : Bk) (t : TypeId) (old : Bk) (ho : o.op = .store ty x y) (hgd : o.guard = none) (hd : o.dst = none) (hx : a.eval x = .pointer (some ⟨g, 0, none⟩)) (hy : a.eval y = b.v)
    (hg : w.heap[g]? = some (.cells old.cs.toArray t (0, 0))) (hi : (P.info? ty).map (·.size) = some 64) (h : wpList P ops Q rest a (w.setRow g b.cs.toArray)) : wpList P ops Q (o :: rest) a w :=
  store_rowTo hgd ty x y ho hd g b.cs.toArray hx hy t _ hg (by rw [hi, bk_sz]) (by rw [bk_sz, bk_sz]) (bk_all b) h
/-- It is loaded, as one step. -/
theorem wpl_ldbk (ty : TypeId) (x : Operand) (g : Nat) (b : Bk) (t : TypeId) (fr : Nat × Nat) (n : Nat) (e : TypeId) (ho : o.op = .load ty x) (hgd : o.guard = none) (hx : a.eval x = .pointer (some ⟨g, 0, none⟩))
    (hg : w.heap[g]? = some (.cells b.cs.toArray t fr)) (hu : P.underlying ty = some (.array n e)) (hi : (P.info? ty).map (·.size) = some 64) (h : wpList P ops Q rest (a.put o.dst b.v) w) : wpList P ops Q (o :: rest) a w :=
  wpList_load_row hgd ty x ho g hx t _ fr _ hg hu rfl (by rw [hi, bk_sz]) h
/-- It is loaded out of a row (its first cell at i). -/
theorem wpl_ldbk_at (ty : TypeId) (x : Operand) (g i : Nat) (b : Bk) (n : Nat) (e : TypeId) (ho : o.op = .load ty x) (hgd : o.guard = none) (hx : a.eval x = .pointer (some ⟨g, i, none⟩))
    (hc : ∀ j, j < 64 → w.cell? ⟨g, i + j, none⟩ = b.cs[j]?) (hu : P.underlying ty = some (.array n e)) (hi : (P.info? ty).map (·.size) = some 64) (h : wpList P ops Q rest (a.put o.dst b.v) w) : wpList P ops Q (o :: rest) a w :=
  wpl_value hgd (load_run_at ty x ho ⟨g, i, none⟩ hx b.cs (.array n e) (fun j v hv => by
    have hj : j < 64 := by have := (List.getElem?_eq_some_iff.1 hv).1; rwa [b.len] at this
    have hadd : (⟨g, i, none⟩ : Addr).add j = ⟨g, i + j, none⟩ := by unfold Addr.add; split <;> simp_all
    rw [hadd, hc j hj, hv]) hu rfl (by rw [hi, b.len])) h
/-- A new own block of a type, with this stored into it. -/
theorem newbk (y : World) (Z cells : Array Value) (t : TypeId) : Below y.heap.size y ((y.alloc (.cells Z t)).setRow y.heap.size cells) ∧ ((y.alloc (.cells Z t)).setRow y.heap.size cells).heap[y.heap.size]? = some (.cells cells t (0, 0)) :=
  ⟨row_below (below_alloc (Below.refl _ _) _) (Nat.le_refl _) _, setRow_heap _ _ _ _ _ _ (blk_new y _)⟩
end
section
def putAt (cells : Array Value) (off : Nat) (vs : List Value) : Array Value := (cells.toList.take off ++ vs ++ cells.toList.drop (off + vs.length)).toArray
theorem fold_set (off : Nat) : ∀ (vs : List Value) (k : Nat) (cs : Array Value), off + k + vs.length ≤ cs.size → (vs.zipIdx k).foldl (fun cs (x : Value × Nat) => cs.setIfInBounds (off + x.2) x.1) cs = putAt cs (off + k) vs
  | [], k, cs, _ => by simp [putAt]
  | v :: vs, k, cs, h => by
    rw [List.length_cons] at h
    rw [List.zipIdx_cons, List.foldl_cons, fold_set off vs (k + 1) _ (by simp; omega), putAt, putAt]
    congr 1
    apply List.ext_getElem?
    intro j
    simp only [Array.toList_setIfInBounds, List.append_assoc, List.getElem?_append, List.length_take, List.length_set, Array.length_toList, List.length_cons, List.getElem?_drop, ← Nat.add_assoc]
    by_cases hk : j < off + k
    · simp [hk, show j < off + k + 1 by omega, show min (off + k + 1) cs.size = off + k + 1 by omega, show min (off + k) cs.size = off + k by omega, show off + k ≠ j by omega]
    · by_cases hk2 : j = off + k
      · subst hk2
        simp [show min (off + k + 1) cs.size = off + k + 1 by omega, show min (off + k) cs.size = off + k by omega, show off + k < cs.size by omega]
      · simp [hk, show ¬ j < off + k + 1 by omega, show min (off + k + 1) cs.size = off + k + 1 by omega, show min (off + k) cs.size = off + k by omega, show j - (off + k) = (j - (off + k + 1)) + 1 by omega, show off + k ≠ j by omega]
        split
        · rfl
        · rw [List.getElem?_set_ne (by omega), Array.getElem?_toList]
          congr 1
          omega
theorem fill_put {place : Nat → Option (Nat × Nat)} {cells : Array Value} {i off n : Nat} {v : Value} {vs : List Value} {rest : List (Nat × Value)} (hp : place i = some (off, n)) (hv : v.cells = vs.toArray) (hn : vs.length = n) (hl : off + n ≤ cells.size) :
    Instr.fill place cells ((i, v) :: rest) = Instr.fill place (putAt cells off vs) rest := by
  have := fold_set off vs 0 cells (by omega)
  simp only [Nat.add_zero] at this
  simp only [Instr.fill, hp, hv, List.size_toArray, hn]
  rw [if_neg (by simp; omega), ← this]
  congr 1
  rw [← Array.foldl_toList]
  simp
end
theorem bslice_run {P : Program} {o : Oper} {ev : Operand → Value} {w w1 : World} {v : Value} (t : TypeId) (len : Nat) (parts : Array (Nat × Operand)) (args : Array (Nat × Value)) (ho : o.op = .buildSlice t len parts) (hp : parts.map (fun x => (x.1, ev x.2)) = args)
    (h : (Instr.buildSlice t len args).run P w = .ok v w1) : (execOp ev o).run P w = .ok (.value v) w1 := by
  unfold execOp
  simp only [ho, hp, Sem.run_bind, h, Result.andThen_ok, Sem.run_pure]
theorem build_run {P : Program} {o : Oper} {ev : Operand → Value} {w w1 : World} {v : Value} (t : TypeId) (parts : Array (Nat × Operand)) (args : Array (Nat × Value)) (ho : o.op = .build t parts) (hp : parts.map (fun x => (x.1, ev x.2)) = args)
    (h : (Instr.build t args).run P w = .ok v w1) : (execOp ev o).run P w = .ok (.value v) w1 := by
  unfold execOp
  simp only [ho, hp, Sem.run_bind, h, Result.andThen_ok, Sem.run_pure]
theorem mapUpdate_run {P : Program} {o : Oper} {ev : Operand → Value} {w w1 : World} {t : TypeId} {m x v : Operand} {mv xv vv : Value} (ho : o.op = .mapUpdate t m x v) (hm : ev m = mv) (hx : ev x = xv) (hv : ev v = vv)
    (h : (Instr.mapUpdate t mv xv vv).run P w = .ok () w1) : (execOp ev o).run P w = .ok .skip w1 := by
  unfold execOp
  simp only [ho, hm, hx, hv, Sem.run_bind, h, Result.andThen_ok, Sem.run_pure]
theorem held_store {P : Program} {o : Oper} {ev : Operand → Value} {w : World} {L : List (Bk × Bool)} {q gl t : Nat} {z : Bk × Bool} (ty : TypeId) (x y : Operand) (ho : o.op = .store ty x y) (hx : ev x = .pointer (some ⟨gl, q * 65, none⟩)) (hy : ev y = .agg (hrow z).toArray)
    (hg : w.heap[gl]? = some (.cells (hcells L) t (0, 0))) (hq : q < L.length) (hi : (P.info? ty).map (·.size) = some 65) (h1 : (hrow z).toArray.all (·.oneCell') = true) : (execOp ev o).run P w = .ok .skip (w.setRow gl (hcells (L.set q z))) := by
  have hs : (hrow z).toArray.size = 65 := by rw [List.size_toArray, hrow_len]
  have := store_run_mid (P := P) (ev := ev) ty x y ho gl (q * 65) (hrow z).toArray hx hy t (hcells L) hg (by rw [hi, hs]) (by rw [hs, hcells_size]; omega) h1
  rw [this, hs]
  have e := hcells_set L q hq z
  simp only at e ⊢
  rw [e]
theorem add_add (ad : Addr) (x j : Nat) : (ad.add x).add j = ad.add (x + j) := by
  unfold Addr.add
  by_cases h1 : x = 0
  · subst h1; simp
  · by_cases h2 : j = 0
    · subst h2; simp
    · simp [h1, h2, Nat.add_assoc]
section
variable {P : Program} {ops : Array Oper} {rest : List Oper} {o : Oper} {a : Act} {w w1 : World} {Q : Exit → Act → World → Prop}
/-- A function that can be called by its number. -/
def FnOk (P : Program) (n : Nat) : Prop := ∃ fn, P.funcs[n]? = some fn ∧ (fn.name == "runtime.NumGoroutine") = false ∧ fn.body.isSome = true
theorem callv_run {ev : Operand → Value} (x : Operand) (as_ : Array Operand) (ts : Array TypeId) (hop : o.op = .call { callee := .value x, args := as_, argTypes := ts }) (n : Nat) (hf : FnOk P n) (caps : Array Value) (hx : ev x = .func (.func n) #[] caps)
    (args : Array Value) (hargs : as_.map ev ++ caps = args) : (execOp ev o).run P w = .ok (.enter n args) w := by
  obtain ⟨fn, h1, h2, h3⟩ := hf
  have he := enters_ h1 h2 h3 args w
  subst hargs
  unfold execOp
  simp [hop, resolve, Deferred.ofValue, invoke, hx, he]
theorem wpl_callv (x : Operand) (as_ : Array Operand) (ts : Array TypeId) (hop : o.op = .call { callee := .value x, args := as_, argTypes := ts }) (hgd : o.guard = none) (n : Nat) (hf : FnOk P n) (caps : Array Value) (hx : a.eval x = .func (.func n) #[] caps)
    (args : Array Value) (hargs : as_.map a.eval ++ caps = args) (h : Calls P n args w fun e w' => ∃ v, e = .returned v ∧ wpList P ops Q rest (a.put o.dst v) w') : wpList P ops Q (o :: rest) a w :=
  wpList_plain hgd fun K hK => by
    unfold Oper.wp
    rw [callv_run x as_ ts hop n hf caps hx args hargs, Oper.upon_enter]
    refine h.mono ?_
    rintro e w' ⟨v, rfl, hk⟩
    exact hK _ _ hk
end
/-- The block within a write that waits. -/
theorem row_bk {w : World} {g t : Nat} {fr : Nat × Nat} {x : Int} {b : Bk} (h : w.heap[g]? = some (.cells (wrow (x, b)).toArray t fr)) : ∀ j v, b.cs[j]? = some v → w.cell? ((⟨g, 1, none⟩ : Addr).add j) = some v := fun j v hv => by
  have hadd : (⟨g, 1, none⟩ : Addr).add j = ⟨g, j + 1, none⟩ := by unfold Addr.add; split <;> simp_all [Nat.add_comm]
  rw [hadd, cell_of_row w g (j + 1) _ t fr h]
  simpa [wrow] using hv
theorem setl_snoc (fate : Nat → Int) (x : Int × Bk) : ∀ (W : List (Int × Bk)) (i : Nat) (L : List (Bk × Bool)), setl fate i (W ++ [x]) L = put1 (setl fate i W L) x (fate (i + W.length))
  | [], i, L => by simp [setl]
  | y :: W, i, L => by rw [List.cons_append, setl, setl_snoc fate x W (i + 1), setl, List.length_cons, show i + 1 + W.length = i + (W.length + 1) by omega]
theorem setl_step (fate : Nat → Int) (W : List (Int × Bk)) (L : List (Bk × Bool)) (i : Nat) (hi : i < W.length) : setl fate 0 (W.take (i + 1)) L = put1 (setl fate 0 (W.take i) L) W[i] (fate i) := by
  rw [List.take_succ_eq_append_getElem hi, setl_snoc, List.length_take, Nat.zero_add, Nat.min_eq_left (by omega)]
/-- An element of a row of writes. -/
theorem row_get {w : World} {e B n c : Nat} {A : Option Addr} {W : List (Int × Bk)} {ok : Nat → Prop} (h : Kd.R (Kd.raw 65) e w B ok (.slice A n c) (W.map wrow)) (i : Nat) (hi : i < W.length) : ∃ ad, A = some ad ∧ ∀ j u, (wrow W[i])[j]? = some u → w.cell? ((ad.add (i * 65)).add j) = some u := by
  obtain ⟨hn, _, hC⟩ := Kd.R_reads' h
  rw [List.length_map] at hC hn
  obtain ⟨ad, cs, hA, hl, hK, hc⟩ := Kd.C_get hC [] (i : Int) (by omega) (by omega)
  refine ⟨ad, hA, fun j u hu => ?_⟩
  have hcs : cs = wrow W[i] := by
    have := hK.1
    rw [this]
    simp [List.getD, hi]
  rw [add_add]
  have := hc j u (by rw [hcs]; exact hu)
  rwa [Int.toNat_natCast] at this
/-- A crash's fate of the write at i. -/
def fateOf (l : List Int) (i : Nat) : Int := if i < l.length then (l.getD i 0).tmod 3 else 0
theorem MapAt.clear {P : Program} {w : World} {g : Nat} {m : List (Int × Value)} {mt kt et : TypeId} (hm : P.underlying mt = some (.map kt et)) (h : MapAt w g m) :
    ∃ w', (∀ ty, (Builtin.clear_ #[mt] ty #[.map (some g)]).run P w = .ok (.tuple #[]) w') ∧ MapAt w' g [] ∧ World.putMap w w' g := by
  obtain ⟨es, c, hb, he⟩ := h
  refine ⟨{ w with heap := w.heap.setIfInBounds g (.map #[] c) }, fun ty => ?_, ⟨#[], c, ?_, rfl⟩, ⟨_, rfl⟩⟩
  · simp [Builtin.clear_, run_underlying hm, MapKept.run_getObj_map hb, MapKept.run_setObj_map _ hb, Result.andThen]
  · simp [(Array.getElem?_eq_some_iff.1 hb).1]
theorem clear_exec {P : Program} {o : Oper} {ev : Operand → Value} {w w' : World} {mt : TypeId} {x : Operand} {mv : Value} (ho : o.op = .call { callee := .builtin .clear, args := #[x], argTypes := #[mt] }) (hx : ev x = mv)
    (h : ∀ ty, (Builtin.clear_ #[mt] ty #[mv]).run P w = .ok (.tuple #[]) w') : (execOp ev o).run P w = .ok (.value (.tuple #[])) w' := by
  unfold execOp
  simp [ho, resolve, invoke, builtin, hx, h, Result.andThen]
theorem lastOf_take (W : List (Int × Bk)) (a : Int) (n : Nat) (hn : n < W.length) : lastOf (W.take (n + 1)) a = if W[n].1 = a then some W[n].2 else lastOf (W.take n) a := by
  rw [List.take_succ_eq_append_getElem hn, show W[n] = (W[n].1, W[n].2) from rfl, lastOf_snoc]
  by_cases h : W[n].1 = a
  · simp [h]
  · simp [h, Ne.symm h]
theorem row_bk_at {w : World} {ad : Addr} {x : Int × Bk} (h : ∀ j u, (wrow x)[j]? = some u → w.cell? (ad.add j) = some u) : ∀ j u, x.2.cs[j]? = some u → w.cell? ((ad.add 1).add j) = some u := fun j u hu => by
  rw [add_add, Nat.add_comm]
  exact h (j + 1) u hu
/-- A block that begins with these bytes. -/
def ofB (l : List Int) : Bk := ⟨l.take 64 ++ List.replicate (64 - (l.take 64).length) 0, by simp; omega⟩
theorem ofB_get (l : List Int) (j : Nat) : (ofB l).l[j]? = if j < 64 then some (l.getD j 0) else none := by
  rw [ofB]
  by_cases h : j < 64
  · rw [if_pos h]
    by_cases h2 : j < l.length
    · rw [List.getElem?_append_left (by simp; omega), List.getElem?_take, if_pos h]
      simp [h2]
    · rw [List.getElem?_append_right (by simp; omega), List.getElem?_replicate, if_pos (by simp; omega)]
      simp [List.getD, show l.length ≤ j by omega]
  · rw [if_neg h]
    exact List.getElem?_eq_none (by simp; omega)
theorem ofB_nil : ofB [] = Bk.z := Bk.eq (by simp [ofB, Bk.z])
theorem ofB_step (l : List Int) (i : Nat) (hi : i < l.length) (h64 : i < 64) : (ofB (l.take i)).cs.toArray.setIfInBounds i (.int .u8 l[i]) = (ofB (l.take (i + 1))).cs.toArray := by
  have e : (ofB (l.take i)).l.set i l[i] = (ofB (l.take (i + 1))).l := by
    apply List.ext_getElem?
    intro j
    rw [List.getElem?_set, ofB_get, ofB_get]
    by_cases hj : i = j
    · subst hj
      simp [h64, (ofB (l.take i)).h, hi]
    · rw [if_neg hj]
      by_cases h : j < 64
      · rw [if_pos h, if_pos h]
        simp only [List.getD, List.getElem?_take]
        by_cases h3 : j < i
        · rw [if_pos h3, if_pos (by omega)]
        · rw [if_neg h3, if_neg (by omega)]
      · rw [if_neg h, if_neg h]
  rw [Bk.cs, Bk.cs, ← e, List.map_set]
  simp
theorem ofB_full (l : List Int) (i : Nat) (hi : l.length ≤ i ∨ 64 ≤ i) : ofB (l.take i) = ofB l := by
  apply Bk.eq
  apply List.ext_getElem?
  intro j
  rw [ofB_get, ofB_get]
  by_cases h : j < 64
  · rw [if_pos h, if_pos h]
    simp only [List.getD, List.getElem?_take]
    by_cases h3 : j < i
    · rw [if_pos h3]
    · rw [if_neg h3, List.getElem?_eq_none (by omega)]
  · rw [if_neg h, if_neg h]
section
/-- The program's store: its struct at p, the blocks that last at gl, the last writes' map at gm, what waits at v. -/
structure SA (B : Nat) (w : World) (p gl gm : Nat) (v : Value) (L : List (Bk × Bool)) (W : List (Int × Bk)) : Prop where
  hp : w.heap[p]? = some (.cells #[.slice (some ⟨gl, 0, none⟩) L.length L.length, v, .map (some gm)] 78 (0, 0))
  hl : w.heap[gl]? = some (.cells (hcells L) 103 (0, 0))
  hw : Kd.R (Kd.raw 65) 100 w B (fun _ => True) v (W.map wrow)
  hm : ∃ m, MapAt w gm m ∧ ∀ k, lk m k = (lastOf W k).map Bk.v
  hB : B ≤ p ∧ B ≤ gl ∧ B ≤ gm
  hL : 1 ≤ L.length ∧ L.length ≤ 4096
  hW : W.length ≤ 4096 ∧ ∀ x ∈ W, 0 ≤ x.1 ∧ x.1 < L.length
def foot (p gl gm : Nat) (v : Value) (k : Nat) : Prop := k = p ∨ k = gl ∨ k = gm ∨ v.ownBlock = some k
/-- The document's store. -/
structure RA (B : Nat) (w : World) (p gl : Nat) (v : Value) (L : List (Bk × Bool)) (W : List (Int × Bk)) : Prop where
  hp : w.heap[p]? = some (.cells #[.slice (some ⟨gl, 0, none⟩) L.length L.length, v] 59 (0, 0))
  hl : w.heap[gl]? = some (.cells (hcells L) 94 (0, 0))
  hw : Kd.R (Kd.raw 65) 92 w B (fun _ => True) v (W.map wrow)
  hB : B ≤ p ∧ B ≤ gl
  hL : 1 ≤ L.length ∧ L.length ≤ 4096
  hW : W.length ≤ 4096 ∧ ∀ x ∈ W, 0 ≤ x.1 ∧ x.1 < L.length
def rfoot (p gl : Nat) (v : Value) (k : Nat) : Prop := k = p ∨ k = gl ∨ v.ownBlock = some k
variable {B : Nat} {w w' : World} {p gl gm : Nat} {v : Value} {L : List (Bk × Bool)} {W : List (Int × Bk)}
theorem SA.keep (h : SA B w p gl gm v L W) (hk : ∀ k, foot p gl gm v k → w'.heap[k]? = w.heap[k]?) : SA B w' p gl gm v L W := by
  obtain ⟨m, hm, hm2⟩ := h.hm
  exact ⟨(hk p (.inl rfl)).trans h.hp, (hk gl (.inr (.inl rfl))).trans h.hl, same_R h.hw (fun k e => hk k (.inr (.inr (.inr e)))), ⟨m, hm.same (hk gm (.inr (.inr (.inl rfl)))), hm2⟩, h.hB, h.hL, h.hW⟩
theorem RA.keep (h : RA B w p gl v L W) (hk : ∀ k, rfoot p gl v k → w'.heap[k]? = w.heap[k]?) : RA B w' p gl v L W :=
  ⟨(hk p (.inl rfl)).trans h.hp, (hk gl (.inr (.inl rfl))).trans h.hl, same_R h.hw (fun k e => hk k (.inr (.inr e))), h.hB, h.hL, h.hW⟩
theorem SA.base (h : SA B w p gl gm v L W) {k : Nat} (hk : foot p gl gm v k) : B ≤ k := by
  rcases hk with rfl | rfl | rfl | e
  · exact h.hB.1
  · exact h.hB.2.1
  · exact h.hB.2.2
  · rcases Kd.R_base2 h.hw with h2 | ⟨j, h2, h3⟩
    · rw [e] at h2; cases h2
    · rw [e] at h2; cases h2; exact h3
theorem RA.base (h : RA B w p gl v L W) {k : Nat} (hk : rfoot p gl v k) : B ≤ k := by
  rcases hk with rfl | rfl | e
  · exact h.hB.1
  · exact h.hB.2
  · rcases Kd.R_base2 h.hw with h2 | ⟨j, h2, h3⟩
    · rw [e] at h2; cases h2
    · rw [e] at h2; cases h2; exact h3
theorem own_type {n e B : Nat} {xs : List (List Value)} (h : Kd.R (Kd.raw n) e w B (fun _ => True) v xs) {k : Nat} (hk : v.ownBlock = some k) : ∃ cs, w.heap[k]? = some (.cells cs e (0, 0)) := by
  obtain ⟨inner, ho⟩ := Kd.R_own h
  exact own_typed ho k hk
theorem SA.far (h : SA B w p gl gm v L W) {g t : Nat} {cs : Array Value} {fr : Nat × Nat} (hg : w.heap[g]? = some (.cells cs t fr)) (ht : t ≠ 78 ∧ t ≠ 103 ∧ t ≠ 100) : ¬ foot p gl gm v g := by
  rintro (rfl | rfl | rfl | e)
  · rw [h.hp] at hg; injection hg with hg; injection hg with _ e; exact ht.1 e.symm
  · rw [h.hl] at hg; injection hg with hg; injection hg with _ e; exact ht.2.1 e.symm
  · obtain ⟨m, ⟨es, c, h1, _⟩, _⟩ := h.hm; rw [h1] at hg; injection hg with hg; cases hg
  · obtain ⟨cs', h1⟩ := own_type h.hw e; rw [h1] at hg; injection hg with hg; injection hg with _ e; exact ht.2.2 e.symm
theorem RA.far (h : RA B w p gl v L W) {g t : Nat} {cs : Array Value} {fr : Nat × Nat} (hg : w.heap[g]? = some (.cells cs t fr)) (ht : t ≠ 59 ∧ t ≠ 94 ∧ t ≠ 92) : ¬ rfoot p gl v g := by
  rintro (rfl | rfl | e)
  · rw [h.hp] at hg; injection hg with hg; injection hg with _ e; exact ht.1 e.symm
  · rw [h.hl] at hg; injection hg with hg; injection hg with _ e; exact ht.2.1 e.symm
  · obtain ⟨cs', h1⟩ := own_type h.hw e; rw [h1] at hg; injection hg with hg; injection hg with _ e; exact ht.2.2 e.symm
theorem SA.lt (h : SA B w p gl gm v L W) {k : Nat} (hk : foot p gl gm v k) : k < w.heap.size := by
  rcases hk with rfl | rfl | rfl | e
  · exact blk_lt h.hp
  · exact blk_lt h.hl
  · obtain ⟨m, hm, _⟩ := h.hm; exact hm.lt
  · obtain ⟨cs', h1⟩ := own_type h.hw e; exact blk_lt h1
theorem RA.lt (h : RA B w p gl v L W) {k : Nat} (hk : rfoot p gl v k) : k < w.heap.size := by
  rcases hk with rfl | rfl | e
  · exact blk_lt h.hp
  · exact blk_lt h.hl
  · obtain ⟨cs', h1⟩ := own_type h.hw e; exact blk_lt h1
theorem SA.below (h : SA B w p gl gm v L W) (hb : Below w.heap.size w w') : SA B w' p gl gm v L W := h.keep (fun k hk => hb.block k (h.lt hk))
theorem RA.below (h : RA B w p gl v L W) (hb : Below w.heap.size w w') : RA B w' p gl v L W := h.keep (fun k hk => hb.block k (h.lt hk))
/-- A store, its blocks told as one set. -/
def SAt (B : Nat) (w : World) (p : Nat) (F : Nat → Prop) (L : List (Bk × Bool)) (W : List (Int × Bk)) : Prop := ∃ gl gm v, SA B w p gl gm v L W ∧ F = foot p gl gm v
def RAt (B : Nat) (w : World) (p : Nat) (F : Nat → Prop) (L : List (Bk × Bool)) (W : List (Int × Bk)) : Prop := ∃ gl v, RA B w p gl v L W ∧ F = rfoot p gl v
end

theorem bk_info : (Try.prog.info? 46).map (·.size) = some 64 := by kernel_rfl
theorem bk_und : Try.prog.underlying 46 = some (.array 64 5) := by kernel_rfl
theorem bk_zero (w : World) : (zeroValue 46).run Try.prog w = .ok Bk.z.v w := by kernel_rfl
theorem rbk_info : (Try.prog.info? 45).map (·.size) = some 64 := by kernel_rfl
theorem rbk_und : Try.prog.underlying 45 = some (.array 64 5) := by kernel_rfl
theorem rbk_zero (w : World) : (zeroValue 45).run Try.prog w = .ok Bk.z.v w := by kernel_rfl
theorem mp_und : Try.prog.underlying 73 = some (.map 3 46) := by kernel_rfl
theorem int_und : Try.prog.underlying 3 = some (.int .i64) := by kernel_rfl

theorem w_built0 (parts : List (Nat × Value)) : Try.prog.built 100 parts = Instr.fill (fun i => #[(0, 1), (1, 64)][i]?) (wrow (0, Bk.z)).toArray parts := by kernel_rfl
theorem rw_built0 (parts : List (Nat × Value)) : Try.prog.built 92 parts = Instr.fill (fun i => #[(0, 1), (1, 64)][i]?) (wrow (0, Bk.z)).toArray parts := by kernel_rfl
theorem h_built0 (parts : List (Nat × Value)) : Try.prog.built 103 parts = Instr.fill (fun i => #[(0, 64), (64, 1)][i]?) (hrow (Bk.z, false)).toArray parts := by kernel_rfl
theorem rh_built0 (parts : List (Nat × Value)) : Try.prog.built 94 parts = Instr.fill (fun i => #[(0, 64), (64, 1)][i]?) (hrow (Bk.z, false)).toArray parts := by kernel_rfl
theorem fill_w (a : Int) (b : Bk) : Instr.fill (fun i => #[(0, 1), (1, 64)][i]?) (wrow (0, Bk.z)).toArray [(0, .int .i64 a), (1, b.v)] = some (wrow (a, b)).toArray := by
  have h1 := wrow_len (0, Bk.z)
  rw [fill_put (off := 0) (n := 1) (vs := [.int .i64 a]) rfl rfl rfl (by rw [List.size_toArray, h1]; omega), fill_put (off := 1) (n := 64) (vs := b.cs) rfl rfl b.len (by simp only [putAt, List.size_toArray, List.length_append, List.length_take, List.length_drop, Array.length_toList, List.length_singleton, h1]; omega), Instr.fill]
  have h2 : (wrow (0, Bk.z)).length ≤ 65 := by omega
  simp only [putAt, wrow, b.len]
  simp [Bk.len]
theorem fill_h (b : Bk) : Instr.fill (fun i => #[(0, 64), (64, 1)][i]?) (hrow (Bk.z, false)).toArray [(0, b.v)] = some (hrow (b, false)).toArray := by
  have h1 := hrow_len (Bk.z, false)
  rw [fill_put (off := 0) (n := 64) (vs := b.cs) rfl rfl b.len (by rw [List.size_toArray, h1]; omega), Instr.fill]
  simp only [putAt, hrow, b.len]
  simp [Bk.len]
theorem fill_t : Instr.fill (fun i => #[(0, 64), (64, 1)][i]?) (hrow (Bk.z, false)).toArray [(1, .bool true)] = some (hrow (Bk.z, true)).toArray := by
  have h1 := hrow_len (Bk.z, false)
  rw [fill_put (off := 64) (n := 1) (vs := [.bool true]) rfl rfl rfl (by rw [List.size_toArray, h1]; omega), Instr.fill]
  simp only [putAt, hrow]
  simp [Bk.len]
theorem run_w (W : World) (a : Int) (b : Bk) : (Instr.build 100 #[(0, .int .i64 a), (1, b.v)]).run Try.prog W = .ok (.agg (wrow (a, b)).toArray) W := run_build W _ _ _ ((w_built0 _).trans (fill_w a b))
theorem run_rw (W : World) (a : Int) (b : Bk) : (Instr.build 92 #[(0, .int .i64 a), (1, b.v)]).run Try.prog W = .ok (.agg (wrow (a, b)).toArray) W := run_build W _ _ _ ((rw_built0 _).trans (fill_w a b))
theorem run_h (W : World) (b : Bk) : (Instr.build 103 #[(0, b.v)]).run Try.prog W = .ok (.agg (hrow (b, false)).toArray) W := run_build W _ _ _ ((h_built0 _).trans (fill_h b))
theorem run_rh (W : World) (b : Bk) : (Instr.build 94 #[(0, b.v)]).run Try.prog W = .ok (.agg (hrow (b, false)).toArray) W := run_build W _ _ _ ((rh_built0 _).trans (fill_h b))
theorem run_ht (W : World) : (Instr.build 103 #[(1, .bool true)]).run Try.prog W = .ok (.agg (hrow (Bk.z, true)).toArray) W := run_build W _ _ _ ((h_built0 _).trans fill_t)
theorem run_rht (W : World) : (Instr.build 94 #[(1, .bool true)]).run Try.prog W = .ok (.agg (hrow (Bk.z, true)).toArray) W := run_build W _ _ _ ((rh_built0 _).trans fill_t)
theorem wrow_all (y : Int × Bk) : (wrow y).toArray.all (·.oneCell') = true := by
  rw [Array.all_eq_true_iff_forall_mem]
  intro x hx
  exact wrow_one y x (by simpa using hx)
theorem wrow_size (y : Int × Bk) : (wrow y).toArray.size = 65 := by rw [List.size_toArray, wrow_len]
theorem hrow_all (y : Bk × Bool) : (hrow y).toArray.all (·.oneCell') = true := by
  rw [Array.all_eq_true_iff_forall_mem]
  intro x hx
  exact hrow_one y x (by simpa using hx)
theorem hrow_size (y : Bk × Bool) : (hrow y).toArray.size = 65 := by rw [List.size_toArray, hrow_len]
theorem w_info : (Try.prog.info? 100).map (fun i => (i.zero, i.size, i.bytes)) = some (some (.agg (wrow (0, Bk.z)).toArray), 65, 72) := by kernel_rfl
theorem rw_info : (Try.prog.info? 92).map (fun i => (i.zero, i.size, i.bytes)) = some (some (.agg (wrow (0, Bk.z)).toArray), 65, 72) := by kernel_rfl
theorem w_isize : (Try.prog.info? 100).map (·.size) = some 65 := by kernel_rfl
theorem rw_isize : (Try.prog.info? 92).map (·.size) = some 65 := by kernel_rfl
theorem h_isize : (Try.prog.info? 103).map (·.size) = some 65 := by kernel_rfl
theorem rh_isize : (Try.prog.info? 94).map (·.size) = some 65 := by kernel_rfl
theorem run_bs (w : World) (t e : TypeId) (len : Nat) (parts : Array (Nat × Value)) (cells : Array Value) (ie : TypeInfo) (z : Value) (hu : Try.prog.underlying t = some (.slice e)) (hie : Try.prog.info? e = some ie) (hz : ie.zero = some z) (h1 : ¬ len * ie.size > 2 ^ 24) (h2 : ¬ len * ie.size = 0)
    (h : Instr.fill (fun i => some (i * ie.size, ie.size)) ((Array.range (len * ie.size)).map (z.cells[· % z.cells.size]!)) parts.toList = some cells) : (Instr.buildSlice t len parts).run Try.prog w = .ok (.slice (some ⟨w.heap.size, 0, none⟩) len len) (w.alloc (.cells cells e)) := by
  simp [Instr.buildSlice, run_underlying hu, sizeOf, typeInfo, zeroValue, hie, hz, h1, h2, h, newRow]
theorem run_one {t e : TypeId} (hu : Try.prog.underlying t = some (.slice e)) (hi : (Try.prog.info? e).map (fun i => (i.zero, i.size, i.bytes)) = some (some (.agg (wrow (0, Bk.z)).toArray), 65, 72)) (W : World) (y : Int × Bk) :
    (Instr.buildSlice t 1 #[(0, .agg (wrow y).toArray)]).run Try.prog W = .ok (.slice (some ⟨W.heap.size, 0, none⟩) 1 1) (W.alloc (.cells (wrow y).toArray e)) := by
  obtain ⟨i0, hi0, hz0, hsz0, _⟩ := info_parts hi
  have hfl : Instr.fill (fun i => some (i * 65, 65)) ((Array.range (1 * 65)).map ((wrow (0, Bk.z)).toArray[· % (wrow (0, Bk.z)).toArray.size]!)) [(0, .agg (wrow y).toArray)] = some (wrow y).toArray := by
    rw [fill_put (off := 0) (n := 65) (vs := wrow y) rfl rfl (wrow_len y) (by simp), Instr.fill]
    simp [putAt, wrow_len]
  exact run_bs W t e 1 _ _ i0 _ hu hi0 hz0 (by rw [hsz0]; omega) (by rw [hsz0]; omega) (by rw [hsz0]; exact hfl)
end Go.Proofs.Ytniadlnbjgodnaa.Print
