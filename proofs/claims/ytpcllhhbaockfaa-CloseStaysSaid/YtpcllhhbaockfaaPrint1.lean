-- written by this session's program wip/hybrid.py over the kit's printer, and by hand. Not trusted: Lean checks it.
import Derived.Test.YtpcllhhbaockfaaPrint0
namespace Go.Proofs.Ytpcllhhbaockfaa.Print
open Go.RowKit Go.Proofs.YtpcllhhbaockfaaW.PrintWords Go.Proofs.YtpcllhhbaockfaaW.PrintLast Go.Proofs.YtpcllhhbaockfaaW.PrintMore
attribute [local go_sem] max2_int min2_int max_two min_two max_three min_three max_four min_four   -- for this text's walks alone
set_option linter.unusedVariables false
set_option linter.unusedSimpArgs false

/-! ### maps with whole numbers as keys, told as lists of pairs (by this session) -/
def lk (m : List (Int × Value)) (k : Int) : Option Value := (m.find? (fun p => p.1 == k)).map (·.2)
def upd : List (Int × Value) → Int → Value → List (Int × Value)
  | [], k, v => [(k, v)]
  | (a, b) :: t, k, v => if a = k then (a, v) :: t else (a, b) :: upd t k v
def MapAt (w : World) (g : Nat) (m : List (Int × Value)) : Prop :=
  ∃ es clock, w.heap[g]? = some (.map es clock) ∧ es.toList.map (fun e => (e.key, e.val)) = m.map (fun p => (Value.int .i64 p.1, p.2))
theorem MapAt.keys {w : World} {es : Array MapEntry} {m : List (Int × Value)} (h : es.toList.map (fun e => (e.key, e.val)) = m.map (fun p => (Value.int .i64 p.1, p.2))) :
    ∀ x ∈ es.toList, MapKept.IsKey (.int .i64) x.key := by
  intro x hx
  have : (x.key, x.val) ∈ es.toList.map (fun e => (e.key, e.val)) := List.mem_map_of_mem hx
  rw [h, List.mem_map] at this
  obtain ⟨p, _, e⟩ := this
  have := (Prod.mk.inj e).1
  rw [← this]
  rfl
theorem MapAt.find {m : List (Int × Value)} (k : Int) : ∀ (es : List MapEntry) (i : Nat), es.map (fun e => (e.key, e.val)) = m.map (fun p => (Value.int .i64 p.1, p.2)) →
    (lk m k = none → Instr.findNow (.int .i64) (.int .i64 k) es i = some none) ∧ (∀ v, lk m k = some v → ∃ j e, Instr.findNow (.int .i64) (.int .i64 k) es i = some (some (i + j, v)) ∧ es[j]? = some e ∧ e.key = .int .i64 k ∧
      ∀ u, (es.modify j (fun e => { e with key := .int .i64 k, val := u })).map (fun e => (e.key, e.val)) = (upd m k u).map (fun p => (Value.int .i64 p.1, p.2))) := by
  induction m with
  | nil =>
    intro es i h
    obtain rfl : es = [] := by simpa using h
    exact ⟨fun _ => rfl, fun v hv => by simp [lk] at hv⟩
  | cons p t ih =>
    intro es i h
    obtain ⟨a, b⟩ := p
    cases es with
    | nil => simp at h
    | cons e es =>
      simp only [List.map_cons, List.cons.injEq, Prod.mk.injEq] at h
      obtain ⟨⟨hk, hv⟩, ht⟩ := h
      have ih' := ih es (i + 1) ht
      by_cases c : a = k
      · subst c
        have hl : lk ((a, b) :: t) a = some b := by simp [lk]
        refine ⟨fun hn => (by rw [hl] at hn; cases hn), fun v hv' => ?_⟩
        rw [hl] at hv'
        obtain rfl := Option.some.inj hv'
        refine ⟨0, e, by simp [Instr.findNow, Instr.sameNow, hk, hv], rfl, hk, fun u => ?_⟩
        simp [upd, ht]
      · have hl : lk ((a, b) :: t) k = lk t k := by simp [lk, c]
        have hs : Instr.sameNow (.int .i64) (.int .i64 k) e.key = some false := by
          rw [hk]; simp [Instr.sameNow]; exact fun z => c z.symm
        refine ⟨fun hn => ?_, fun v hv' => ?_⟩
        · rw [hl] at hn
          simp [Instr.findNow, hs, ih'.1 hn]
        · rw [hl] at hv'
          obtain ⟨j, e', h1, h2, h3, h4⟩ := ih'.2 v hv'
          refine ⟨j + 1, e', by simp [Instr.findNow, hs, h1]; omega, by simpa using h2, h3, fun u => ?_⟩
          have := h4 u
          simp only [upd, if_neg c, List.map_cons, List.modify_succ_cons, List.cons.injEq]
          exact ⟨by rw [hk, hv], this⟩
theorem upd_new {m : List (Int × Value)} {k : Int} (h : lk m k = none) (v : Value) : upd m k v = m ++ [(k, v)] := by
  induction m with
  | nil => rfl
  | cons p t ih =>
    obtain ⟨a, b⟩ := p
    by_cases c : a = k
    · subst c; simp [lk] at h
    · simp [upd, c]; exact ih (by simpa [lk, c] using h)
theorem lk_upd_same (m : List (Int × Value)) (k : Int) (v : Value) : lk (upd m k v) k = some v := by
  induction m with
  | nil => simp [upd, lk]
  | cons p t ih =>
    obtain ⟨a, b⟩ := p
    by_cases c : a = k
    · simp [upd, c, lk]
    · simp only [upd, if_neg c]; simpa [lk, c] using ih
theorem lk_upd_other (m : List (Int × Value)) (k j : Int) (v : Value) (h : j ≠ k) : lk (upd m k v) j = lk m j := by
  induction m with
  | nil => simp [upd, lk]; exact fun z => h z.symm
  | cons p t ih =>
    obtain ⟨a, b⟩ := p
    by_cases c : a = k
    · subst c
      have : (a == j) = false := by simpa using fun z => h z.symm
      simp [upd, lk, this]
    · by_cases e : a = j
      · subst e; simp [upd, c, lk]
      · simp only [upd, if_neg c]; simpa [lk, e] using ih
section
variable {P : Program} {w : World} {g : Nat} {m : List (Int × Value)} {mt kt et : TypeId}
theorem MapAt.lookup_none (hm : P.underlying mt = some (.map kt et)) (hd : P.underlying kt = some (.int .i64)) (h : MapAt w g m) {k : Int} (hk : lk m k = none) {z : Value} (hz : (zeroValue et).run P w = .ok z w) (ok : Bool) :
    (Instr.lookup mt (.map (some g)) (.int .i64 k) ok).run P w = .ok (if ok then .tuple #[z, .bool false] else z) w := by
  obtain ⟨es, c, hb, he⟩ := h
  have h1 := (MapAt.find k es.toList 0 he).1 hk
  simp [Instr.lookup, run_underlying hm, MapKept.run_getObj_map hb, MapKept.run_checkKey hd (k := .int .i64 k) rfl, MapKept.run_findKey hd h1, hz, Result.andThen]
theorem MapAt.lookup_some (hm : P.underlying mt = some (.map kt et)) (hd : P.underlying kt = some (.int .i64)) (h : MapAt w g m) {k : Int} {v : Value} (hk : lk m k = some v) (ok : Bool) :
    (Instr.lookup mt (.map (some g)) (.int .i64 k) ok).run P w = .ok (if ok then .tuple #[v, .bool true] else v) w := by
  obtain ⟨es, c, hb, he⟩ := h
  obtain ⟨j, e, h1, _⟩ := (MapAt.find k es.toList 0 he).2 v hk
  simp [Instr.lookup, run_underlying hm, MapKept.run_getObj_map hb, MapKept.run_checkKey hd (k := .int .i64 k) rfl, MapKept.run_findKey hd h1, Result.andThen]
/-- Only block g's object differs. -/
def World.putMap (w w' : World) (g : Nat) : Prop := ∃ o, w' = { w with heap := w.heap.setIfInBounds g o }
theorem World.putMap.size {w w' : World} {g : Nat} (h : World.putMap w w' g) : w'.heap.size = w.heap.size := by obtain ⟨o, rfl⟩ := h; simp
theorem World.putMap.block {w w' : World} {g : Nat} (h : World.putMap w w' g) (k : Nat) (hk : k ≠ g) : w'.heap[k]? = w.heap[k]? := by obtain ⟨o, rfl⟩ := h; simp [Ne.symm hk]
theorem World.putMap.below {w0 w w' : World} {g B : Nat} (h : World.putMap w w' g) (hB : Below B w0 w) (hg : B ≤ g) : Below B w0 w' := by
  obtain ⟨o, rfl⟩ := h
  exact hB.trans ⟨rfl, rfl, rfl, by simp, fun k hk => by simp [Ne.symm (show k ≠ g by omega)]⟩
theorem World.putMap.cell {w w' : World} {g : Nat} (h : World.putMap w w' g) (a : Addr) (ha : a.block ≠ g) : w'.cell? a = w.cell? a := by
  have := h.block a.block ha
  simp only [World.cell?, this]
theorem World.putMap.frozen {w w' : World} {g : Nat} (h : World.putMap w w' g) (a : Addr) (ha : a.block ≠ g) : w'.frozen? a = w.frozen? a := by
  have := h.block a.block ha
  simp only [World.frozen?, this]
theorem MapAt.update (hm : P.underlying mt = some (.map kt et)) (hd : P.underlying kt = some (.int .i64)) (h : MapAt w g m) (k : Int) (v : Value) :
    ∃ w', (Instr.mapUpdate mt (.map (some g)) (.int .i64 k) v).run P w = .ok () w' ∧ MapAt w' g (upd m k v) ∧ World.putMap w w' g := by
  obtain ⟨es, c, hb, he⟩ := h
  cases hl : lk m k with
  | none =>
    have h1 := (MapAt.find k es.toList 0 he).1 hl
    refine ⟨_, by simp [Instr.mapUpdate, run_underlying hm, MapKept.run_getObj_map hb, MapKept.run_checkKey hd (k := .int .i64 k) rfl, MapKept.run_findKey hd h1, MapKept.run_setObj_map _ hb, Result.andThen]; rfl, ?_, ⟨_, rfl⟩⟩
    refine ⟨_, _, (MapKept.heap_set hb).1, ?_⟩
    rw [upd_new hl]
    simp [he]
  | some v0 =>
    obtain ⟨j, e, h1, h2, h3, h4⟩ := (MapAt.find k es.toList 0 he).2 v0 hl
    have hj : es[j]? = some e := by simpa using h2
    rw [Nat.zero_add] at h1
    refine ⟨_, by simp [Instr.mapUpdate, run_underlying hm, MapKept.run_getObj_map hb, MapKept.run_checkKey hd (k := .int .i64 k) rfl, MapKept.run_findKey hd h1, hj, h3, MapKept.run_keyThatStays (d := .int .i64) (k := .int .i64 k) rfl, MapKept.run_setObj_map _ hb, Result.andThen]; rfl, ?_, ⟨_, rfl⟩⟩
    refine ⟨_, _, (MapKept.heap_set hb).1, ?_⟩
    simpa using h4 v
theorem MapAt.made (w : World) : MapAt (w.alloc (.map #[] 0)) w.heap.size [] := ⟨#[], 0, (MapKept.heap_alloc w _).1, rfl⟩
theorem MapAt.below {w1 : World} (h : MapAt w g m) (hb : Below w.heap.size w w1) : MapAt w1 g m := by
  obtain ⟨es, c, h1, h2⟩ := h
  exact ⟨es, c, (hb.block g (Array.getElem?_eq_some_iff.1 h1).1).trans h1, h2⟩
theorem MapAt.lt (h : MapAt w g m) : g < w.heap.size := by
  obtain ⟨es, c, h1, h2⟩ := h
  exact (Array.getElem?_eq_some_iff.1 h1).1
theorem MapAt.same {w1 : World} (h : MapAt w g m) (hb : w1.heap[g]? = w.heap[g]?) : MapAt w1 g m := by
  obtain ⟨es, c, h1, h2⟩ := h
  exact ⟨es, c, hb.trans h1, h2⟩
end
section
variable {P : Program} {w : World} {ops : Array Oper} {rest : List Oper} {o : Oper} {a : Act} {Q : Exit → Act → World → Prop} {g : Nat} {l : List (Int × Value)}
theorem wpList_insert_map (hg : o.guard = none) (t : TypeId) (m x v : Operand) (hop : o.op = Op.insert t m x v) {k e : TypeId} (ht : P.underlying t = some (.map k e)) (hd : P.underlying k = some (.int .i64)) (key : Int)
    (hm : a.eval m = .map (some g)) (hx : a.eval x = .int .i64 key) (hmap : MapAt w g l) (hK : ∀ w', MapAt w' g (upd l key (a.eval v)) → World.putMap w w' g → wpList P ops Q rest (a.put o.dst undef) w') : wpList P ops Q (o :: rest) a w := by
  refine wpList_plain hg fun K' hK' => ?_
  obtain ⟨w', hrun, r1, r2⟩ := hmap.update ht hd key (a.eval v)
  unfold Oper.wp
  simp [execOp, hop, hm, hx, hrun, Result.andThen]
  exact hK' _ _ (hK w' r1 r2)
theorem wpList_mapUpdate_map (hg : o.guard = none) (t : TypeId) (m x v : Operand) (hop : o.op = Op.mapUpdate t m x v) {k e : TypeId} (ht : P.underlying t = some (.map k e)) (hd : P.underlying k = some (.int .i64)) (key : Int)
    (hm : a.eval m = .map (some g)) (hx : a.eval x = .int .i64 key) (hmap : MapAt w g l) (hK : ∀ w', MapAt w' g (upd l key (a.eval v)) → World.putMap w w' g → wpList P ops Q rest (a.put o.dst undef) w') : wpList P ops Q (o :: rest) a w := by
  refine wpList_plain hg fun K' hK' => ?_
  obtain ⟨w', hrun, r1, r2⟩ := hmap.update ht hd key (a.eval v)
  unfold Oper.wp
  simp [execOp, hop, hm, hx, hrun, Result.andThen]
  exact hK' _ _ (hK w' r1 r2)
theorem wpList_lookup_some (hg : o.guard = none) (t : TypeId) (m x : Operand) (ok : Bool) (hop : o.op = Op.lookup t m x ok) {k e : TypeId} (ht : P.underlying t = some (.map k e)) (hd : P.underlying k = some (.int .i64)) (key : Int)
    (hm : a.eval m = .map (some g)) (hx : a.eval x = .int .i64 key) (hmap : MapAt w g l) {v : Value} (hl : lk l key = some v) (hK : wpList P ops Q rest (a.put o.dst (if ok then .tuple #[v, .bool true] else v)) w) : wpList P ops Q (o :: rest) a w := by
  refine wpList_plain hg fun K' hK' => ?_
  have hrun := hmap.lookup_some ht hd hl ok
  unfold Oper.wp
  simp [execOp, hop, hm, hx, hrun, Result.andThen]
  exact hK' _ _ hK
theorem wpList_lookup_none (hg : o.guard = none) (t : TypeId) (m x : Operand) (ok : Bool) (hop : o.op = Op.lookup t m x ok) {k e : TypeId} (ht : P.underlying t = some (.map k e)) (hd : P.underlying k = some (.int .i64)) (key : Int)
    (hm : a.eval m = .map (some g)) (hx : a.eval x = .int .i64 key) (hmap : MapAt w g l) (hl : lk l key = none) {z : Value} (hz : (zeroValue e).run P w = .ok z w) (hK : wpList P ops Q rest (a.put o.dst (if ok then .tuple #[z, .bool false] else z)) w) : wpList P ops Q (o :: rest) a w := by
  refine wpList_plain hg fun K' hK' => ?_
  have hrun := hmap.lookup_none ht hd hl hz ok
  unfold Oper.wp
  simp [execOp, hop, hm, hx, hrun, Result.andThen]
  exact hK' _ _ hK
end
section
variable {P : Program} {w : World} {ops : Array Oper} {o : Oper} {a : Act} {K : Act → World → Prop} {Q : Exit → Act → World → Prop} {E : Prop} {g : Nat} {l : List (Int × Value)}
theorem step_mapUpdate_map (hgd : o.guard = none) (t : TypeId) (m x v : Operand) (hop : o.op = Op.mapUpdate t m x v) {k e : TypeId} (ht : P.underlying t = some (.map k e)) (hd : P.underlying k = some (.int .i64)) (key : Int)
    (hm : a.eval m = .map (some g)) (hx : a.eval x = .int .i64 key) (hmap : MapAt w g l) (hK : ∀ w', MapAt w' g (upd l key (a.eval v)) → World.putMap w w' g → K (a.put o.dst undef) w') :
    if Region.wanted o (yielded ops a.tmps) = true then Oper.wp P o a w K Q else E := by
  have hw : Region.wanted o (yielded ops a.tmps) = true := by simp [Region.wanted, hgd]
  rw [if_pos hw]
  obtain ⟨w', hrun, r1, r2⟩ := hmap.update ht hd key (a.eval v)
  unfold Oper.wp
  simp [execOp, hop, hm, hx, hrun, Result.andThen]
  exact hK w' r1 r2
end
/-- A map of rows of whole numbers, each row the call's own; no two rows lie in one block. -/
structure Grp (w : World) (base e g : Nat) (val : Int → Value) (xs : Int → List Int) : Prop where
  map : ∃ m, MapAt w g m ∧ ∀ a, (lk m a).getD (.slice none 0 0) = val a
  own : ∀ a, w.ownsRow base e 1 (val a) (xs a).length ((xs a).map (Value.int .i64))
  far : ∀ a b, a ≠ b → ∀ k, (val a).ownBlock = some k → (val b).ownBlock ≠ some k
theorem Grp.made (w : World) (e : Nat) : Grp (w.alloc (.map #[] 0)) (w.heap.size + 1) e w.heap.size (fun _ => .slice none 0 0) (fun _ => []) :=
  ⟨⟨[], MapAt.made w, fun _ => rfl⟩, fun _ => World.ownsRow_nil _ _ _ _, fun _ _ _ k h => by simp [Value.ownBlock] at h⟩
theorem Grp.below {w w1 : World} {base e g : Nat} {val : Int → Value} {xs : Int → List Int} (h : Grp w base e g val xs) (hb : Below w.heap.size w w1) : Grp w1 base e g val xs := by
  obtain ⟨⟨m, h1, h2⟩, h3, h4⟩ := h
  exact ⟨⟨m, h1.below hb, h2⟩, fun a => own_move (h3 a) (fun k hk => hb.block k (own_lt (h3 a) k hk)), h4⟩
def fset {α : Type} (f : Int → α) (a : Int) (x : α) : Int → α := fun b => if b = a then x else f b
/-- Below H the heap is as it was, but for one block. -/
def Near (W : World) (b : Option Nat) (x : World) : Prop := W.heap.size ≤ x.heap.size ∧ ∀ k, k < W.heap.size → some k ≠ b → x.heap[k]? = W.heap[k]?
theorem Near.refl (W : World) (b : Option Nat) : Near W b W := ⟨Nat.le_refl _, fun _ _ _ => rfl⟩
theorem Near.drew {W : World} {b : Option Nat} {x : World} (h : Near W b x) : Near W b x.drew := h
theorem Near.drewN {W : World} {b : Option Nat} {x : World} (h : Near W b x) (n : Nat) : Near W b (x.drewN n) := h
theorem Near.alloc {W : World} {b : Option Nat} {x : World} (h : Near W b x) (o : Obj) : Near W b (x.alloc o) :=
  ⟨by have := h.1; simp; omega, fun k hk hb => (Below.heap_alloc x o k (by have := h.1; omega)).trans (h.2 k hk hb)⟩
theorem Near.grown {W : World} {b : Option Nat} {x y : World} (h : Near W b x) (hg : x.grownBy y b) : Near W b y :=
  ⟨Nat.le_trans h.1 hg.size, fun k hk hb => (hg.block k (by have := h.1; omega) hb).trans (h.2 k hk hb)⟩
theorem Grp.put {w w1 w2 : World} {base e g cap gg : Nat} {a n : Int} {val : Int → Value} {xs : Int → List Int} (h : Grp w base e g val xs) (hgb : g < base) {u : Value} (hu : u = .slice (some ⟨gg, 0, none⟩) ((xs a).length + 1) cap)
    (hown : w1.ownsRow base e 1 u ((xs a).length + 1) ((xs a).map (Value.int .i64) ++ [.int .i64 n])) (hgrow : Near w (val a).ownBlock w1) (hat : (val a).ownBlock = some gg ∨ w.heap.size ≤ gg)
    {m : List (Int × Value)} (hm : MapAt w2 g (upd m a u)) (hput : World.putMap w1 w2 g) (hmv : ∀ b, (lk m b).getD (.slice none 0 0) = val b) :
    Grp w2 base e g (fset val a u) (fset xs a (xs a ++ [n])) := by
  have hub : u.ownBlock = some gg := by rw [hu]; rfl
  refine ⟨⟨_, hm, fun b => ?_⟩, fun b => ?_, fun b c hbc k hk => ?_⟩
  · unfold fset
    by_cases c : b = a
    · subst c; rw [lk_upd_same, if_pos rfl]; rfl
    · rw [lk_upd_other _ _ _ _ c, if_neg c]; exact hmv b
  · unfold fset
    by_cases c : b = a
    · subst c
      rw [if_pos rfl, if_pos rfl]
      have : (xs b ++ [n]).length = (xs b).length + 1 := by simp
      rw [this, List.map_append]
      exact own_move hown (fun k hk => hput.block k (fun e => by
        have := own_base hown k hk
        omega))
    · rw [if_neg c, if_neg c]
      have hb := h.own b
      have h1 : w1.ownsRow base e 1 (val b) (xs b).length ((xs b).map (Value.int .i64)) := own_move hb (fun k hk => hgrow.2 k (own_lt hb k hk) (fun e => h.far b a c k hk e.symm))
      exact own_move h1 (fun k hk => hput.block k (fun e => by
        have := own_base h1 k hk
        omega))
  · unfold fset at hk ⊢
    by_cases cb : b = a
    · rw [if_pos cb, hub] at hk
      obtain rfl := Option.some.inj hk
      have cc : c ≠ a := fun e => hbc (cb.trans e.symm)
      rw [if_neg cc]
      intro hc
      rcases hat with hat | hat
      · exact h.far a c (Ne.symm cc) gg hat hc
      · have := own_lt (h.own c) gg hc
        omega
    · rw [if_neg cb] at hk
      by_cases cc : c = a
      · rw [if_pos cc, hub]
        intro e
        obtain rfl := Option.some.inj e
        rcases hat with hat | hat
        · exact h.far b a cb gg hk hat
        · have := own_lt (h.own b) gg hk
          omega
      · rw [if_neg cc]
        exact h.far b c hbc k hk
theorem Grp.look {P : Program} {w : World} {base e g : Nat} {val : Int → Value} {xs : Int → List Int} {mt kt et : TypeId} (h : Grp w base e g val xs) (hm : P.underlying mt = some (.map kt et)) (hd : P.underlying kt = some (.int .i64)) (hz : (zeroValue et).run P w = .ok (.slice none 0 0) w) (a : Int) :
    (Instr.lookup mt (.map (some g)) (.int .i64 a) false).run P w = .ok (val a) w := by
  obtain ⟨⟨m, hm1, hv⟩, _, _⟩ := h
  have := hv a
  cases hl : lk m a with
  | none => rw [hl] at this; rw [← this]; exact hm1.lookup_none hm hd hl hz false
  | some v => rw [hl] at this; rw [← this]; exact hm1.lookup_some hm hd hl false
theorem Grp.near {w x : World} {base e g : Nat} {val : Int → Value} {xs : Int → List Int} (h : Grp w base e g val xs) {m : List (Int × Value)} (hm : MapAt w g m) (hg : g < base) {a : Int} (hn : Near w (val a).ownBlock x) : MapAt x g m :=
  hm.same (hn.2 g hm.lt (fun e => by have := own_base (h.own a) g e.symm; omega))
/-- The world behind a store into a map. -/
def mput (P : Program) (mt : TypeId) (w : World) (g : Nat) (k : Int) (v : Value) : World :=
  match (Instr.mapUpdate mt (.map (some g)) (.int .i64 k) v).run P w with
  | .ok _ x => x
  | _ => w
theorem MapAt.update' {P : Program} {w : World} {g : Nat} {m : List (Int × Value)} {mt kt et : TypeId} (hm : P.underlying mt = some (.map kt et)) (hd : P.underlying kt = some (.int .i64)) (h : MapAt w g m) (k : Int) (v : Value) :
    (Instr.mapUpdate mt (.map (some g)) (.int .i64 k) v).run P w = .ok () (mput P mt w g k v) ∧ MapAt (mput P mt w g k v) g (upd m k v) ∧ World.putMap w (mput P mt w g k v) g := by
  obtain ⟨w', h1, h2, h3⟩ := h.update hm hd k v
  have e : mput P mt w g k v = w' := by
    unfold mput
    rw [h1]
  rw [e]
  exact ⟨h1, h2, h3⟩
/-- What a lookup gives in a world. -/
def lookV (P : Program) (mt : TypeId) (w : World) (g : Nat) (k : Int) : Value :=
  match (Instr.lookup mt (.map (some g)) (.int .i64 k) false).run P w with
  | .ok v _ => v
  | _ => undef
theorem lookV_of {P : Program} {mt : TypeId} {w : World} {g : Nat} {k : Int} {v : Value} (h : (Instr.lookup mt (.map (some g)) (.int .i64 k) false).run P w = .ok v w) :
    (Instr.lookup mt (.map (some g)) (.int .i64 k) false).run P w = .ok (lookV P mt w g k) w ∧ lookV P mt w g k = v := by
  have e : lookV P mt w g k = v := by unfold lookV; rw [h]
  rw [e]; exact ⟨h, rfl⟩
theorem Grp.keyed {P : Program} {w x : World} {base e g : Nat} {val : Int → Value} {xs : Int → List Int} {mt kt et : TypeId} (h : Grp w base e g val xs) {m : List (Int × Value)} (hm : MapAt w g m) (hv : ∀ b, (lk m b).getD (.slice none 0 0) = val b) (hg : g < base)
    (hu : P.underlying mt = some (.map kt et)) (hd : P.underlying kt = some (.int .i64)) (hz : ∀ y, (zeroValue et).run P y = .ok (.slice none 0 0) y) (a : Int) (hn : Near w (val a).ownBlock x) :
    (Instr.lookup mt (.map (some g)) (.int .i64 a) false).run P x = .ok (val a) x := by
  have hm' := h.near hm hg hn
  have := hv a
  cases hl : lk m a with
  | none => rw [hl] at this; rw [← this]; exact hm'.lookup_none hu hd hl (hz _) false
  | some v => rw [hl] at this; rw [← this]; exact hm'.lookup_some hu hd hl false
theorem MapAt.looked {P : Program} {w : World} {g : Nat} {m : List (Int × Value)} {mt kt et : TypeId} (hm : P.underlying mt = some (.map kt et)) (hd : P.underlying kt = some (.int .i64)) (hz : ∀ y, (zeroValue et).run P y = .ok (.slice none 0 0) y) (h : MapAt w g m) (k : Int) :
    (Instr.lookup mt (.map (some g)) (.int .i64 k) false).run P w = .ok (lookV P mt w g k) w := by
  cases hl : lk m k with
  | none => exact (lookV_of (h.lookup_none hm hd hl (hz _) false)).1
  | some v => exact (lookV_of (h.lookup_some hm hd hl false)).1

/-! ### maps from whole numbers to whole numbers, told as functions (by this session; behind MapI) -/
def IMap (w : World) (g : Nat) (f : Int → Int) : Prop := ∃ m, MapAt w g m ∧ ∀ b, (lk m b).getD (.int .i64 0) = .int .i64 (f b)
theorem IMap.made (w : World) : IMap (w.alloc (.map #[] 0)) w.heap.size (fun _ => 0) := ⟨[], MapAt.made w, fun _ => rfl⟩
theorem IMap.below {w w1 : World} {g : Nat} {f : Int → Int} (h : IMap w g f) (hb : Below w.heap.size w w1) : IMap w1 g f := by
  obtain ⟨m, h1, h2⟩ := h
  exact ⟨m, h1.below hb, h2⟩
theorem IMap.same {w w1 : World} {g : Nat} {f : Int → Int} (h : IMap w g f) (hb : w1.heap[g]? = w.heap[g]?) : IMap w1 g f := by
  obtain ⟨m, h1, h2⟩ := h
  exact ⟨m, h1.same hb, h2⟩
theorem IMap.lt {w : World} {g : Nat} {f : Int → Int} (h : IMap w g f) : g < w.heap.size := by
  obtain ⟨m, h1, h2⟩ := h
  exact h1.lt
theorem IMap.look {P : Program} {w : World} {g : Nat} {f : Int → Int} {mt kt et : TypeId} (hm : P.underlying mt = some (.map kt et)) (hd : P.underlying kt = some (.int .i64)) (hz : ∀ y, (zeroValue et).run P y = .ok (.int .i64 0) y) (h : IMap w g f) (k : Int) :
    (Instr.lookup mt (.map (some g)) (.int .i64 k) false).run P w = .ok (.int .i64 (f k)) w := by
  obtain ⟨m, h1, h2⟩ := h
  have h3 := h2 k
  cases hl : lk m k with
  | none => rw [hl] at h3; rw [← h3]; exact h1.lookup_none hm hd hl (hz _) false
  | some v => rw [hl] at h3; rw [← h3]; exact h1.lookup_some hm hd hl false
theorem IMap.put {P : Program} {w : World} {g : Nat} {f : Int → Int} {mt kt et : TypeId} (hm : P.underlying mt = some (.map kt et)) (hd : P.underlying kt = some (.int .i64)) (h : IMap w g f) (k n : Int) :
    (Instr.mapUpdate mt (.map (some g)) (.int .i64 k) (.int .i64 n)).run P w = .ok () (mput P mt w g k (.int .i64 n)) ∧ IMap (mput P mt w g k (.int .i64 n)) g (fset f k n) ∧ World.putMap w (mput P mt w g k (.int .i64 n)) g := by
  obtain ⟨m, h1, h2⟩ := h
  obtain ⟨q1, q2, q3⟩ := h1.update' hm hd k (.int .i64 n)
  refine ⟨q1, ⟨_, q2, fun b => ?_⟩, q3⟩
  unfold fset
  by_cases c : b = k
  · subst c; rw [if_pos rfl, lk_upd_same]; rfl
  · rw [if_neg c, lk_upd_other _ _ _ _ c]; exact h2 b

/-- A row of whole numbers that lies whole in a block can be read (by this session). -/
theorem C_lit64 {w : World} {g e : Nat} {fr : Nat × Nat} {cs : Array Value} (xs : List Int) (hb : w.heap[g]? = some (.cells cs e fr)) (hcs : cs = (xs.map (Value.int .i64)).toArray) (hm : xs.length ≤ 9223372036854775807) : Kd.C (Kd.int .i64) w (some ⟨g, 0, none⟩) xs.length xs := by
  subst hcs
  refine ⟨rfl, hm, fun _ => ⟨⟨g, 0, none⟩, rfl, fun j p hj => ?_⟩⟩
  refine ⟨[.int .i64 p], rfl, rfl, fun i u hi => ?_⟩
  have hi0 : i = 0 := by
    cases i with
    | zero => rfl
    | succ i => simp at hi
  subst hi0
  have hu : u = .int .i64 p := by simpa using hi.symm
  subst hu
  have hj' := (List.getElem?_eq_some_iff.1 hj)
  have hadd : (⟨g, 0, none⟩ : Addr).add (j * (Kd.int .i64).sz + 0) = ⟨g, j, none⟩ := by
    have : (Kd.int .i64).sz = 1 := rfl
    rw [this]; unfold Addr.add; split <;> simp_all
  rw [hadd, cell_of_row w g j _ e fr hb]
  simp [hj]

/-- A store of a whole variable of a block of its own. -/
theorem store_rowTo {P : Program} {ops : Array Oper} {rest : List Oper} {o : Oper} {a : Act} {w : World} {Q : Exit → Act → World → Prop} (hgd : o.guard = none) (ty : TypeId) (x y : Operand) (ho : o.op = .store ty x y)
    (hd : o.dst = none) (g : Nat) (cells : Array Value) (hx : a.eval x = .pointer (some ⟨g, 0, none⟩)) (hy : a.eval y = .agg cells)
    (t : TypeId) (old : Array Value) (hg : w.heap[g]? = some (.cells old t (0, 0))) (hi : (P.info? ty).map (·.size) = some cells.size)
    (hold : old.size = cells.size) (h1 : cells.all (·.oneCell') = true)
    (h : wpList P ops Q rest a (w.setRow g cells)) : wpList P ops Q (o :: rest) a w :=
  wpList_store_row hgd ty x y ho g cells hx hy t old hg hi hold h1 (by rw [hd]; exact h)
theorem row_below {B g : Nat} {w0 w : World} (hb : Below B w0 w) (hBg : B ≤ g) (cs : Array Value) : Below B w0 (w.setRow g cs) :=
  hb.trans ⟨rfl, rfl, rfl, by simp, fun k hk => setRow_other w g k cs (by omega)⟩
/-! ### arrays: equality, a store of the whole (by this session) -/
theorem eqi_cons {P : Program} {d e c j : Nat} {js : List Nat} {xs ys : Array Value} {a b : Value} {r s : Bool} {w : World} (ha : (part e xs (j * c)).run P w = .ok a w) (hb : (part e ys (j * c)).run P w = .ok b w) (he : (Op.equalIn d e a b).run P w = .ok r w) (hr : (Op.eqItems d e c xs ys js).run P w = .ok s w) : (Op.eqItems d e c xs ys (j :: js)).run P w = .ok (r && s) w := by
  simp only [Op.eqItems, Sem.run_bind, ha, hb, he, Result.andThen_ok]
  cases r
  · simp
  · simpa using hr
theorem eqi_last {P : Program} {d e c j : Nat} {xs ys : Array Value} {a b : Value} {r : Bool} {w : World} (ha : (part e xs (j * c)).run P w = .ok a w) (hb : (part e ys (j * c)).run P w = .ok b w) (he : (Op.equalIn d e a b).run P w = .ok r w) : (Op.eqItems d e c xs ys [j]).run P w = .ok r w := by
  have := eqi_cons (c := c) (js := []) (s := true) ha hb he (by simp [Op.eqItems])
  rwa [Bool.and_true] at this
theorem eqA_arr {P : Program} {d t e n c : Nat} {xs ys : Array Value} {r : Bool} {w : World} (hu : P.underlying t = some (.array n e)) (hi : (P.info? e).isSome = true) (hc : P.cellsOf e = c) (h : (Op.eqItems d e c xs ys (List.range n)).run P w = .ok r w) : (Op.equalIn (d + 1) t (.agg xs) (.agg ys)).run P w = .ok r w := by
  obtain ⟨i, hi⟩ := Option.isSome_iff_exists.1 hi
  rw [run_equalIn_array w d xs ys hu hi, hc]; exact h
/-- A store of a whole row, as one step of a region. -/
theorem store_run {P : Program} {o : Oper} {ev : Operand → Value} {w : World} (ty : TypeId) (x y : Operand) (ho : o.op = .store ty x y) (g : Nat) (cells : Array Value) (hx : ev x = .pointer (some ⟨g, 0, none⟩)) (hy : ev y = .agg cells)
    (t : TypeId) (old : Array Value) (hg : w.heap[g]? = some (.cells old t (0, 0))) (hi : (P.info? ty).map (·.size) = some cells.size) (hold : old.size = cells.size) (h1 : cells.all (·.oneCell') = true) :
    (execOp ev o).run P w = .ok .skip (w.setRow g cells) := by
  unfold execOp
  simp only [ho, hx, hy, Instr.storeAt, Instr.sureAddr, Sem.run_bind, Sem.run_pure, Result.andThen_ok, run_storeVar_row w g t ty old cells hg hi hold h1]
/-! ### rows that begin inside a block (by this session) -/
section
variable {P : Program}
theorem run_loadVar_cells (w : World) (a : Addr) (ty : TypeId) (cs : List Value) (d : TypeDesc) (h : ∀ j v, cs[j]? = some v → w.cell? (a.add j) = some v)
    (hu : P.underlying ty = some d) (hd : (match d with | .struct _ | .array _ _ => true | _ => false) = true) (hi : (P.info? ty).map (·.size) = some cs.length) :
    (loadVar ty a).run P w = .ok (.agg cs.toArray) w := by
  have hl := run_loadCells_list (P := P) w a cs h
  cases hq : P.info? ty with
  | none => simp [hq] at hi
  | some i =>
    have hs : i.size = cs.length := by simpa [hq] using hi
    have hagg : (isAgg ty).run P w = .ok true w := by
      unfold isAgg
      rw [Sem.run_bind, run_underlying hu w]
      cases d <;> simp_all
    simp [loadVar, Sem.run_bind, hagg, sizeOf, typeInfo, hq, hs, hl]
theorem storeCells_shift (g i : Nat) (l : List Value) : ∀ k, storeCells ⟨g, i, none⟩ l k = storeCells ⟨g, 0, none⟩ l (i + k) := by
  induction l with
  | nil => intro k; rfl
  | cons v t ih =>
    intro k
    have e : (⟨g, i, none⟩ : Addr).add k = (⟨g, 0, none⟩ : Addr).add (i + k) := by unfold Addr.add; by_cases h1 : k = 0 <;> by_cases h2 : i = 0 <;> simp [h1, h2]
    simp only [storeCells, ih (k + 1), e]
    rfl
/-- A store of cells into the midst of a row. -/
theorem run_storeCells_mid (g : Nat) (t : TypeId) : ∀ (vs : List Value) (i : Nat) (cur : Array Value) (w : World), w.heap[g]? = some (.cells cur t (0, 0)) → i + vs.length ≤ cur.size → (∀ v ∈ vs, v.oneCell' = true) →
    (storeCells ⟨g, 0, none⟩ vs i).run P w = .ok () (w.setRow g (cur.toList.take i ++ vs ++ cur.toList.drop (i + vs.length)).toArray)
  | [], i, cur, w, hg, hl, _ => by
    have hlt : g < w.heap.size := (Array.getElem?_eq_some_iff.1 hg).1
    have e : (cur.toList.take i ++ [] ++ cur.toList.drop (i + ([] : List Value).length)).toArray = cur := by simp
    rw [e]
    have := run_storeCells_from (P := P) g t [] cur.size cur w hg (by simp) (by simp)
    simp only [storeCells] at this ⊢
    rw [this, List.append_nil, List.take_of_length_le (by simp)]
  | v :: rest, i, cur, w, hg, hl, h1 => by
    have hi : i < cur.size := by simp at hl; omega
    have hadd : (⟨g, 0, none⟩ : Addr).add i = ⟨g, i, none⟩ := by unfold Addr.add; by_cases h : i = 0 <;> simp [h]
    have hcell : w.cell? ⟨g, i, none⟩ = some cur[i] := by rw [cell_of_row w g i cur t (0, 0) hg]; simp [hi]
    have hfro : w.frozen? ⟨g, i, none⟩ = false := by simp [World.frozen?, hg]
    have hst : (store ((⟨g, 0, none⟩ : Addr).add i) v).run P w = .ok () (w.setRow g (cur.setIfInBounds i v)) := by
      rw [hadd, run_store P w _ v _ (h1 v (by simp)), hcell]
      simp [hfro, setCell_eq_setRow w g i cur t (0, 0) v hg]
    have ih := run_storeCells_mid g t rest (i + 1) (cur.setIfInBounds i v) (w.setRow g (cur.setIfInBounds i v)) (setRow_heap w g cur _ t _ hg) (by simp at hl ⊢; omega) (fun x hx => h1 x (by simp [hx]))
    simp only [storeCells, Sem.run_bind, hst, Result.andThen_ok, ih, setRow_setRow]
    congr 3
    apply List.ext_getElem?
    intro k
    simp only [Array.toList_setIfInBounds, List.append_assoc, List.getElem?_append, List.length_take, List.length_set, Array.length_toList, List.length_cons, List.getElem?_drop]
    by_cases hk : k < i
    · simp [hk, show k < i + 1 by omega, show min (i + 1) cur.size = i + 1 by omega, show min i cur.size = i by omega, show i ≠ k by omega]
    · by_cases hk2 : k = i
      · subst hk2
        simp [show min (k + 1) cur.size = k + 1 by omega, show min k cur.size = k by omega]
      · simp [hk, show ¬ k < i + 1 by omega, show min (i + 1) cur.size = i + 1 by omega, show min i cur.size = i by omega, show k - i = (k - (i + 1)) + 1 by omega, show i ≠ k by omega]
        split
        · rfl
        · rw [List.getElem?_set_ne (by omega), Array.getElem?_toList, show i + 1 + rest.length + (k - (i + 1) - rest.length) = i + (rest.length + 1) + (k - (i + 1) - rest.length) by omega]
theorem run_storeVar_mid (w : World) (g i : Nat) (t ty : TypeId) (old cells : Array Value) (hg : w.heap[g]? = some (.cells old t (0, 0))) (hi : (P.info? ty).map (·.size) = some cells.size)
    (ho : i + cells.size ≤ old.size) (h1 : cells.all (·.oneCell') = true) :
    (storeVar ty ⟨g, i, none⟩ (.agg cells)).run P w = .ok () (w.setRow g (old.toList.take i ++ cells.toList ++ old.toList.drop (i + cells.size)).toArray) := by
  have := run_storeCells_mid (P := P) g t cells.toList i old w hg (by simpa using ho) (fun v hv => (Array.all_eq_true_iff_forall_mem.1 h1) v (by simpa using hv))
  have e := storeCells_shift g i cells.toList 0
  cases hq : P.info? ty with
  | none => simp [hq] at hi
  | some j =>
    have hs : cells.size = j.size := by simp [hq] at hi; omega
    have e2 : cells.toList.length = cells.size := by simp
    rw [e2] at this
    simp [storeVar, sizeOf, typeInfo, hq, Value.cells, hs, e]
    rw [← hs, this]
    simp
theorem part_int {e : TypeId} {k : IntKind} (he : P.underlying e = some (.int k)) (a : List Int) (j : Nat) (h : j < a.length) (w : World) : (part e (a.map (Value.int k)).toArray j).run P w = .ok (.int k a[j]) w := by
  unfold part isAgg
  simp [Sem.run_bind, run_underlying he, h]
theorem equalIn_int {e : TypeId} {k : IntKind} (he : P.underlying e = some (.int k)) (d : Nat) (x y : Int) (w : World) : (Op.equalIn (d + 1) e (.int k x) (.int k y)).run P w = .ok (x == y) w := by
  simp [Op.equalIn, Sem.run_bind, run_underlying he]
theorem eqItems_ints {e : TypeId} {k : IntKind} (he : P.underlying e = some (.int k)) (d : Nat) (a b : List Int) (hl : a.length = b.length) (w : World) : ∀ (m i : Nat), i + m = a.length →
    (Op.eqItems (d + 1) e 1 (a.map (Value.int k)).toArray (b.map (Value.int k)).toArray (List.range' i m)).run P w = .ok (decide (a.drop i = b.drop i)) w := by
  intro m
  induction m with
  | zero =>
    intro i hi
    rw [List.drop_of_length_le (by omega), List.drop_of_length_le (by omega)]
    simp [Op.eqItems]
  | succ m ih =>
    intro i hi
    have h1 : i < a.length := by omega
    have h2 : i < b.length := by omega
    have := ih (i + 1) (by omega)
    rw [List.range'_succ]
    simp only [Op.eqItems, Nat.mul_one, Sem.run_bind, part_int he a i h1, part_int he b i h2, equalIn_int he, Result.andThen_ok]
    have e2 : (a.drop i = b.drop i) ↔ (a[i] = b[i] ∧ a.drop (i + 1) = b.drop (i + 1)) := by rw [List.drop_eq_getElem_cons h1, List.drop_eq_getElem_cons h2, List.cons.injEq]
    by_cases c : a[i] = b[i]
    · rw [if_neg (by simp [c]), this]
      exact congrArg (fun z => Result.ok z w) (decide_eq_decide.2 ⟨fun h => e2.2 ⟨c, h⟩, fun h => (e2.1 h).2⟩)
    · rw [if_pos (by simp [c]), decide_eq_false (fun h => c (e2.1 h).1)]
      rfl
theorem eqArr_ints {t e : TypeId} {k : IntKind} {n : Nat} (hu : P.underlying t = some (.array n e)) (he : P.underlying e = some (.int k)) (hi : (P.info? e).isSome = true) (hc : P.cellsOf e = 1) (d : Nat) (a b : List Int) (ha : a.length = n) (hb : b.length = n) (w : World) :
    (Op.equalIn (d + 2) t (.agg (a.map (Value.int k)).toArray) (.agg (b.map (Value.int k)).toArray)).run P w = .ok (decide (a = b)) w := by
  obtain ⟨i, hi⟩ := Option.isSome_iff_exists.1 hi
  rw [run_equalIn_array w (d + 1) _ _ hu hi, hc, List.range_eq_range', eqItems_ints he d a b (by omega) w n 0 (by omega)]
  simp
/-- A load of a whole row, wherever it begins, as one step. -/
theorem load_run_at {o : Oper} {ev : Operand → Value} {w : World} (ty : TypeId) (x : Operand) (ho : o.op = .load ty x) (a : Addr) (hx : ev x = .pointer (some a)) (cs : List Value) (d : TypeDesc) (h : ∀ j v, cs[j]? = some v → w.cell? (a.add j) = some v)
    (hu : P.underlying ty = some d) (hd : (match d with | .struct _ | .array _ _ => true | _ => false) = true) (hi : (P.info? ty).map (·.size) = some cs.length) :
    (execOp ev o).run P w = .ok (.value (.agg cs.toArray)) w := by
  unfold execOp
  simp only [ho, hx, Instr.loadAt, Instr.sureAddr, Sem.run_bind, Sem.run_pure, Result.andThen_ok, run_loadVar_cells w a ty cs d h hu hd hi]
/-- A store of a whole row into the midst of a block, as one step. -/
theorem store_run_mid {o : Oper} {ev : Operand → Value} {w : World} (ty : TypeId) (x y : Operand) (ho : o.op = .store ty x y) (g i : Nat) (cells : Array Value) (hx : ev x = .pointer (some ⟨g, i, none⟩)) (hy : ev y = .agg cells)
    (t : TypeId) (old : Array Value) (hg : w.heap[g]? = some (.cells old t (0, 0))) (hi : (P.info? ty).map (·.size) = some cells.size) (ho2 : i + cells.size ≤ old.size) (h1 : cells.all (·.oneCell') = true) :
    (execOp ev o).run P w = .ok .skip (w.setRow g (old.toList.take i ++ cells.toList ++ old.toList.drop (i + cells.size)).toArray) := by
  unfold execOp
  simp only [ho, hx, hy, Instr.storeAt, Instr.sureAddr, Sem.run_bind, Sem.run_pure, Result.andThen_ok, run_storeVar_mid w g i t ty old cells hg hi ho2 h1]
end
section
/-- What is moved: nothing but blocks of F (new ones but for that); what is there then are blocks of F, and new ones. -/
structure Mv (F F' : Nat → Prop) (w w' : World) : Prop where
  os : w'.os = w.os
  tape : w'.tape = w.tape
  output : w'.output = w.output
  size : w.heap.size ≤ w'.heap.size
  block : ∀ k, k < w.heap.size → ¬ F k → w'.heap[k]? = w.heap[k]?
  foot : ∀ k, F' k → F k ∨ w.heap.size ≤ k
theorem Mv.refl (F : Nat → Prop) (w : World) : Mv F F w w := ⟨rfl, rfl, rfl, Nat.le_refl _, fun _ _ _ => rfl, fun _ h => .inl h⟩
theorem Mv.trans {F F' F'' : Nat → Prop} {w w' w'' : World} (h : Mv F F' w w') (k : Mv F' F'' w' w'') : Mv F F'' w w'' :=
  ⟨k.os.trans h.os, k.tape.trans h.tape, k.output.trans h.output, Nat.le_trans h.size k.size, fun j hj hF => (k.block j (Nat.lt_of_lt_of_le hj h.size) (fun h' => (h.foot j h').elim hF (fun h2 => by omega))).trans (h.block j hj hF),
   fun j hj => (k.foot j hj).elim (h.foot j) (fun h2 => .inr (Nat.le_trans h.size h2))⟩
theorem Mv.of_below {F : Nat → Prop} {w w' : World} (h : Below w.heap.size w w') : Mv F F w w' := ⟨h.os, h.tape, h.output, h.size, fun k hk _ => h.block k hk, fun _ h => .inl h⟩
theorem Mv.row {F : Nat → Prop} (w : World) (g : Nat) (hF : F g) (cs : Array Value) : Mv F F w (w.setRow g cs) :=
  ⟨rfl, rfl, rfl, by simp [World.setRow], fun k _ hk => setRow_other w g k cs (fun e => hk (by rw [e]; exact hF)), fun _ h => .inl h⟩
theorem Mv.cell {F : Nat → Prop} (w : World) (a : Addr) (hF : F a.block) (v : Value) : Mv F F w (w.setCell a v) :=
  ⟨rfl, rfl, rfl, by simp [World.setCell], fun k _ hk => Below.heap_setCell w a v k (fun e => hk (by rw [e]; exact hF)), fun _ h => .inl h⟩
theorem Mv.putMap {F : Nat → Prop} {w w' : World} {g : Nat} (hF : F g) (h : World.putMap w w' g) : Mv F F w w' := by
  obtain ⟨o, rfl⟩ := h
  exact ⟨rfl, rfl, rfl, by simp, fun k _ hk => by simp [show g ≠ k from fun e => hk (by rw [← e]; exact hF)], fun _ h => .inl h⟩
theorem Mv.grown {F F' : Nat → Prop} {w w' : World} {r : Option Nat} (h : w.grownBy w' r) (hr : ∀ k, r = some k → F k) (hf : ∀ k, F' k → F k ∨ w.heap.size ≤ k) : Mv F F' w w' :=
  ⟨h.os, h.tape, h.output, h.size, fun k hk hF => h.block k hk (fun e => hF (hr k e.symm)), hf⟩
theorem Mv.weaken {F F' F1 F1' : Nat → Prop} {w w' : World} (h : Mv F F' w w') (h1 : ∀ k, F k → F1 k) (h2 : ∀ k, F1' k → F1 k ∨ w.heap.size ≤ k) : Mv F1 F1' w w' :=
  ⟨h.os, h.tape, h.output, h.size, fun k hk hF => h.block k hk (fun e => hF (h1 k e)), h2⟩
theorem Mv.below {F F' : Nat → Prop} {w0 w w' : World} {B : Nat} (h : Mv F F' w w') (hb : Below B w0 w) (hB : B ≤ w.heap.size) (hF : ∀ k, F k → B ≤ k) : Below B w0 w' :=
  hb.trans ⟨h.os, h.tape, h.output, h.size, fun k hk => h.block k (by omega) (fun e => by have := hF k e; omega)⟩
theorem Mv.blk {F F' : Nat → Prop} {w w' : World} {g : Nat} {o : Obj} (h : Mv F F' w w') (hb : w.heap[g]? = some o) (hF : ¬ F g) : w'.heap[g]? = some o := (h.block g (blk_lt hb) hF).trans hb
/-- An own row of rows of cells, of nothing but F's blocks. -/
theorem Mv.R {F F' : Nat → Prop} {w w' : World} {n e B : Nat} {v : Value} {xs : List (List Value)} (h : Mv F F' w w') (hr : Kd.R (Kd.raw n) e w B (fun _ => True) v xs) (hF : ∀ k, v.ownBlock = some k → ¬ F k) : Kd.R (Kd.raw n) e w' B (fun _ => True) v xs :=
  Kd.R_mono (Kd.R_step (Kd.R_mono (Kd.R_tight rfl hr) (fun k hk => hk)) (fun k hk hlt => h.block k hlt (hF k (by simpa using hk.symm)))) (fun _ _ => trivial)
theorem same_R {w w' : World} {n e B : Nat} {v : Value} {xs : List (List Value)} (hr : Kd.R (Kd.raw n) e w B (fun _ => True) v xs) (h : ∀ k, v.ownBlock = some k → w'.heap[k]? = w.heap[k]?) : Kd.R (Kd.raw n) e w' B (fun _ => True) v xs :=
  Kd.R_mono (Kd.R_step (Kd.R_tight rfl hr) (fun k hk hlt => h k (by simpa using hk.symm))) (fun _ _ => trivial)
end
section
variable {P : Program} {ops : Array Oper} {rest : List Oper} {o : Oper} {a : Act} {w w1 : World} {Q : Exit → Act → World → Prop}
theorem wpl_value {v : Value} (hgd : o.guard = none) (h : (execOp a.eval o).run P w = .ok (.value v) w1) (hk : wpList P ops Q rest (a.put o.dst v) w1) : wpList P ops Q (o :: rest) a w :=
  wpList_plain hgd fun K hK => by
    unfold Oper.wp
    rw [h]
    exact hK _ _ hk
theorem wpl_skip (hgd : o.guard = none) (hd : o.dst = none) (h : (execOp a.eval o).run P w = .ok .skip w1) (hk : wpList P ops Q rest a w1) : wpList P ops Q (o :: rest) a w :=
  wpList_plain hgd fun K hK => by
    unfold Oper.wp
    rw [h]
    rw [Oper.upon_skip, hd]
    exact hK _ _ hk
/-- A new own block of a type, with this stored into it. -/
theorem newbk (y : World) (Z cells : Array Value) (t : TypeId) : Below y.heap.size y ((y.alloc (.cells Z t)).setRow y.heap.size cells) ∧ ((y.alloc (.cells Z t)).setRow y.heap.size cells).heap[y.heap.size]? = some (.cells cells t (0, 0)) :=
  ⟨row_below (below_alloc (Below.refl _ _) _) (Nat.le_refl _) _, setRow_heap _ _ _ _ _ _ (blk_new y _)⟩
end
theorem add_add (ad : Addr) (x j : Nat) : (ad.add x).add j = ad.add (x + j) := by
  unfold Addr.add
  by_cases h1 : x = 0
  · subst h1; simp
  · by_cases h2 : j = 0
    · subst h2; simp
    · simp [h1, h2, Nat.add_assoc]
section
variable {P : Program} {ops : Array Oper} {rest : List Oper} {o : Oper} {a : Act} {w w1 : World} {Q : Exit → Act → World → Prop}
/-- A function that can be called by its number. -/
def FnOk (P : Program) (n : Nat) : Prop := ∃ fn, P.funcs[n]? = some fn ∧ (fn.name == "runtime.NumGoroutine") = false ∧ fn.body.isSome = true
theorem callv_run {ev : Operand → Value} (x : Operand) (as_ : Array Operand) (ts : Array TypeId) (hop : o.op = .call { callee := .value x, args := as_, argTypes := ts }) (n : Nat) (hf : FnOk P n) (caps : Array Value) (hx : ev x = .func (.func n) #[] caps)
    (args : Array Value) (hargs : as_.map ev ++ caps = args) : (execOp ev o).run P w = .ok (.enter n args) w := by
  obtain ⟨fn, h1, h2, h3⟩ := hf
  have he := enters_ h1 h2 h3 args w
  subst hargs
  unfold execOp
  simp [hop, resolve, Deferred.ofValue, invoke, hx, he]
theorem wpl_callv (x : Operand) (as_ : Array Operand) (ts : Array TypeId) (hop : o.op = .call { callee := .value x, args := as_, argTypes := ts }) (hgd : o.guard = none) (n : Nat) (hf : FnOk P n) (caps : Array Value) (hx : a.eval x = .func (.func n) #[] caps)
    (args : Array Value) (hargs : as_.map a.eval ++ caps = args) (h : Calls P n args w fun e w' => ∃ v, e = .returned v ∧ wpList P ops Q rest (a.put o.dst v) w') : wpList P ops Q (o :: rest) a w :=
  wpList_plain hgd fun K hK => by
    unfold Oper.wp
    rw [callv_run x as_ ts hop n hf caps hx args hargs, Oper.upon_enter]
    refine h.mono ?_
    rintro e w' ⟨v, rfl, hk⟩
    exact hK _ _ hk
end

end Go.Proofs.Ytpcllhhbaockfaa.Print
