-- written by this session's program wip/hybrid.py over the kit's printer, and by hand. Not trusted: Lean checks it.
import Derived.Test.YtepgponpnijonaaPrint0
namespace Go.Proofs.Ytepgponpnijonaa.Print
open Go.RowKit Go.Proofs.YtepgponpnijonaaW.PrintWords Go.Proofs.YtepgponpnijonaaW.PrintLast Go.Proofs.YtepgponpnijonaaW.PrintMore
attribute [local go_sem] max2_int min2_int max_two min_two max_three min_three max_four min_four   -- for this text's walks alone
set_option linter.unusedVariables false
set_option linter.unusedSimpArgs false

/-! ### rows that lie in a known block (by this session) -/
theorem R_blk {α : Type} {d : Kd α} {w : World} {base e g : Nat} {xs : List α} {inner : List Value} (hg : w.heap[g]? = some (.cells inner.toArray e (0, 0))) (hb : base ≤ g) (hrep : ∀ ok, Reps (d.M w base ok) d.sz xs inner) (hm : xs.length ≤ 9223372036854775807) :
    d.R e w base (fun _ => True) (.slice (some ⟨g, 0, none⟩) xs.length xs.length) xs := by
  have hl := (hrep (fun _ => True)).1
  exact ⟨fun _ _ => trivial, inner, ⟨hl, .inr ⟨g, xs.length, inner.toArray, rfl, hb, hg, Nat.le_refl _, by unfold maxLen; omega, by simpa using hl, by simp [← hl]⟩⟩, hrep _⟩
theorem setRow_same {w : World} {g : Nat} {t : TypeId} {cs : Array Value} {fr : Nat × Nat} (hg : w.heap[g]? = some (.cells cs t fr)) : w.setRow g cs = w := by
  have hv : w.heap[g]'(Array.getElem?_eq_some_iff.1 hg).1 = .cells cs t fr := (Array.getElem?_eq_some_iff.1 hg).2
  unfold World.setRow
  cases w with
  | mk heap tape drawn os output =>
    congr 1
    apply Array.ext
    · simp
    · intro k h1 h2
      simp only [Array.getElem_modify]
      split
      · rename_i hk; subst hk; simp at hv; simp [hv]
      · rfl
/-- '[]byte' of a constant: the block made last is marked, and reads as it did. -/
theorem run_strish_new {P : Program} {t e : TypeId} (ht : P.underlying t = some (.slice e)) (he : P.underlying e = some (.int .u8)) (W : World) (cs : Array Value) (n c : Nat) :
    (Go.convert t t (.slice (some ⟨W.heap.size, 0, none⟩) n c)).run P (W.alloc (.cells cs e)) = .ok (.slice (some ⟨W.heap.size, 0, none⟩) n c) (W.alloc (.cells cs e (cs.size, cs.size + 1))) := by
  have hb : (W.alloc (.cells cs e)).heap[W.heap.size]? = some (.cells cs e (0, 0)) := heap_alloc_new W _
  have hsh : (W.alloc (.cells cs e)).shape? W.heap.size = some (e, cs.size) := by
    unfold World.shape?; rw [hb]
  have hfr : (W.alloc (.cells cs e)).freeze ⟨W.heap.size, cs.size, none⟩ 1 = W.alloc (.cells cs e (cs.size, cs.size + 1)) := by
    unfold World.freeze
    rw [if_neg (by decide)]
    show ({ heap := _, tape := _, drawn := _, os := _, output := _ } : World) = { heap := _, tape := _, drawn := _, os := _, output := _ }
    congr 1
    apply Array.ext_getElem?
    intro k
    rw [Array.getElem?_modify]
    by_cases h : W.heap.size = k
    · subst h
      rw [if_pos rfl, hb]
      exact (heap_alloc_new W (.cells cs e (cs.size, cs.size + 1))).symm
    · rw [if_neg h]
      show (W.heap.push _)[k]? = (W.heap.push _)[k]?
      rw [Array.getElem?_push, Array.getElem?_push, if_neg (fun z => h z.symm), if_neg (fun z => h z.symm)]
  unfold Go.convert
  simp [Sem.run_bind, run_underlying ht, run_underlying he, markStringish, hsh, hfr, Result.andThen]
/-- A row of bytes that lies whole in a block, marked or not, can be read. -/
theorem C_lit {w : World} {g e : Nat} {fr : Nat × Nat} (xs : List Int) (hb : w.heap[g]? = some (.cells (xs.map (Value.int .u8)).toArray e fr)) (hm : xs.length ≤ 9223372036854775807) : Kd.C (Kd.int .u8) w (some ⟨g, 0, none⟩) xs.length xs := by
  refine ⟨rfl, hm, fun _ => ⟨⟨g, 0, none⟩, rfl, fun j p hj => ?_⟩⟩
  refine ⟨[.int .u8 p], rfl, rfl, fun i u hi => ?_⟩
  have hi0 : i = 0 := by
    cases i with
    | zero => rfl
    | succ i => simp at hi
  subst hi0
  have hu : u = .int .u8 p := by simpa using hi.symm
  subst hu
  have hj' := (List.getElem?_eq_some_iff.1 hj)
  have hadd : (⟨g, 0, none⟩ : Addr).add (j * (Kd.int .u8).sz + 0) = ⟨g, j, none⟩ := by
    have : (Kd.int .u8).sz = 1 := rfl
    rw [this]; unfold Addr.add; split <;> simp_all
  rw [hadd, cell_of_row w g j _ e fr hb]
  simp [hj]

end Go.Proofs.Ytepgponpnijonaa.Print
