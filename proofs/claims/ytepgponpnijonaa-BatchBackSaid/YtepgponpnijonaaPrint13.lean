-- written by this session's program wip/hybrid.py over the kit's printer, and by hand. Not trusted: Lean checks it.
import Derived.Test.YtepgponpnijonaaPrint0
import Derived.Test.YtepgponpnijonaaPrint2
import Derived.Test.YtepgponpnijonaaPrint9
import Derived.Test.YtepgponpnijonaaPrint10
import Derived.Test.YtepgponpnijonaaPrint12
namespace Go.Proofs.Ytepgponpnijonaa.Print
open Go.RowKit Go.Proofs.YtepgponpnijonaaW.PrintWords Go.Proofs.YtepgponpnijonaaW.PrintLast Go.Proofs.YtepgponpnijonaaW.PrintMore
attribute [local go_sem] max2_int min2_int max_two min_two max_three min_three max_four min_four   -- for this text's walks alone
set_option linter.unusedVariables false
set_option linter.unusedSimpArgs false

/-! ### lombardlaw18_alive: function 9 -/
def lombardlaw18_alive.f (k : Nat) : Option Bool := (batch_Put.f k 1 0 []).bind fun p => (batch_Get.f k p.1).bind fun g => (batch_Sum.f [49, 50, 51, 52, 53, 54, 55, 56, 57]).bind fun s => if s = 3421780262 ∧ p.2 = 0 ∧ p.1.length = 15 ∧ g.2.2.2 = 0 ∧ g.1 = 1 then some true else none
theorem lombardlaw18_alive.mono : ∀ k, LeO (lombardlaw18_alive.f k) (lombardlaw18_alive.f (k + 1)) := by
  intro k r h
  unfold lombardlaw18_alive.f at h ⊢
  obtain ⟨p, hp, h⟩ := Option.bind_eq_some_iff.mp h
  obtain ⟨g, hg, h⟩ := Option.bind_eq_some_iff.mp h
  rw [batch_Put.mono _ _ _ _ p hp, Option.bind_some, batch_Get.mono _ _ g hg, Option.bind_some]
  exact h
theorem lombardlaw18_alive.sum (w : World) (g : Nat) (fr : Nat × Nat) (h : batch_Sum.f [49, 50, 51, 52, 53, 54, 55, 56, 57] = some 3421780262)
    (hb : w.heap[g]? = some (.cells #[.int .u8 49, .int .u8 50, .int .u8 51, .int .u8 52, .int .u8 53, .int .u8 54, .int .u8 55, .int .u8 56, .int .u8 57] 5 fr)) :
    Calls Try.prog 16 #[.slice (some ⟨g, 0, none⟩) 9 9] w fun e w' => e = .returned (.int .u32 3421780262) ∧ Below w.heap.size w w' :=
  batch_Sum.calls (some ⟨g, 0, none⟩) 9 [49, 50, 51, 52, 53, 54, 55, 56, 57] 3421780262 w (C_lit [49, 50, 51, 52, 53, 54, 55, 56, 57] hb (by decide)) (by decide) h
theorem lombardlaw18_alive.new1 (w : World) (cs : Array Value) (o' : Obj) : ((w.alloc (.cells cs 32)).alloc o').heap[w.heap.size]? = some (.cells cs 32 (0, 0)) := blk_alloc (heap_alloc_new w (.cells cs 32)) o'
theorem lombardlaw18_alive.new2 (w : World) (o o' : Obj) : ((w.alloc o).alloc o').heap[w.heap.size + 1]? = some o' := by
  have h := heap_alloc_new (w.alloc o) o'
  rw [World.size_alloc] at h
  exact h
set_option maxHeartbeats 4000000 in
set_option maxRecDepth 100000 in
theorem lombardlaw18_alive.calls (k : Nat)  (r : Bool) (w : World) (h : lombardlaw18_alive.f k  = some r) :
    Calls Try.prog 9 #[] w fun e w' => e = .returned (.bool r) ∧ Below w.heap.size w w' := by
  unfold lombardlaw18_alive.f at h
  obtain ⟨⟨t195, t198⟩, hp, h⟩ := Option.bind_eq_some_iff.mp h
  obtain ⟨⟨t199, t200, t201, t204⟩, hg, h⟩ := Option.bind_eq_some_iff.mp h
  obtain ⟨s, hs, h⟩ := Option.bind_eq_some_iff.mp h
  dsimp only at hg h
  by_cases c : s = 3421780262 ∧ t198 = 0 ∧ t195.length = 15 ∧ t204 = 0 ∧ t199 = 1
  · rw [if_pos c] at h
    obtain rfl := Option.some.inj h
    obtain ⟨rfl, rfl, hl, rfl, rfl⟩ := c
    clear h
    have A1 := Aside0.mk hp
    have A2 := Aside0.mk hg
    have A3 := Aside0.mk hs
    have HL := Aside0.mk hl
    clear hp hg hs hl
    have hcv := @run_strish_new Try.prog 25 5 Try.underlying25 (by kernel_rfl)
    go_enter Try.func9, Try.ntmps9
    go_wp2_with (first | (go_at_call 10; (refine (batch_Put.calls k 1 0 _ _ ([] : List (S53)) t195 0 _ ?side1 ?side2 A1.out).mono ?_); (case side1 => exact Kd.C_nil _ _); (case side2 => exact Nat.le_refl _); rintro e w1 ⟨v1, rfl, hR, hB⟩; have HR1 := Aside0.mk hR; have HB1 := Aside0.mk hB; obtain ⟨A1_, c1, e1⟩ := Kd.R_slice hR; subst e1; clear hR hB) | (go_at_call 18; (obtain ⟨_, hcc_, hC_⟩ := Kd.R_reads' HR1.out); (refine (batch_Get.calls k _ _ t195 1 t200 t201 0 _ hC_ hcc_ A2.out).mono ?_); rintro e w2 ⟨v2, rfl, hR, hB⟩; have HB2 := Aside0.mk hB; obtain ⟨A2_, c2, e2⟩ := Kd.R_slice hR; subst e2; clear hR hB; have hl := HL.out; have hcw : ∀ (o : Obj) (cs : Array Value) (n c : Nat), (Go.convert 25 25 (.slice (some ⟨w2.heap.size + 1, 0, none⟩) n c)).run Try.prog ((w2.alloc o).alloc (.cells cs 5)) = .ok (.slice (some ⟨w2.heap.size + 1, 0, none⟩) n c) ((w2.alloc o).alloc (.cells cs 5 (cs.size, cs.size + 1))) := fun o cs n c => (by have h := hcv (w2.alloc o) cs n c; rw [World.size_alloc] at h; exact h)) | (go_at_call 16; (refine (lombardlaw18_alive.sum _ _ (9, 10) A3.out (lombardlaw18_alive.new2 _ _ _)).mono ?_); rintro e w3 ⟨rfl, hB⟩; have HB3 := Aside0.mk hB; clear hB; have hsq := blk_cell ((HB3.out.block w2.heap.size (by simp; omega)).trans (lombardlaw18_alive.new1 _ _ _)) 0))
    go_ret
    exact ⟨rfl, below_step (below_alloc (below_alloc (below_step HB1.out HB2.out) _) _) HB3.out⟩
  · rw [if_neg c] at h; cases h


end Go.Proofs.Ytepgponpnijonaa.Print
