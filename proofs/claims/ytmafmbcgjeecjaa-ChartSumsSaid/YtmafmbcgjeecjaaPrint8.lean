-- written by this session's program wip/hybrid.py over the kit's printer, and by hand. Not trusted: Lean checks it.
import Derived.Test.YtmafmbcgjeecjaaPrint0
import Derived.Test.YtmafmbcgjeecjaaPrint6
import Derived.Test.YtmafmbcgjeecjaaPrint7
namespace Go.Proofs.Ytmafmbcgjeecjaa.Print
open Go.RowKit Go.Proofs.YtmafmbcgjeecjaaW.PrintWords Go.Proofs.YtmafmbcgjeecjaaW.PrintLast Go.Proofs.YtmafmbcgjeecjaaW.PrintMore
attribute [local go_sem] max2_int min2_int max_two min_two max_three min_three max_four min_four   -- for this text's walks alone
set_option linter.unusedVariables false
set_option linter.unusedSimpArgs false

/-! ### chart_Name: function 13 -/
def chart_Name.f (a0 : Int) : Option (ByteArray) := chart_accounts.f.bind fun l => some (chart_account_int.g l a0).f1
set_option maxHeartbeats 1000000 in
theorem chart_Name.calls (a0 : Int) (r : ByteArray) (w : World) (h : chart_Name.f a0 = some r) :
    Calls Try.prog 13 #[.int .i64 a0] w fun e w' => e = .returned (.string r) ∧ Below w.heap.size w w' := by
  have hA : ∃ l, chart_accounts.f = some l ∧ l.length ≤ 100 := ⟨_, rfl, by decide⟩
  obtain ⟨l, hl, hlen⟩ := hA
  unfold chart_Name.f at h
  rw [hl] at h
  simp only [Option.bind_some] at h
  obtain rfl := Option.some.inj h
  clear h
  have HL := Aside0.mk hl
  clear hl
  have hfld : ∀ (x y : Value) (W : World), (Instr.field 57 (.agg #[x, y]) 1).run Try.prog W = .ok y W := fun _ _ _ => by kernel_rfl
  go_enter Try.func13, Try.ntmps13
  go_wp2_with (first | (go_at_call 24; refine (chart_accounts.calls _ _ HL.out).mono ?_; rintro e w1 ⟨v1, rfl, hR, hB1⟩; obtain ⟨A1, c1, rfl, hc1, hC1⟩ := Kd.R_reads hR; have HR1 := Aside0.mk hC1; have HB1 := Aside0.mk hB1; clear hR hC1 hB1) | (go_at_call 23; refine (chart_account_int.look _ _ _ _ _ HR1.out hc1 hlen).mono ?_; rintro e w2 ⟨rfl, hB2⟩; have HB2 := Aside0.mk hB2; clear hB2))
  go_ret
  exact ⟨rfl, below_step HB1.out HB2.out⟩


end Go.Proofs.Ytmafmbcgjeecjaa.Print
