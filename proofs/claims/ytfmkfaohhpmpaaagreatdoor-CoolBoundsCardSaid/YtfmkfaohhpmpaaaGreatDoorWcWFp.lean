import Derived.Test.YtfmkfaohhpmpaaaGreatDoorWcJX
import Derived.Test.YtfmkfaohhpmpaaaGreatDoorWcW1
set_option linter.all false
namespace Go.Vm
open Go.Proofs
set_option maxRecDepth 100000
theorem dg0 : Lib.decDigits 0 = [48] := by rw [Lib.decDigits]; rfl
theorem dg1 : Lib.decDigits 1 = [49] := by rw [Lib.decDigits]; rfl
def tblS : List (FuncId × List V × R) := [(93, [nn 0], R.v (.s ⟨#[48]⟩)), (93, [nn 1], R.v (.s ⟨#[49]⟩)),
  (72, [.sl [.s ⟨#[48]⟩, .s ⟨#[49]⟩], .s ⟨#[32]⟩], R.v (.s ⟨#[48, 32, 49]⟩)),
  (72, [.sl [], .s ⟨#[44]⟩], R.v (.s ⟨#[]⟩)),
  (72, [.sl [.s ⟨#[48, 32, 49]⟩], .s ⟨#[44]⟩], R.v (.s ⟨#[48, 32, 49]⟩)),
  (72, [.sl [.s ⟨#[]⟩, .s ⟨#[48, 32, 49]⟩], .s ⟨#[59]⟩], R.v (.s ⟨#[59, 48, 32, 49]⟩))]
theorem tblS_ok : ∀ e ∈ tblS, Sp0 e.1 e.2.1 e.2.2 := by
  intro e he
  simp only [tblS, List.mem_cons, List.not_mem_nil, or_false] at he
  rcases he with rfl | rfl | rfl | rfl | rfl | rfl
  · have := spItoa 0 (by omega); rw [dg0] at this; exact this
  · have := spItoa 1 (by omega); rw [dg1] at this; exact this
  · exact spJoin [⟨#[48]⟩, ⟨#[49]⟩] ⟨#[32]⟩ (by decide) (by decide)
  · exact spJoin [] ⟨#[44]⟩ (by decide) (by decide)
  · exact spJoin [⟨#[48, 32, 49]⟩] ⟨#[44]⟩ (by decide) (by decide)
  · exact spJoin [⟨#[]⟩, ⟨#[48, 32, 49]⟩] ⟨#[59]⟩ (by decide) (by decide)
theorem spFp : Sp0 27 [.agg [.sl [.sl [], .sl [.agg [nn 0, nn 1]]]]] (.one (.c (.p (.s ⟨#[59, 48, 32, 49]⟩)))) :=
  fnE_ok (orc := orcT tblS) (itr := noItr) (fuel := 300) (d := 40) mixed (orcT_ok tblS_ok) (fun _ _ _ _ h => by cases h) (by kernel_rfl)
end Go.Vm
