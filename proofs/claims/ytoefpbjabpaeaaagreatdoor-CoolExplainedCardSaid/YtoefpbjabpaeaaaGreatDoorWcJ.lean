import Derived.Test.YtoefpbjabpaeaaaGreatDoorWcF
import Derived.Test.YtoefpbjabpaeaaaGreatDoorVmBE
import Derived.Test.YtoefpbjabpaeaaaGreatDoorWcSh
set_option linter.all false
namespace Go.Vm
open Go.Proofs
set_option maxRecDepth 100000
/-- Numbers from 0 to 99 as words. -/
theorem spItoa (i : Nat) (hi : i < 100) : Sp0 91 [nn i] (R.v (.s ⟨(Lib.decDigits i).toArray⟩)) := by
  refine spec_ret (.string ⟨(Lib.decDigits i).toArray⟩) (enters_of Tryz.func91 (by decide +kernel) rfl) rfl (fun St w B => ?_) (fun St w vs hm => ?_)
  · simp [R.v, repR, repR1, repRC, rep, repC, Value.cells, Value.isAgg, V.isAgg]
  · obtain ⟨r, rfl, h2⟩ := met_i hm.args
    obtain rfl := met_nil h2
    exact (Tryz.strconv_Itoa_small i hi w).mono fun e w' ⟨h1, h2⟩ => ⟨h1, h2 ▸ RowKit.Below.refl _ _⟩
end Go.Vm
