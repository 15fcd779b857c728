/- A part of the proof of InferUses, second form: for every input of bulk at most 1048576 the call returns true and the arguments read as they did. Its condition: that bulk. -/
import Derived.Test.YtanhfhjoeoinoaaGreatDoorU14
import Derived.Test.YtanhfhjoeoinoaaGreatDoorU15
import Derived.Test.YtanhfhjoeoinoaaGreatDoorU16
import Derived.Test.YtanhfhjoeoinoaaGreatDoorU17
import Derived.Test.YtanhfhjoeoinoaaGreatDoorU18
import Derived.Test.YtanhfhjoeoinoaaGreatDoorU19
import Derived.Test.YtanhfhjoeoinoaaGreatDoorU20
/- alive() returns true. Written by program (mkalive.py). -/
namespace Go.Dv.K
def kcs : List (FuncId × List AV × AV) := [kc1, kc2, kc3, kc4, kc5, kc6, kc7]
theorem kcs_ok : ∀ x ∈ kcs, Known ctx Or Xo x := by
  intro x h
  simp only [kcs, List.mem_cons, List.not_mem_nil, or_false] at h
  rcases h with rfl | rfl | rfl | rfl | rfl | rfl | rfl
  · exact known1
  · exact known2
  · exact known3
  · exact known4
  · exact known5
  · exact known6
  · exact known7
theorem kit_kcs : KitOk (kit (knOf kcs)) Or Xo (chk0 ctx) := kit_ok _ (known_all kcs_ok)
theorem run_alive : retIs (.d (.bool true)) (ev (kit (knOf kcs)) (chk0 ctx) 1000000 (.call 9 [] hp0)) = true := by kernel_rfl
theorem alive_true : ∃ h₀, Big ctx Or Xo (.call 9 [] .empty) (.ret (.d (.bool true)) h₀) := ret_of kit_kcs run_alive
end Go.Dv.K
