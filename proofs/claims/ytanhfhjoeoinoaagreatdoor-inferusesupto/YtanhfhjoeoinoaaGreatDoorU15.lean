/- A part of the proof of InferUses, second form: for every input of bulk at most 1048576 the call returns true and the arguments read as they did. Its condition: that bulk. -/
import Derived.Test.YtanhfhjoeoinoaaGreatDoorU13
/- One closed call of alive(). Written by program (mkalive.py). -/
namespace Go.Dv.K
theorem run2 : retIs kc2.2.2 (ev (kit (knOf [])) (chk0 ctx) 1000000 (.call kc2.1 kc2.2.1 hp0)) = true := by kernel_rfl
theorem known2 : Known ctx Or Xo kc2 := ⟨by kernel_rfl, by kernel_rfl, ret_of (kit_ok _ (known_all (l := []) (fun x h => by cases h))) run2⟩
end Go.Dv.K
