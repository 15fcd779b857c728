/- A part of the proof of InferUses, second form: for every input of bulk at most 1048576 the call returns true and the arguments read as they did. Its condition: that bulk. -/
import Derived.Test.YtanhfhjoeoinoaaGreatDoorU13
import Derived.Test.YtanhfhjoeoinoaaGreatDoorU15
/- One closed call of alive(). Written by program (mkalive.py). -/
namespace Go.Dv.K
theorem run3 : retIs kc3.2.2 (ev (kit (knOf [kc2])) (chk0 ctx) 1000000 (.call kc3.1 kc3.2.1 hp0)) = true := by kernel_rfl
theorem known3 : Known ctx Or Xo kc3 := ⟨by kernel_rfl, by kernel_rfl, ret_of (kit_ok _ (known_all (l := [kc2]) (fun x h => by simp only [List.mem_cons, List.not_mem_nil, or_false] at h; subst h; exact known2))) run3⟩
end Go.Dv.K
