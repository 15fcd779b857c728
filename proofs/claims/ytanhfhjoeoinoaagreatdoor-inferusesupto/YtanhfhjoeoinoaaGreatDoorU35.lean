/- A part of the proof of InferUses, second form: for every input of bulk at most 1048576 the call returns true and the arguments read as they did. Its condition: that bulk. -/
import Derived.Test.YtanhfhjoeoinoaaGreatDoorRows
import Derived.JoinedCond
/- THE ROW's CLOSED FACTS, one by one. Written by program (facts.py). -/
namespace Go.Proofs.YtanhfhjoeoinoaaGreatDoor.uses
theorem j1 : (Rows.inferUsesUptoRow.wf (OpenSpec.ofChange (Rows.OpenSpec.upto Rows.inferUsesSpec).bare)) = true := by kernel_rfl
theorem j2 : (laidOutB Tryz.prog) = true := by kernel_rfl
theorem j3 : (mapsRowed Tryz.prog) = true := by kernel_rfl
theorem j4 : (Tryz.f5.params.all (Tryz.prog.readableRec ·)) = true := by kernel_rfl
theorem j5 : (namedTie Tryz.prog Rows.inferUsesUptoRow.named (Rows.OpenSpec.upto Rows.inferUsesSpec).bare.vars) = true := by kernel_rfl
theorem j6 : ((Rows.inferUsesUptoRow.stops == [])) = true := by kernel_rfl
theorem j7 : ((Tryz.prog.stops == [])) = true := by kernel_rfl
theorem j8 : ((Rows.inferUsesUptoRow.knobs == [])) = true := by kernel_rfl
theorem j9 : ((Tryz.prog.stopKnobs == [])) = true := by kernel_rfl
theorem j10 : ((Rows.inferUsesUptoRow.inPlace == Tryz.prog.inPlace 5)) = true := by kernel_rfl
theorem j11 : ((Rows.inferUsesUptoRow.unfollowed == Tryz.prog.unfollowed 5)) = true := by kernel_rfl
theorem j12 : ((Rows.inferUsesUptoRow.recurses == Tryz.prog.recurses 5)) = true := by kernel_rfl
theorem j13 : ((Rows.inferUsesUptoRow.named == Tryz.prog.varsNamed 5)) = true := by kernel_rfl
theorem j14 : ((Rows.inferUsesUptoRow.maps == (Tryz.f5.params.toList ++ (Rows.OpenSpec.upto Rows.inferUsesSpec).bare.plain.varTypes Tryz.prog).any (Tryz.prog.mapsRec ·))) = true := by kernel_rfl
theorem j15 : ((Rows.inferUsesUptoRow.ifaces == (Tryz.f5.params.toList ++ (Rows.OpenSpec.upto Rows.inferUsesSpec).bare.plain.varTypes Tryz.prog).any (Tryz.prog.ifacesRec ·))) = true := by kernel_rfl
theorem j16 : ((Rows.inferUsesUptoRow.mapsOut == Tryz.prog.mapsAmong Tryz.f5.resultTypes.toList)) = true := by kernel_rfl
theorem j17 : ((Rows.inferUsesUptoRow.loops == (Tryz.f5.params.toList ++ (Rows.OpenSpec.upto Rows.inferUsesSpec).bare.plain.varTypes Tryz.prog).any (Tryz.prog.loopsFrom ·))) = true := by kernel_rfl
theorem j18 : ((Rows.inferUsesUptoRow.wideKeys == (Tryz.f5.params.toList ++ (Rows.OpenSpec.upto Rows.inferUsesSpec).bare.plain.varTypes Tryz.prog ++ Tryz.f5.resultTypes.toList).any (Tryz.prog.wideKeysFrom ·))) = true := by kernel_rfl
theorem j19 : ((Rows.OpenSpec.upto Rows.inferUsesSpec).bare.vars.all (Tryz.prog.varReadable ·)) = true := by kernel_rfl
theorem j20 : (Tryz.f5.resultTypes.all (fun t => Tryz.prog.readableRec t && decide (t < Tryz.prog.types.size))) = true := by kernel_rfl
theorem j21 : ((Rows.inferUsesUptoRow.ifacesOut == Tryz.f5.resultTypes.toList.any (Tryz.prog.ifacesRec ·))) = true := by kernel_rfl
theorem j22 : ((Rows.inferUsesUptoRow.loopsOut == Tryz.f5.resultTypes.toList.any (Tryz.prog.loopsFrom ·))) = true := by kernel_rfl
theorem j23 : ((Rows.inferUsesUptoRow.plainKeys == Tryz.prog.plainKeys)) = true := by kernel_rfl
theorem j24 : (Rows.inferUsesUptoRow.shortTexts.isNone) = true := by kernel_rfl
theorem j25 : (Tryz.prog.stopsHeard) = true := by kernel_rfl
theorem j26 : (Tryz.prog.mayEnter) = true := by kernel_rfl
theorem j27 : ((Rows.inferUsesUptoRow.lifted == Tryz.prog.liftsFinal)) = true := by kernel_rfl
theorem j28 : ((Tryz.prog.make == some Rows.inferUsesUptoRow.make)) = true := by kernel_rfl
theorem j29 : ((Rows.inferUsesUptoRow.kinds == (if Rows.inferUsesUptoRow.domain.isEmpty then [] else Tryz.f5.params.toList.map fun t => match Tryz.prog.underlying t with | some (.int k) => some k | _ => none))) = true := by kernel_rfl
theorem j30 : ((Rows.inferUsesUptoRow.pinned == Rows.inferUsesUptoRow.pinnedBy)) = true := by kernel_rfl
theorem j31 : ((Rows.inferUsesUptoRow.veiled == (Tryz.f5.params.toList ++ (Rows.OpenSpec.upto Rows.inferUsesSpec).bare.plain.varTypes Tryz.prog ++ Tryz.f5.resultTypes.toList).any (Tryz.prog.veiledRec ·))) = true := by kernel_rfl
theorem j32 : (Rows.inferUsesUptoRow.veiledFits Tryz.prog Tryz.f5.params.toList (Tryz.f5.params.toList ++ (Rows.OpenSpec.upto Rows.inferUsesSpec).bare.plain.varTypes Tryz.prog ++ Tryz.f5.resultTypes.toList)) = true := by kernel_rfl
end Go.Proofs.YtanhfhjoeoinoaaGreatDoor.uses
