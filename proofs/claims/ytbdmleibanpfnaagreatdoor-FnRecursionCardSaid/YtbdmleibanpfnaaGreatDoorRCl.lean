/-
  The closed facts of the row, one by one.
-/
import Derived.Test.YtbdmleibanpfnaaGreatDoorRows
import Derived.Test.YtbdmleibanpfnaaGreatDoorCards
import Derived.JoinedOf
import Derived.KernelRfl
set_option linter.all false
set_option linter.all false
set_option maxRecDepth 100000
namespace Go.Proofs.YtbdmleibanpfnaaGreatDoor
open Go
theorem cf0 : (Rows.fnRecursionRow.wf (OpenSpec.ofChange Rows.fnRecursionSpec)) = true := by kernel_rfl
theorem cf1 : (laidOutB Tryz.pinned.checked.prog) = true := by kernel_rfl
theorem cf2 : (mapsRowed Tryz.pinned.checked.prog) = true := by kernel_rfl
theorem cf3 : (Tryz.f10.params.all (Tryz.pinned.checked.prog.readableRec ·)) = true := by kernel_rfl
theorem cf4 : (namedTie Tryz.pinned.checked.prog Rows.fnRecursionRow.named Rows.fnRecursionSpec.vars) = true := by kernel_rfl
theorem cf5 : ((Rows.fnRecursionRow.stops == [])) = true := by kernel_rfl
theorem cf6 : ((Tryz.pinned.checked.prog.stops == [])) = true := by kernel_rfl
theorem cf7 : ((Rows.fnRecursionRow.knobs == [])) = true := by kernel_rfl
theorem cf8 : ((Tryz.pinned.checked.prog.stopKnobs == [])) = true := by kernel_rfl
theorem cf9 : ((Rows.fnRecursionRow.inPlace == Tryz.pinned.checked.prog.inPlace 10)) = true := by kernel_rfl
theorem cf10 : ((Rows.fnRecursionRow.unfollowed == Tryz.pinned.checked.prog.unfollowed 10)) = true := by kernel_rfl
theorem cf11 : ((Rows.fnRecursionRow.recurses == Tryz.pinned.checked.prog.recurses 10)) = true := by kernel_rfl
theorem cf12 : ((Rows.fnRecursionRow.named == Tryz.pinned.checked.prog.varsNamed 10)) = true := by kernel_rfl
theorem cf13 : ((Rows.fnRecursionRow.maps == (Tryz.f10.params.toList ++ Rows.fnRecursionSpec.plain.varTypes Tryz.pinned.checked.prog).any (Tryz.pinned.checked.prog.mapsRec ·))) = true := by kernel_rfl
theorem cf14 : ((Rows.fnRecursionRow.ifaces == (Tryz.f10.params.toList ++ Rows.fnRecursionSpec.plain.varTypes Tryz.pinned.checked.prog).any (Tryz.pinned.checked.prog.ifacesRec ·))) = true := by kernel_rfl
theorem cf15 : ((Rows.fnRecursionRow.mapsOut == Tryz.pinned.checked.prog.mapsAmong Tryz.f10.resultTypes.toList)) = true := by kernel_rfl
theorem cf16 : ((Rows.fnRecursionRow.loops == (Tryz.f10.params.toList ++ Rows.fnRecursionSpec.plain.varTypes Tryz.pinned.checked.prog).any (Tryz.pinned.checked.prog.loopsFrom ·))) = true := by kernel_rfl
theorem cf17 : ((Rows.fnRecursionRow.wideKeys == (Tryz.f10.params.toList ++ Rows.fnRecursionSpec.plain.varTypes Tryz.pinned.checked.prog ++ Tryz.f10.resultTypes.toList).any (Tryz.pinned.checked.prog.wideKeysFrom ·))) = true := by kernel_rfl
theorem cf18 : (Rows.fnRecursionSpec.vars.all (Tryz.pinned.checked.prog.varReadable ·)) = true := by kernel_rfl
theorem cf19 : (Tryz.f10.resultTypes.all (fun t => Tryz.pinned.checked.prog.readableRec t && decide (t < Tryz.pinned.checked.prog.types.size))) = true := by kernel_rfl
theorem cf20 : ((Rows.fnRecursionRow.ifacesOut == Tryz.f10.resultTypes.toList.any (Tryz.pinned.checked.prog.ifacesRec ·))) = true := by kernel_rfl
theorem cf21 : ((Rows.fnRecursionRow.loopsOut == Tryz.f10.resultTypes.toList.any (Tryz.pinned.checked.prog.loopsFrom ·))) = true := by kernel_rfl
theorem cf22 : ((Rows.fnRecursionRow.plainKeys == Tryz.pinned.checked.prog.plainKeys)) = true := by kernel_rfl
theorem cf23 : (Rows.fnRecursionRow.shortTexts.isNone) = true := by kernel_rfl
theorem cf24 : (Tryz.pinned.checked.prog.stopsHeard) = true := by kernel_rfl
theorem cf25 : (Tryz.pinned.checked.prog.mayEnter) = true := by kernel_rfl
theorem cf26 : ((Rows.fnRecursionRow.lifted == Tryz.pinned.checked.prog.liftsFinal)) = true := by kernel_rfl
theorem cf27 : ((Tryz.pinned.checked.prog.make == some Rows.fnRecursionRow.make)) = true := by kernel_rfl
theorem cf28 : ((Rows.fnRecursionRow.kinds == (if Rows.fnRecursionRow.domain.isEmpty then [] else Tryz.f10.params.toList.map fun t => match Tryz.pinned.checked.prog.underlying t with | some (.int k) => some k | _ => none))) = true := by kernel_rfl
theorem cf29 : ((Rows.fnRecursionRow.pinned == Rows.fnRecursionRow.pinnedBy)) = true := by kernel_rfl
theorem cf30 : ((Rows.fnRecursionRow.veiled == (Tryz.f10.params.toList ++ Rows.fnRecursionSpec.plain.varTypes Tryz.pinned.checked.prog ++ Tryz.f10.resultTypes.toList).any (Tryz.pinned.checked.prog.veiledRec ·))) = true := by kernel_rfl
theorem cf31 : (Rows.fnRecursionRow.veiledFits Tryz.pinned.checked.prog Tryz.f10.params.toList (Tryz.f10.params.toList ++ Rows.fnRecursionSpec.plain.varTypes Tryz.pinned.checked.prog ++ Tryz.f10.resultTypes.toList)) = true := by kernel_rfl
theorem closed : joinedFacts Tryz.pinned.checked.prog 10 Tryz.f10 Rows.fnRecursionSpec Rows.fnRecursionRow = true := by
  simp only [joinedFacts, Bool.and_eq_true]
  exact ⟨⟨⟨⟨⟨⟨⟨⟨⟨⟨⟨⟨⟨⟨⟨⟨⟨⟨⟨⟨⟨⟨⟨⟨⟨⟨⟨⟨⟨⟨⟨cf0, cf1⟩, cf2⟩, cf3⟩, cf4⟩, cf5⟩, cf6⟩, cf7⟩, cf8⟩, cf9⟩, cf10⟩, cf11⟩, cf12⟩, cf13⟩, cf14⟩, cf15⟩, cf16⟩, cf17⟩, cf18⟩, cf19⟩, cf20⟩, cf21⟩, cf22⟩, cf23⟩, cf24⟩, cf25⟩, cf26⟩, cf27⟩, cf28⟩, cf29⟩, cf30⟩, cf31⟩
theorem cw : Rows.fnRecursionRow.wfByText (OpenSpec.ofChange Rows.fnRecursionSpec) = true := by kernel_rfl
theorem cm : Tryz.pinned.checked.prog.mainIs = some ((true, "12db2fdf5f1fb5c458738718145fc5726b1a51dc0347fecbd42723abeb9fdacc").1, (true, "12db2fdf5f1fb5c458738718145fc5726b1a51dc0347fecbd42723abeb9fdacc").2.toList) := by kernel_rfl
theorem clk : true = Tryz.pinned.checked.prog.looks [] := by kernel_rfl
theorem csi : Tryz.pinned.checked.prog.wantsStandIn 22 = false := by kernel_rfl
theorem cfn : Tryz.prog.funcNamed "loop.example/g03220/laws.FnRecursion" = some 10 := by kernel_rfl
theorem cgo : false = Rows.fnRecursionRow.goesBy Tryz.pinned.checked.prog := by kernel_rfl
end Go.Proofs.YtbdmleibanpfnaaGreatDoor
