/- The statement EmbedNames, proved: whatever the input, the call returns true, and its arguments read as before; the listed variables hold what the program's text lays. -/
import Derived.Test.YtgmacggbhcodjaaDoorZEmbedNamesR0
import Derived.Test.YtgmacggbhcodjaaDoorZEmbedNamesK
import Derived.Test.YtgmacggbhcodjaaDoorZEmbedNamesPEmbedNames
import Derived.Test.YtgmacggbhcodjaaDoorCards
import Derived.Test.YtgmacggbhcodjaaDoorTie
import Derived.SevenTiedAt
import Derived.WalkKit
/- EmbedNames: the law's row and its tied card, out of its walk and its pure theorem. -/
namespace Go.Proofs.YtgmacggbhcodjaaDoor.rowEmbedNames
open Go.ChangeShapes Go.WideShapes Go.ChangeAt Go.RowKit Go.Proofs.YtgmacggbhcodjaaDoor.Q
open Go.ChangeMaps (open_string shut_string)
set_option linter.unusedVariables false
set_option maxRecDepth 100000 in
theorem contract (H : Type) (enc : TypeId × Value → H) (W : World) (base : Nat) (args : Array Value) (ds gs : List (DataW H)) (before : List MemPlace)
    (hval0 : ∀ (j : Nat) t v, Tryd.f5.params[j]? = some t → args[j]? = some v → Value.okWide Tryd.prog W .any base t v)
    (hW : DataW.Whole enc Tryd.prog Tryd.f5.params.toList Rows.embedNamesSpec.vars false W args.toList ds gs before)
    (hsz0 : (DataW.weightsEach Tryd.prog (Tryd.f5.params.toList ++ Rows.embedNamesSpec.plain.varTypes Tryd.prog) (ds ++ gs)).all (· ≤ reachBytes) = true)
    (hL : laidMetH Tryd.prog seatLaid W) (hsh : W.ShapedOpen Tryd.prog) :
    Calls Tryd.prog 5 args W fun e W' => ∃ v, e = .returned v ∧ Rows.embedNamesSpec.post enc Tryd.prog Tryd.f5 false true false false W args v W' := by
  have hG : Gw W := gw_row hsh hL
  have hW' := hW
  have hval : ∀ (j : Nat) t v, Tryd.f5.params[j]? = some t → args[j]? = some v → Value.okWide Tryd.prog W .any base t v := hval0
  obtain ⟨p, q, hA0, hV, rfl, hfz, hnd⟩ := hW
  have hA : DataW.TrodAll enc Tryd.prog W 0 (fun _ => true) true Tryd.f5.params.toList args.toList ds p := hA0
  rw [Tryd.params5] at hA hval
  obtain ⟨rfl, rfl, rfl⟩ := trodAll_none hA
  obtain ⟨rfl, rfl⟩ := trodVars_none hV
  have h := Pure.EmbedNames   
  clear hA0 hval hval0 hsz0
  refine (F.glacislaw18_EmbedNames.calls  true W  hG h).mono fun e W' ⟨he, bel⟩ => ?_
  subst he
  exact ⟨_, rfl, _, _, _, [], _, [], hW', trodAll_mk1 (shut_bool Tryd.underlying4 _), trodAll_mk0, rfl, bel.frame _, fun h => by cases h⟩
set_option maxRecDepth 100000 in
theorem lifted (os : Os) (started : os.Started) (H : Type) (enc : TypeId × Value → H) (F : Stop.Interp) :
    ReturnsInHanded {} Tryd.checked os 5 .any ((OpenSpec.ofChange Rows.embedNamesSpec).preRow enc Tryd.prog Tryd.f5 Rows.embedNamesRow.domain false Rows.embedNamesRow.laid) (((OpenSpec.ofChange Rows.embedNamesSpec).at F).post enc Tryd.prog Tryd.f5 false true false false) := by
  refine returnsInHanded_of_row (C := Tryd.checked) (s := (OpenSpec.ofChange Rows.embedNamesSpec)) own started (by kernel_rfl) Tryd.func5
    (witness_laid (enc := enc) (C := Tryd.checked) false (World.laidAll Tryd.prog os seatLaid) #[] (World.laidAll_os _ _ _) (World.shaped_of_ZipB (by kernel_rfl) (by kernel_rfl)) (by kernel_rfl)
      (OpenSpec.preRow_of_B rfl 8 (by kernel_rfl) (by kernel_rfl) (laid_met os _))) ?_
  intro W base args ds gs before hval hW _ hcond hsz hL hsh _
  exact contract H enc W base args ds gs before hval hW hsz hL hsh
theorem said : Rows.EmbedNamesSaid :=
  OpenClaim.holds_of_cond 5 Tryd.f5 rfl rfl rfl rfl rfl rfl rfl ⟨rfl, rfl, rfl, rfl, rfl⟩ rfl rfl rfl rfl rfl (by kernel_rfl) Tryd.func5 (by kernel_rfl)
    (of_decide_eq_true (by kernel_rfl)) (by unfold Func.isWrapper; first | (rw [if_pos (by decide +kernel)]; kernel_rfl) | (rw [if_neg (by decide +kernel)]; exact ⟨rfl, rfl⟩))
    (fun os started H enc _ F => by rw [OpenClaim.pre_eq_preRow]; exact lifted os started H enc F)
theorem plain (f : FuncId) (fn : Func) (hf : Tryd.pinned.checked.prog.funcNamed "glacis/glacislaw18.EmbedNames" = some f) (hfn : Tryd.pinned.checked.prog.funcs[f]? = some fn) :
    false = Tryd.pinned.checked.prog.looks [] ∧ ∀ (j : Nat) t, fn.params[j]? = some t → Tryd.pinned.checked.prog.wantsStandIn t = false := by
  obtain rfl : f = 5 := Option.some.inj ((show Tryd.prog.funcNamed "glacis/glacislaw18.EmbedNames" = some 5 by kernel_rfl).symm.trans hf) |>.symm
  obtain rfl : fn = Tryd.f5 := (Option.some.inj (Tryd.func5.symm.trans hfn)).symm
  refine ⟨by kernel_rfl, fun j t ht => ?_⟩
  rw [Tryd.params5] at ht
  simp at ht
end Go.Proofs.YtgmacggbhcodjaaDoor.rowEmbedNames
namespace Go.Proofs.YtgmacggbhcodjaaDoor
theorem embedNames_card : Rows.EmbedNamesCardSaid :=
  Claim7.holds_tied_plain_at .later [] _ _ _ _ rowEmbedNames.said (fun _ h => by cases h) (by kernel_rfl) (fun _ h => by cases h) embedNames_row_tie rfl ⟨rfl, rfl⟩ (by kernel_rfl) rfl rowEmbedNames.plain (by kernel_rfl)
#print axioms embedNames_card
end Go.Proofs.YtgmacggbhcodjaaDoor

