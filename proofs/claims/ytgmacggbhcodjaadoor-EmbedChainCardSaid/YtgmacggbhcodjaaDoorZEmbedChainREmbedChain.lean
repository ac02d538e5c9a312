/- The statement EmbedChain, proved: whatever the input, the call returns true, and its arguments read as before; the listed variables hold what the program's text lays. -/
import Derived.Test.YtgmacggbhcodjaaDoorZEmbedChainR1
import Derived.Test.YtgmacggbhcodjaaDoorZEmbedChainC2
import Derived.Test.YtgmacggbhcodjaaDoorCards
import Derived.Test.YtgmacggbhcodjaaDoorTie
import Derived.SevenTiedAt
import Derived.WalkKit
namespace Go.Proofs.YtgmacggbhcodjaaDoor.rowEmbedChain
open Go.ChangeShapes Go.WideShapes Go.ChangeAt Go.RowKit Go.Proofs.YtgmacggbhcodjaaDoor.Q
open Go.ChangeMaps (open_string shut_string)
set_option linter.unusedVariables false
open Go.Proofs.YtgmacggbhcodjaaDoorW.PrintWords in
theorem opens_ints {H : Type} {enc : TypeId × Value → H} {w : World} : Opens enc Tryd.prog w 56 (Kd.slice 3 (Kd.int .i64)) (fun l => l.length ≤ maxLen ∧ ∀ x ∈ l, (Lit.int .i64 x).wf = true) := opens_slice 3 Tryd.underlying56 (by kernel_rfl) opens_i (by decide)
set_option maxRecDepth 100000 in
theorem contract (H : Type) (enc : TypeId × Value → H) (W : World) (base : Nat) (args : Array Value) (ds gs : List (DataW H)) (before : List MemPlace)
    (hval0 : ∀ (j : Nat) t v, Tryd.f6.params[j]? = some t → args[j]? = some v → Value.okWide Tryd.prog W .any base t v)
    (hW : DataW.Whole enc Tryd.prog Tryd.f6.params.toList Rows.embedChainSpec.vars false W args.toList ds gs before)
    (hsz0 : (DataW.weightsEach Tryd.prog (Tryd.f6.params.toList ++ Rows.embedChainSpec.plain.varTypes Tryd.prog) (ds ++ gs)).all (· ≤ reachBytes) = true)
    (hL : laidMetH Tryd.prog seatLaid W) (hsh : W.ShapedOpen Tryd.prog) :
    Calls Tryd.prog 6 args W fun e W' => ∃ v, e = .returned v ∧ Rows.embedChainSpec.post enc Tryd.prog Tryd.f6 false true false false W args v W' := by
  have hG : Gw W := gw_row hsh hL
  have hW' := hW
  have hval : ∀ (j : Nat) t v, Tryd.f6.params[j]? = some t → args[j]? = some v → Value.okWide Tryd.prog W .any base t v := hval0
  obtain ⟨p, q, hA0, hV, rfl, hfz, hnd⟩ := hW
  have hA : DataW.TrodAll enc Tryd.prog W 0 (fun _ => true) true Tryd.f6.params.toList args.toList ds p := hA0
  rw [Tryd.params6] at hA hval
  obtain ⟨v0, vs0, d0, ds0, p0, q0, hargs, rfl, rfl, h0, r0⟩ := trodAll_cons hA
  obtain ⟨rfl, rfl, rfl⟩ := trodAll_nil r0
  obtain rfl : args = #[v0] := by cases args; simp_all
  obtain ⟨rfl, rfl⟩ := trodVars_none hV
  obtain ⟨a0, n0, c0, rfl⟩ := okWide_slice Tryd.underlying56 (hval 0 56 v0 rfl rfl)
  obtain ⟨l0, ⟨A0, C0, hcs0, hle0, hC0⟩, hq0⟩ := opens_ints.arg h0
  obtain ⟨rfl, rfl, rfl⟩ := slice_of hcs0
  have lt0 : ∀ x ∈ p0, x.block < W.heap.size := by obtain ⟨m, hm⟩ := h0; exact DataW.trod_lt m _ _ _ hm
  have h := Pure.EmbedChain l0 hq0 
  clear hA0 hval hval0 hsz0
  refine (C2.glacislaw18_EmbedChain.calls _ _ l0 true W hC0 hle0 hG h).mono fun e W' ⟨he, bel⟩ => ?_
  subst he
  exact ⟨_, rfl, _, _, _, [], _, [], hW', trodAll_mk1 (shut_bool Tryd.underlying4 _), (trodAll_cons_mk (Below.trod laidOut (by kernel_rfl) (of_decide_eq_true (by kernel_rfl)) h0 bel lt0) trodAll_mk0), rfl, bel.frame _, fun h => by cases h⟩
set_option maxRecDepth 100000 in
theorem lifted (os : Os) (started : os.Started) (H : Type) (enc : TypeId × Value → H) (F : Stop.Interp) :
    ReturnsInHanded {} Tryd.checked os 6 .any ((OpenSpec.ofChange Rows.embedChainSpec).preRow enc Tryd.prog Tryd.f6 Rows.embedChainRow.domain false Rows.embedChainRow.laid) (((OpenSpec.ofChange Rows.embedChainSpec).at F).post enc Tryd.prog Tryd.f6 false true false false) := by
  refine returnsInHanded_of_row (C := Tryd.checked) (s := (OpenSpec.ofChange Rows.embedChainSpec)) own started (by kernel_rfl) Tryd.func6
    (witness_laid (enc := enc) (C := Tryd.checked) false (World.laidAll Tryd.prog os seatLaid) #[.slice none 0 0] (World.laidAll_os _ _ _) (World.shaped_of_ZipB (by kernel_rfl) (by kernel_rfl)) (by kernel_rfl)
      (OpenSpec.preRow_of_B rfl 8 (by kernel_rfl) (by kernel_rfl) (laid_met os _))) ?_
  intro W base args ds gs before hval hW _ hcond hsz hL hsh _
  exact contract H enc W base args ds gs before hval hW hsz hL hsh
theorem said : Rows.EmbedChainSaid :=
  OpenClaim.holds_of_cond 6 Tryd.f6 rfl rfl rfl rfl rfl rfl rfl ⟨rfl, rfl, rfl, rfl, rfl⟩ rfl rfl rfl rfl rfl (by kernel_rfl) Tryd.func6 (by kernel_rfl)
    (of_decide_eq_true (by kernel_rfl)) (by unfold Func.isWrapper; first | (rw [if_pos (by decide +kernel)]; kernel_rfl) | (rw [if_neg (by decide +kernel)]; exact ⟨rfl, rfl⟩))
    (fun os started H enc _ F => by rw [OpenClaim.pre_eq_preRow]; exact lifted os started H enc F)
theorem plain (f : FuncId) (fn : Func) (hf : Tryd.pinned.checked.prog.funcNamed "glacis/glacislaw18.EmbedChain" = some f) (hfn : Tryd.pinned.checked.prog.funcs[f]? = some fn) :
    false = Tryd.pinned.checked.prog.looks [] ∧ ∀ (j : Nat) t, fn.params[j]? = some t → Tryd.pinned.checked.prog.wantsStandIn t = false := by
  obtain rfl : f = 6 := Option.some.inj ((show Tryd.prog.funcNamed "glacis/glacislaw18.EmbedChain" = some 6 by kernel_rfl).symm.trans hf) |>.symm
  obtain rfl : fn = Tryd.f6 := (Option.some.inj (Tryd.func6.symm.trans hfn)).symm
  refine ⟨by kernel_rfl, fun j t ht => ?_⟩
  rw [Tryd.params6] at ht
  have hm : t ∈ ([56] : List TypeId) := by simpa using Array.mem_of_getElem? ht
  have hall : (([56] : List TypeId).all fun u => !Tryd.prog.wantsStandIn u) = true := by kernel_rfl
  exact (show Tryd.prog.wantsStandIn t = false by simpa using List.all_eq_true.1 hall t hm)
end Go.Proofs.YtgmacggbhcodjaaDoor.rowEmbedChain
namespace Go.Proofs.YtgmacggbhcodjaaDoor
theorem embedChain_card : Rows.EmbedChainCardSaid :=
  Claim7.holds_tied_plain_at .later [] _ _ _ _ rowEmbedChain.said (fun _ h => by cases h) (by kernel_rfl) (fun _ h => by cases h) embedChain_row_tie rfl ⟨rfl, rfl⟩ (by kernel_rfl) rfl rowEmbedChain.plain (by kernel_rfl)
#print axioms embedChain_card
end Go.Proofs.YtgmacggbhcodjaaDoor

