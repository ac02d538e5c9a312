/- The statement EmbedPolicies, proved: whatever the input, the call returns true, and its arguments read as before; the listed variables hold what the program's text lays. -/
import Derived.Test.YtgmacggbhcodjaaGreatDoorZEmbedPoliciesR2
import Derived.Test.YtgmacggbhcodjaaGreatDoorZEmbedPoliciesPEmbedPolicies
import Derived.Test.YtgmacggbhcodjaaGreatDoorCards
import Derived.Test.YtgmacggbhcodjaaGreatDoorTie
import Derived.SevenTiedAt
import Derived.WalkKit
/- EmbedPolicies: the law's row and its tied card, out of its walk and its pure theorem. -/
namespace Go.Proofs.YtgmacggbhcodjaaGreatDoor.rowEmbedPolicies
open Go.ChangeShapes Go.WideShapes Go.ChangeAt Go.RowKit Go.Proofs.YtgmacggbhcodjaaGreatDoor.Q
open Go.ChangeMaps (open_string shut_string)
set_option linter.unusedVariables false
set_option maxRecDepth 100000 in
theorem contract (H : Type) (enc : TypeId × Value → H) (W : World) (base : Nat) (args : Array Value) (ds gs : List (DataW H)) (before : List MemPlace)
    (hval0 : ∀ (j : Nat) t v, Tryz.f4.params[j]? = some t → args[j]? = some v → Value.okWide Tryz.prog W .any base t v)
    (hW : DataW.Whole enc Tryz.prog Tryz.f4.params.toList Rows.embedPoliciesSpec.vars false W args.toList ds gs before)
    (hsz0 : (DataW.weightsEach Tryz.prog (Tryz.f4.params.toList ++ Rows.embedPoliciesSpec.plain.varTypes Tryz.prog) (ds ++ gs)).all (· ≤ reachBytes) = true)
    (hL : laidMetH Tryz.prog seatLaid W) (hsh : W.ShapedOpen Tryz.prog) :
    Calls Tryz.prog 4 args W fun e W' => ∃ v, e = .returned v ∧ Rows.embedPoliciesSpec.post enc Tryz.prog Tryz.f4 false true false false W args v W' := by
  have hG : Gw W := gw_row hsh hL
  have hW' := hW
  have hval : ∀ (j : Nat) t v, Tryz.f4.params[j]? = some t → args[j]? = some v → Value.okWide Tryz.prog W .any base t v := hval0
  obtain ⟨p, q, hA0, hV, rfl, hfz, hnd⟩ := hW
  have hA : DataW.TrodAll enc Tryz.prog W 0 (fun _ => true) true Tryz.f4.params.toList args.toList ds p := hA0
  rw [Tryz.params4] at hA hval
  obtain ⟨v0, vs0, d0, ds0, p0, q0, hargs, rfl, rfl, h0, r0⟩ := trodAll_cons hA
  obtain ⟨v1, vs1, d1, ds1, p1, q1, rfl, rfl, rfl, h1, r1⟩ := trodAll_cons r0
  obtain ⟨rfl, rfl, rfl⟩ := trodAll_nil r1
  obtain rfl : args = #[v0, v1] := by cases args; simp_all
  obtain ⟨rfl, rfl⟩ := trodVars_none hV
  obtain ⟨cs0, rfl, _⟩ := okWide_struct Tryz.underlying24 (hval 0 24 v0 rfl rfl)
  obtain ⟨y0, hk0, hq0⟩ := opens_emb.arg h0
  obtain rfl := arr_of (kEmb_open hk0)
  obtain ⟨cs1, rfl, _⟩ := okWide_struct Tryz.underlying24 (hval 1 24 v1 rfl rfl)
  obtain ⟨y1, hk1, hq1⟩ := opens_emb.arg h1
  obtain rfl := arr_of (kEmb_open hk1)
  have lt0 : ∀ x ∈ p0, x.block < W.heap.size := by obtain ⟨m, hm⟩ := h0; exact DataW.trod_lt m _ _ _ hm
  have lt1 : ∀ x ∈ p1, x.block < W.heap.size := by obtain ⟨m, hm⟩ := h1; exact DataW.trod_lt m _ _ _ hm
  have h := Pure.EmbedPolicies y0 y1 hq0 hq1 
  clear hA0 hval hval0 hsz0
  refine (P1.glacislaw18_EmbedPolicies.calls y0.1 y0.2.1 y0.2.2.1 y0.2.2.2 y1.1 y1.2.1 y1.2.2.1 y1.2.2.2 true W  hG h).mono fun e W' ⟨he, bel⟩ => ?_
  subst he
  exact ⟨_, rfl, _, _, _, [], _, [], hW', trodAll_mk1 (shut_bool Tryz.underlying4 _), (trodAll_cons_mk (Below.trod laidOut (by kernel_rfl) (of_decide_eq_true (by kernel_rfl)) h0 bel lt0) (trodAll_cons_mk (Below.trod laidOut (by kernel_rfl) (of_decide_eq_true (by kernel_rfl)) h1 bel lt1) trodAll_mk0)), rfl, bel.frame _, fun h => by cases h⟩
set_option maxRecDepth 100000 in
theorem lifted (os : Os) (started : os.Started) (H : Type) (enc : TypeId × Value → H) (F : Stop.Interp) :
    ReturnsInHanded {} Tryz.checked os 4 .any ((OpenSpec.ofChange Rows.embedPoliciesSpec).preRow enc Tryz.prog Tryz.f4 Rows.embedPoliciesRow.domain false Rows.embedPoliciesRow.laid) (((OpenSpec.ofChange Rows.embedPoliciesSpec).at F).post enc Tryz.prog Tryz.f4 false true false false) := by
  refine returnsInHanded_of_row (C := Tryz.checked) (s := (OpenSpec.ofChange Rows.embedPoliciesSpec)) own started (by kernel_rfl) Tryz.func4
    (witness_laid (enc := enc) (C := Tryz.checked) false (World.laidAll Tryz.prog os seatLaid) #[.agg #[.int .i64 0, .string ByteArray.empty, .int .i64 0, .string ByteArray.empty], .agg #[.int .i64 0, .string ByteArray.empty, .int .i64 0, .string ByteArray.empty]] (World.laidAll_os _ _ _) (World.shaped_of_ZipB (by kernel_rfl) (by kernel_rfl)) (by kernel_rfl)
      (OpenSpec.preRow_of_B rfl 8 (by kernel_rfl) (by kernel_rfl) (laid_met os _))) ?_
  intro W base args ds gs before hval hW _ hcond hsz hL hsh _
  exact contract H enc W base args ds gs before hval hW hsz hL hsh
theorem said : Rows.EmbedPoliciesSaid :=
  OpenClaim.holds_of_cond 4 Tryz.f4 rfl rfl rfl rfl rfl rfl rfl ⟨rfl, rfl, rfl, rfl, rfl⟩ rfl rfl rfl rfl rfl (by kernel_rfl) Tryz.func4 (by kernel_rfl)
    (of_decide_eq_true (by kernel_rfl)) (by unfold Func.isWrapper; first | (rw [if_pos (by decide +kernel)]; kernel_rfl) | (rw [if_neg (by decide +kernel)]; exact ⟨rfl, rfl⟩))
    (fun os started H enc _ F => by rw [OpenClaim.pre_eq_preRow]; exact lifted os started H enc F)
theorem plain (f : FuncId) (fn : Func) (hf : Tryz.pinned.checked.prog.funcNamed "glacis/glacislaw18.EmbedPolicies" = some f) (hfn : Tryz.pinned.checked.prog.funcs[f]? = some fn) :
    false = Tryz.pinned.checked.prog.looks [] ∧ ∀ (j : Nat) t, fn.params[j]? = some t → Tryz.pinned.checked.prog.wantsStandIn t = false := by
  obtain rfl : f = 4 := Option.some.inj ((show Tryz.prog.funcNamed "glacis/glacislaw18.EmbedPolicies" = some 4 by kernel_rfl).symm.trans hf) |>.symm
  obtain rfl : fn = Tryz.f4 := (Option.some.inj (Tryz.func4.symm.trans hfn)).symm
  refine ⟨by kernel_rfl, fun j t ht => ?_⟩
  rw [Tryz.params4] at ht
  have hm : t ∈ ([24, 24] : List TypeId) := by simpa using Array.mem_of_getElem? ht
  have hall : (([24, 24] : List TypeId).all fun u => !Tryz.prog.wantsStandIn u) = true := by kernel_rfl
  exact (show Tryz.prog.wantsStandIn t = false by simpa using List.all_eq_true.1 hall t hm)
end Go.Proofs.YtgmacggbhcodjaaGreatDoor.rowEmbedPolicies
namespace Go.Proofs.YtgmacggbhcodjaaGreatDoor
theorem embedPolicies_card : Rows.EmbedPoliciesCardSaid :=
  Claim7.holds_tied_plain_at .later [] _ _ _ _ rowEmbedPolicies.said (fun _ h => by cases h) (by kernel_rfl) (fun _ h => by cases h) embedPolicies_row_tie rfl ⟨rfl, rfl⟩ (by kernel_rfl) rfl rowEmbedPolicies.plain (by kernel_rfl)
#print axioms embedPolicies_card
end Go.Proofs.YtgmacggbhcodjaaGreatDoor

