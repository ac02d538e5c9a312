/- The statement EmbedOwn, proved: whatever the input, the call returns true, and its arguments read as before; the listed variables hold what the program's text lays. -/
import Derived.Test.YtgmacggbhcodjaaDoorZEmbedOwnR1
import Derived.Test.YtgmacggbhcodjaaDoorZEmbedOwnPEmbedOwn
import Derived.Test.YtgmacggbhcodjaaDoorCards
import Derived.Test.YtgmacggbhcodjaaDoorTie
import Derived.SevenTiedAt
import Derived.WalkKit
namespace Go.Proofs.YtgmacggbhcodjaaDoor.rowEmbedOwn
open Go.ChangeShapes Go.WideShapes Go.ChangeAt Go.RowKit Go.Proofs.YtgmacggbhcodjaaDoor.Q
open Go.ChangeMaps (open_string shut_string)
set_option linter.unusedVariables false
set_option maxRecDepth 100000 in
theorem contract (H : Type) (enc : TypeId × Value → H) (W : World) (base : Nat) (args : Array Value) (ds gs : List (DataW H)) (before : List MemPlace)
    (hval0 : ∀ (j : Nat) t v, Tryd.f7.params[j]? = some t → args[j]? = some v → Value.okWide Tryd.prog W .any base t v)
    (hW : DataW.Whole enc Tryd.prog Tryd.f7.params.toList Rows.embedOwnSpec.vars false W args.toList ds gs before)
    (hsz0 : (DataW.weightsEach Tryd.prog (Tryd.f7.params.toList ++ Rows.embedOwnSpec.plain.varTypes Tryd.prog) (ds ++ gs)).all (· ≤ reachBytes) = true)
    (hL : laidMetH Tryd.prog seatLaid W) (hsh : W.ShapedOpen Tryd.prog) :
    Calls Tryd.prog 7 args W fun e W' => ∃ v, e = .returned v ∧ Rows.embedOwnSpec.post enc Tryd.prog Tryd.f7 false true false false W args v W' := by
  have hG : Gw W := gw_row hsh hL
  have hW' := hW
  have hval : ∀ (j : Nat) t v, Tryd.f7.params[j]? = some t → args[j]? = some v → Value.okWide Tryd.prog W .any base t v := hval0
  obtain ⟨p, q, hA0, hV, rfl, hfz, hnd⟩ := hW
  have hA : DataW.TrodAll enc Tryd.prog W 0 (fun _ => true) true Tryd.f7.params.toList args.toList ds p := hA0
  rw [Tryd.params7] at hA hval
  obtain ⟨v0, vs0, d0, ds0, p0, q0, hargs, rfl, rfl, h0, r0⟩ := trodAll_cons hA
  obtain ⟨v1, vs1, d1, ds1, p1, q1, rfl, rfl, rfl, h1, r1⟩ := trodAll_cons r0
  obtain ⟨v2, vs2, d2, ds2, p2, q2, rfl, rfl, rfl, h2, r2⟩ := trodAll_cons r1
  obtain ⟨rfl, rfl, rfl⟩ := trodAll_nil r2
  obtain rfl : args = #[v0, v1, v2] := by cases args; simp_all
  obtain ⟨rfl, rfl⟩ := trodVars_none hV
  obtain ⟨cs0, rfl, _⟩ := okWide_struct Tryd.underlying35 (hval 0 35 v0 rfl rfl)
  obtain ⟨y0, hk0, hq0⟩ := opens_org.arg h0
  obtain rfl := arr_of (k35_open hk0)
  obtain ⟨a1, n1, c1, rfl⟩ := okWide_slice Tryd.underlying51 (hval 1 51 v1 rfl rfl)
  obtain ⟨l1, ⟨A1, C1, hcs1, hle1, hC1⟩, hq1⟩ := opens_orgs.arg h1
  obtain ⟨rfl, rfl, rfl⟩ := slice_of hcs1
  obtain ⟨y2, hk2, hq2⟩ := opens_i.arg h2
  obtain rfl : v2 = .int .i64 y2 := int_of (okWide_int Tryd.underlying3 (hval 2 3 v2 rfl rfl)) hk2
  have lt0 : ∀ x ∈ p0, x.block < W.heap.size := by obtain ⟨m, hm⟩ := h0; exact DataW.trod_lt m _ _ _ hm
  have lt1 : ∀ x ∈ p1, x.block < W.heap.size := by obtain ⟨m, hm⟩ := h1; exact DataW.trod_lt m _ _ _ hm
  have lt2 : ∀ x ∈ p2, x.block < W.heap.size := by obtain ⟨m, hm⟩ := h2; exact DataW.trod_lt m _ _ _ hm
  obtain ⟨k, h⟩ := Pure.EmbedOwn y0 l1 y2 hq0 hq1 hq2 
  clear hA0 hval hval0 hsz0
  refine (F.glacislaw18_EmbedOwn.calls k y0.f0 y0.f1 y0.f2 y0.f3.f0 y0.f3.f1 y0.f3.f2 y0.f4 _ _ l1 y2 true W hC1 hle1 hG h).mono fun e W' ⟨he, bel⟩ => ?_
  subst he
  exact ⟨_, rfl, _, _, _, [], _, [], hW', trodAll_mk1 (shut_bool Tryd.underlying4 _), (trodAll_cons_mk (Below.trod laidOut (by kernel_rfl) (of_decide_eq_true (by kernel_rfl)) h0 bel lt0) (trodAll_cons_mk (Below.trod laidOut (by kernel_rfl) (of_decide_eq_true (by kernel_rfl)) h1 bel lt1) (trodAll_cons_mk (Below.trod laidOut (by kernel_rfl) (of_decide_eq_true (by kernel_rfl)) h2 bel lt2) trodAll_mk0))), rfl, bel.frame _, fun h => by cases h⟩
set_option maxRecDepth 100000 in
theorem lifted (os : Os) (started : os.Started) (H : Type) (enc : TypeId × Value → H) (F : Stop.Interp) :
    ReturnsInHanded {} Tryd.checked os 7 .any ((OpenSpec.ofChange Rows.embedOwnSpec).preRow enc Tryd.prog Tryd.f7 Rows.embedOwnRow.domain false Rows.embedOwnRow.laid) (((OpenSpec.ofChange Rows.embedOwnSpec).at F).post enc Tryd.prog Tryd.f7 false true false false) := by
  refine returnsInHanded_of_row (C := Tryd.checked) (s := (OpenSpec.ofChange Rows.embedOwnSpec)) own started (by kernel_rfl) Tryd.func7
    (witness_laid (enc := enc) (C := Tryd.checked) false (World.laidAll Tryd.prog os seatLaid) #[.agg #[.bool false, .int .i64 0, .string ByteArray.empty, .string ByteArray.empty, .bool false, .int .u32 0, .int .i64 0], .slice none 0 0, .int .i64 0] (World.laidAll_os _ _ _) (World.shaped_of_ZipB (by kernel_rfl) (by kernel_rfl)) (by kernel_rfl)
      (OpenSpec.preRow_of_B rfl 8 (by kernel_rfl) (by kernel_rfl) (laid_met os _))) ?_
  intro W base args ds gs before hval hW _ hcond hsz hL hsh _
  exact contract H enc W base args ds gs before hval hW hsz hL hsh
theorem said : Rows.EmbedOwnSaid :=
  OpenClaim.holds_of_cond 7 Tryd.f7 rfl rfl rfl rfl rfl rfl rfl ⟨rfl, rfl, rfl, rfl, rfl⟩ rfl rfl rfl rfl rfl (by kernel_rfl) Tryd.func7 (by kernel_rfl)
    (of_decide_eq_true (by kernel_rfl)) (by unfold Func.isWrapper; first | (rw [if_pos (by decide +kernel)]; kernel_rfl) | (rw [if_neg (by decide +kernel)]; exact ⟨rfl, rfl⟩))
    (fun os started H enc _ F => by rw [OpenClaim.pre_eq_preRow]; exact lifted os started H enc F)
theorem plain (f : FuncId) (fn : Func) (hf : Tryd.pinned.checked.prog.funcNamed "glacis/glacislaw18.EmbedOwn" = some f) (hfn : Tryd.pinned.checked.prog.funcs[f]? = some fn) :
    false = Tryd.pinned.checked.prog.looks [] ∧ ∀ (j : Nat) t, fn.params[j]? = some t → Tryd.pinned.checked.prog.wantsStandIn t = false := by
  obtain rfl : f = 7 := Option.some.inj ((show Tryd.prog.funcNamed "glacis/glacislaw18.EmbedOwn" = some 7 by kernel_rfl).symm.trans hf) |>.symm
  obtain rfl : fn = Tryd.f7 := (Option.some.inj (Tryd.func7.symm.trans hfn)).symm
  refine ⟨by kernel_rfl, fun j t ht => ?_⟩
  rw [Tryd.params7] at ht
  have hm : t ∈ ([35, 51, 3] : List TypeId) := by simpa using Array.mem_of_getElem? ht
  have hall : (([35, 51, 3] : List TypeId).all fun u => !Tryd.prog.wantsStandIn u) = true := by kernel_rfl
  exact (show Tryd.prog.wantsStandIn t = false by simpa using List.all_eq_true.1 hall t hm)
end Go.Proofs.YtgmacggbhcodjaaDoor.rowEmbedOwn
namespace Go.Proofs.YtgmacggbhcodjaaDoor
theorem embedOwn_card : Rows.EmbedOwnCardSaid :=
  Claim7.holds_tied_plain_at .later [] _ _ _ _ rowEmbedOwn.said (fun _ h => by cases h) (by kernel_rfl) (fun _ h => by cases h) embedOwn_row_tie rfl ⟨rfl, rfl⟩ (by kernel_rfl) rfl rowEmbedOwn.plain (by kernel_rfl)
#print axioms embedOwn_card
end Go.Proofs.YtgmacggbhcodjaaDoor

