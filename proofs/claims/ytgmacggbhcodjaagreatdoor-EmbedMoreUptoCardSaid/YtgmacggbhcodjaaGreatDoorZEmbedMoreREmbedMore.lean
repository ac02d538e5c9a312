/- The statement EmbedMore, proved: whatever the input, the call returns true, and its arguments read as before; the listed variables hold what the program's text lays. -/
import Derived.Test.YtgmacggbhcodjaaGreatDoorZEmbedMoreR3
import Derived.Test.YtgmacggbhcodjaaGreatDoorZEmbedMorePEmbedMore
import Derived.Test.YtgmacggbhcodjaaGreatDoorCards
import Derived.Test.YtgmacggbhcodjaaGreatDoorTie
import Derived.SevenTiedAt
import Derived.WalkKit
namespace Go.Proofs.YtgmacggbhcodjaaGreatDoor.rowEmbedMore
open Go.ChangeShapes Go.WideShapes Go.ChangeAt Go.RowKit Go.Proofs.YtgmacggbhcodjaaGreatDoor.Q
open Go.ChangeMaps (open_string shut_string)
set_option linter.unusedVariables false
set_option maxRecDepth 100000 in
theorem contract (H : Type) (enc : TypeId × Value → H) (W : World) (base : Nat) (args : Array Value) (ds gs : List (DataW H)) (before : List MemPlace)
    (hval0 : ∀ (j : Nat) t v, Tryz.f5.params[j]? = some t → args[j]? = some v → Value.okWide Tryz.prog W .any base t v)
    (hW : DataW.Whole enc Tryz.prog Tryz.f5.params.toList Rows.embedMoreSpec.vars false W args.toList ds gs before)
    (hsz0 : (DataW.weightsEach Tryz.prog (Tryz.f5.params.toList ++ Rows.embedMoreSpec.plain.varTypes Tryz.prog) (ds ++ gs)).all (· ≤ reachBytes) = true)
    (hL : laidMetH Tryz.prog seatLaid W) (hsh : W.ShapedOpen Tryz.prog) (hup : Rows.uptoBulkAll (ds ++ gs) ≤ 1048576) :
    Calls Tryz.prog 5 args W fun e W' => ∃ v, e = .returned v ∧ Rows.embedMoreSpec.post enc Tryz.prog Tryz.f5 false true false false W args v W' := by
  have hG : Gw W := gw_row hsh hL
  have hW' := hW
  have hval : ∀ (j : Nat) t v, Tryz.f5.params[j]? = some t → args[j]? = some v → Value.okWide Tryz.prog W .any base t v := hval0
  obtain ⟨p, q, hA0, hV, rfl, hfz, hnd⟩ := hW
  have hA : DataW.TrodAll enc Tryz.prog W 0 (fun _ => true) true Tryz.f5.params.toList args.toList ds p := hA0
  rw [Tryz.params5] at hA hval
  obtain ⟨v0, vs0, d0, ds0, p0, q0, hargs, rfl, rfl, h0, r0⟩ := trodAll_cons hA
  obtain ⟨v1, vs1, d1, ds1, p1, q1, rfl, rfl, rfl, h1, r1⟩ := trodAll_cons r0
  obtain ⟨v2, vs2, d2, ds2, p2, q2, rfl, rfl, rfl, h2, r2⟩ := trodAll_cons r1
  obtain ⟨v3, vs3, d3, ds3, p3, q3, rfl, rfl, rfl, h3, r3⟩ := trodAll_cons r2
  obtain ⟨v4, vs4, d4, ds4, p4, q4, rfl, rfl, rfl, h4, r4⟩ := trodAll_cons r3
  obtain ⟨v5, vs5, d5, ds5, p5, q5, rfl, rfl, rfl, h5, r5⟩ := trodAll_cons r4
  obtain ⟨rfl, rfl, rfl⟩ := trodAll_nil r5
  obtain rfl : args = #[v0, v1, v2, v3, v4, v5] := by cases args; simp_all
  obtain ⟨rfl, rfl⟩ := trodVars_none hV
  obtain ⟨cs0, rfl, _⟩ := okWide_struct Tryz.underlying26 (hval 0 26 v0 rfl rfl)
  obtain ⟨y0, hk0, hq0⟩ := opensN_cont.arg h0
  obtain ⟨P0, p0c, he0, hl0, hr0⟩ := kCont_open hk0
  obtain rfl := arr_of he0
  obtain ⟨y1, hk1, hq1⟩ := opens_i.arg h1
  obtain rfl : v1 = .int .i64 y1 := int_of (okWide_int Tryz.underlying3 (hval 1 3 v1 rfl rfl)) hk1
  obtain ⟨y2, hk2, hq2⟩ := opens_i.arg h2
  obtain rfl : v2 = .int .i64 y2 := int_of (okWide_int Tryz.underlying3 (hval 2 3 v2 rfl rfl)) hk2
  obtain ⟨cs3, rfl, _⟩ := okWide_struct Tryz.underlying31 (hval 3 31 v3 rfl rfl)
  obtain ⟨y3, hk3, hq3⟩ := opens_org.arg h3
  obtain rfl := arr_of (k31_open hk3)
  obtain ⟨a4, n4, c4, rfl⟩ := okWide_slice Tryz.underlying32 (hval 4 32 v4 rfl rfl)
  obtain ⟨l4, ⟨A4, C4, hcs4, hle4, hC4⟩, hq4⟩ := opensN_orgs.arg h4
  obtain ⟨rfl, rfl, rfl⟩ := slice_of hcs4
  obtain ⟨cs5, rfl, _⟩ := okWide_struct Tryz.underlying31 (hval 5 31 v5 rfl rfl)
  obtain ⟨y5, hk5, hq5⟩ := opens_org.arg h5
  obtain rfl := arr_of (k31_open hk5)
  have lt0 : ∀ x ∈ p0, x.block < W.heap.size := by obtain ⟨m, hm⟩ := h0; exact DataW.trod_lt m _ _ _ hm
  have lt1 : ∀ x ∈ p1, x.block < W.heap.size := by obtain ⟨m, hm⟩ := h1; exact DataW.trod_lt m _ _ _ hm
  have lt2 : ∀ x ∈ p2, x.block < W.heap.size := by obtain ⟨m, hm⟩ := h2; exact DataW.trod_lt m _ _ _ hm
  have lt3 : ∀ x ∈ p3, x.block < W.heap.size := by obtain ⟨m, hm⟩ := h3; exact DataW.trod_lt m _ _ _ hm
  have lt4 : ∀ x ∈ p4, x.block < W.heap.size := by obtain ⟨m, hm⟩ := h4; exact DataW.trod_lt m _ _ _ hm
  have lt5 : ∀ x ∈ p5, x.block < W.heap.size := by obtain ⟨m, hm⟩ := h5; exact DataW.trod_lt m _ _ _ hm
  have hb0 : Rows.uptoBulk d0 ≤ 1048576 := Nat.le_trans (bulk_mem (by simp)) hup
  have hb1 : Rows.uptoBulk d1 ≤ 1048576 := Nat.le_trans (bulk_mem (by simp)) hup
  have hb2 : Rows.uptoBulk d2 ≤ 1048576 := Nat.le_trans (bulk_mem (by simp)) hup
  have hb3 : Rows.uptoBulk d3 ≤ 1048576 := Nat.le_trans (bulk_mem (by simp)) hup
  have hb4 : Rows.uptoBulk d4 ≤ 1048576 := Nat.le_trans (bulk_mem (by simp)) hup
  have hb5 : Rows.uptoBulk d5 ≤ 1048576 := Nat.le_trans (bulk_mem (by simp)) hup
  have hM : Pure.Mod y0.1 := fun p hp => by have h9 := hq0.2 p hp; exact ⟨Nat.le_trans h9.1.1 hb0, Nat.le_trans h9.2.1 hb0, fun s hs => Nat.le_trans (h9.1.2 s hs) hb0⟩
  obtain ⟨k, h⟩ := Pure.EmbedMore y0.1 y0.2.1 y0.2.2.1 y0.2.2.2.1 y0.2.2.2.2 y1 y2 y3 l4 y5 hM (Nat.le_trans hq0.1 hb0) (Nat.le_trans hq4.1 hb4) 
  clear hA0 hval hval0 hsz0
  refine (X1.glacislaw18_EmbedMore.calls k _ _ y0.1 y0.2.1 y0.2.2.1 y0.2.2.2.1 y0.2.2.2.2 y1 y2 y3.f0 y3.f1 y3.f2 y3.f3.f0 y3.f3.f1 y3.f3.f2 y3.f4 _ _ l4 y5.f0 y5.f1 y5.f2 y5.f3.f0 y5.f3.f1 y5.f3.f2 y5.f4 true W hr0 hl0 hC4 hle4 hG h).mono fun e W' ⟨he, bel⟩ => ?_
  subst he
  exact ⟨_, rfl, _, _, _, [], _, [], hW', trodAll_mk1 (shut_bool Tryz.underlying4 _), (trodAll_cons_mk (Below.trod laidOut (by kernel_rfl) (of_decide_eq_true (by kernel_rfl)) h0 bel lt0) (trodAll_cons_mk (Below.trod laidOut (by kernel_rfl) (of_decide_eq_true (by kernel_rfl)) h1 bel lt1) (trodAll_cons_mk (Below.trod laidOut (by kernel_rfl) (of_decide_eq_true (by kernel_rfl)) h2 bel lt2) (trodAll_cons_mk (Below.trod laidOut (by kernel_rfl) (of_decide_eq_true (by kernel_rfl)) h3 bel lt3) (trodAll_cons_mk (Below.trod laidOut (by kernel_rfl) (of_decide_eq_true (by kernel_rfl)) h4 bel lt4) (trodAll_cons_mk (Below.trod laidOut (by kernel_rfl) (of_decide_eq_true (by kernel_rfl)) h5 bel lt5) trodAll_mk0)))))), rfl, bel.frame _, fun h => by cases h⟩
set_option maxRecDepth 100000 in
theorem reads (os : Os) {H : Type} (enc : TypeId × Value → H) : DataW.whole enc Tryz.prog ((World.laidAll Tryz.prog os seatLaid).forCall (fun _ _ => 0) ⟨#[], #[.agg #[.slice none 0 0, .int .i64 0, .string ByteArray.empty, .int .i64 0, .string ByteArray.empty], .int .i64 0, .int .i64 0, .agg #[.bool false, .int .i64 0, .string ByteArray.empty, .string ByteArray.empty, .bool false, .int .u32 0, .int .i64 0], .slice none 0 0, .agg #[.bool false, .int .i64 0, .string ByteArray.empty, .string ByteArray.empty, .bool false, .int .u32 0, .int .i64 0]], []⟩).memory Tryz.f5.params.toList Rows.embedMoreSpec.vars false (#[.agg #[.slice none 0 0, .int .i64 0, .string ByteArray.empty, .int .i64 0, .string ByteArray.empty], .int .i64 0, .int .i64 0, .agg #[.bool false, .int .i64 0, .string ByteArray.empty, .string ByteArray.empty, .bool false, .int .u32 0, .int .i64 0], .slice none 0 0, .agg #[.bool false, .int .i64 0, .string ByteArray.empty, .string ByteArray.empty, .bool false, .int .u32 0, .int .i64 0]] : Array Value).toList 8 = some ([.agg [.nil, .agg [.lit (.int .i64 0), .lit (.string []), .lit (.int .i64 0), .lit (.string [])]], .lit (.int .i64 0), .lit (.int .i64 0), .agg [.lit (.bool false), .lit (.int .i64 0), .lit (.string []), .agg [.lit (.string []), .lit (.bool false), .lit (.int .u32 0)], .lit (.int .i64 0)], .nil, .agg [.lit (.bool false), .lit (.int .i64 0), .lit (.string []), .agg [.lit (.string []), .lit (.bool false), .lit (.int .u32 0)], .lit (.int .i64 0)]], [], []) := by kernel_rfl
set_option maxRecDepth 100000 in
theorem lifted (os : Os) (started : os.Started) (H : Type) (enc : TypeId × Value → H) (F : Stop.Interp) :
    ReturnsInHanded {} Tryz.checked os 5 .any ((Rows.OpenSpec.upto Rows.embedMoreSpec).preRow enc Tryz.prog Tryz.f5 Rows.embedMoreUptoRow.domain false Rows.embedMoreUptoRow.laid) (((Rows.OpenSpec.upto Rows.embedMoreSpec).at F).post enc Tryz.prog Tryz.f5 false true false false) := by
  refine returnsInHanded_of_row (C := Tryz.checked) (s := (Rows.OpenSpec.upto Rows.embedMoreSpec)) own started (by kernel_rfl) Tryz.func5
    (witness_laid (enc := enc) (C := Tryz.checked) false (World.laidAll Tryz.prog os seatLaid) #[.agg #[.slice none 0 0, .int .i64 0, .string ByteArray.empty, .int .i64 0, .string ByteArray.empty], .int .i64 0, .int .i64 0, .agg #[.bool false, .int .i64 0, .string ByteArray.empty, .string ByteArray.empty, .bool false, .int .u32 0, .int .i64 0], .slice none 0 0, .agg #[.bool false, .int .i64 0, .string ByteArray.empty, .string ByteArray.empty, .bool false, .int .u32 0, .int .i64 0]] (World.laidAll_os _ _ _) (World.shaped_of_ZipB (by kernel_rfl) (by kernel_rfl)) (by kernel_rfl)
      (OpenSpec.preRow_of_cond (s := (Rows.OpenSpec.upto Rows.embedMoreSpec)) 8 (reads os enc) (by kernel_rfl) (fun k hk => by cases hk; kernel_rfl) (by kernel_rfl) (laid_met os _))) ?_
  intro W base args ds gs before hval hW _ hcond hsz hL hsh _
  exact contract H enc W base args ds gs before hval hW hsz hL hsh (of_decide_eq_true (hcond _ rfl))
theorem said : Rows.EmbedMoreUptoSaid :=
  OpenClaim.holds_of_cond 5 Tryz.f5 rfl rfl rfl rfl rfl rfl rfl ⟨rfl, rfl, rfl, rfl, rfl⟩ rfl rfl rfl rfl rfl (by kernel_rfl) Tryz.func5 (by kernel_rfl)
    (of_decide_eq_true (by kernel_rfl)) (by unfold Func.isWrapper; first | (rw [if_pos (by decide +kernel)]; kernel_rfl) | (rw [if_neg (by decide +kernel)]; exact ⟨rfl, rfl⟩))
    (fun os started H enc _ F => by rw [OpenClaim.pre_eq_preRow]; exact lifted os started H enc F)
theorem plain (f : FuncId) (fn : Func) (hf : Tryz.pinned.checked.prog.funcNamed "glacis/glacislaw18.EmbedMore" = some f) (hfn : Tryz.pinned.checked.prog.funcs[f]? = some fn) :
    false = Tryz.pinned.checked.prog.looks [] ∧ ∀ (j : Nat) t, fn.params[j]? = some t → Tryz.pinned.checked.prog.wantsStandIn t = false := by
  obtain rfl : f = 5 := Option.some.inj ((show Tryz.prog.funcNamed "glacis/glacislaw18.EmbedMore" = some 5 by kernel_rfl).symm.trans hf) |>.symm
  obtain rfl : fn = Tryz.f5 := (Option.some.inj (Tryz.func5.symm.trans hfn)).symm
  refine ⟨by kernel_rfl, fun j t ht => ?_⟩
  rw [Tryz.params5] at ht
  have hm : t ∈ ([26, 3, 3, 31, 32, 31] : List TypeId) := by simpa using Array.mem_of_getElem? ht
  have hall : (([26, 3, 3, 31, 32, 31] : List TypeId).all fun u => !Tryz.prog.wantsStandIn u) = true := by kernel_rfl
  exact (show Tryz.prog.wantsStandIn t = false by simpa using List.all_eq_true.1 hall t hm)
end Go.Proofs.YtgmacggbhcodjaaGreatDoor.rowEmbedMore
namespace Go.Proofs.YtgmacggbhcodjaaGreatDoor
theorem embedMoreUpto_card : Rows.EmbedMoreUptoCardSaid :=
  Claim7.holds_tied_plain_at .later [] _ _ _ _ rowEmbedMore.said (fun _ h => by cases h) (by kernel_rfl) (fun _ h => by cases h) embedMoreUpto_row_tie rfl ⟨rfl, rfl⟩ (by kernel_rfl) rfl rowEmbedMore.plain (by kernel_rfl)
#print axioms embedMoreUpto_card
end Go.Proofs.YtgmacggbhcodjaaGreatDoor

