/- A part of the claim EmbedNames: F. -/
import Derived.Test.YtgmacggbhcodjaaDoorZEmbedNamesA0
import Derived.Test.YtgmacggbhcodjaaDoorZEmbedNamesA1
import Derived.Test.YtgmacggbhcodjaaDoorZEmbedNamesA2
import Derived.Test.YtgmacggbhcodjaaDoorZEmbedNamesA3
import Derived.Test.YtgmacggbhcodjaaDoorZEmbedNamesA5
import Derived.Test.YtgmacggbhcodjaaDoorZEmbedNamesA6
import Derived.Test.YtgmacggbhcodjaaDoorZEmbedNamesA8
import Derived.Test.YtgmacggbhcodjaaDoorZEmbedNamesA9
import Derived.Test.YtgmacggbhcodjaaDoorZEmbedNamesB2
import Derived.Test.YtgmacggbhcodjaaDoorZEmbedNamesB3
import Derived.Test.YtgmacggbhcodjaaDoorZEmbedNamesB6
import Derived.Test.YtgmacggbhcodjaaDoorZEmbedNamesB7
import Derived.Test.YtgmacggbhcodjaaDoorZEmbedNamesB8
import Derived.Test.YtgmacggbhcodjaaDoorZEmbedNamesB9
import Derived.Test.YtgmacggbhcodjaaDoorZEmbedNamesBF
import Derived.Test.YtgmacggbhcodjaaDoorZEmbedNamesWWords
import Derived.Test.YtgmacggbhcodjaaDoorZEmbedNamesWLast
import Derived.Test.YtgmacggbhcodjaaDoorZEmbedNamesWApart
import Derived.Test.YtgmacggbhcodjaaDoorZEmbedNamesWShare
import Derived.Test.YtgmacggbhcodjaaDoorZEmbedNamesWN
import Derived.Test.YtgmacggbhcodjaaDoorZEmbedNamesWAt
import Derived.Test.YtgmacggbhcodjaaDoorZEmbedNamesWEqStruct
import Derived.Test.YtgmacggbhcodjaaDoorZEmbedNamesWGuard
import Derived.Test.YtgmacggbhcodjaaDoorZEmbedNamesWMore
import Derived.Test.YtgmacggbhcodjaaDoorZEmbedNamesK
import Derived.Test.YtgmacggbhcodjaaDoorProg
import Derived.Below
import Derived.Deep.Draws
import Derived.Deep.AppendLies
import Derived.Maps.AppendAt
import Derived.OwnWalk
import Derived.Laws.BytesArg
import Derived.Laws.MakeOwn
import Derived.Laws.OwnMore
import Derived.Deep.OwnRows
import Derived.Tactics
import Derived.Lib.ConvBytes
import Derived.Laws.Slices
import Derived.WalkKit
import Derived.KernelRfl
import Derived.RowKit3
import Derived.Deep.LoopGhost
import Derived.Deep.QuietTactic
import Derived.BigQuiet
import Derived.WideLaws
import Derived.Deep.DeepCutAuto
import Derived.Deep.CutBlock
import Derived.Deep.RegionHeld3
import Derived.Laws.Rows
import Derived.Lib.AppendStr
import Derived.ArgAppend
import Derived.Laws.IdiomCopy
import Derived.OrdersHeld
import Derived.Laws.BitsLemmas
import Derived.RowKit

namespace Go.Proofs.YtgmacggbhcodjaaDoor.F
open Go.RowKit Go.Proofs.YtgmacggbhcodjaaDoor.Q Go.Proofs.YtgmacggbhcodjaaDoorW.PrintWords Go.Proofs.YtgmacggbhcodjaaDoorW.PrintLast Go.Proofs.YtgmacggbhcodjaaDoorW.PrintMore
attribute [local go_sem] max2_int max_two
set_option linter.unusedVariables false
set_option linter.unusedSimpArgs false

def glacislaw18_EmbedNames.f  : Option (Bool) := (glacislaw18_awake.f).bind fun t101 => (if t101 = true then (some true) else (some false))
set_option maxHeartbeats 8000000 in
set_option maxRecDepth 100000 in
theorem glacislaw18_EmbedNames.calls  (r : Bool) (w : World) (hG : Gw w) (h : glacislaw18_EmbedNames.f  = some r) :
    Calls Tryd.prog 5 #[] w fun e w' => e = .returned (.bool r) ∧ Below w.heap.size w w' := by
  have HG_ := Aside0.mk hG
  clear hG
  have HB := Aside0.mk (Below.refl w.heap.size w)
  have H : ((glacislaw18_awake.f).bind fun t101 => (if t101 = true then (some true) else (some false))) = some r := h
  clear h
  replace H := Option.bind_eq_some_iff.mp H
  obtain ⟨t101, A10, H⟩ := H
  replace H : (if t101 = true then (some true) else (some false)) = some r := H
  have A1 := Aside0.mk A10
  clear A10
  by_cases c2 : t101 = true
  · subst c2
    have H1 : (some true) = some r := by rw [if_pos rfl] at H; exact H
    clear H
    have H := H1
    clear H1
    obtain rfl := Option.some.inj H
    go_enter Tryd.func5, Tryd.ntmps5
    go_wp2_with (first | ((with_reducible refine gate_callee (f := 22) rfl ?_); refine goesL_ (some 2) rfl rfl Tryd.func22 (by kernel_rfl) rfl #[] rfl (by (try simp only [List.map_toArray, List.map_cons, List.map_nil]); first | done | rfl | (simp only [List.length_drop, List.length_take]; rfl)) ?_; (with_reducible refine (glacislaw18_awake.calls  true _ (Gw.to HG_.out (by repeat (first | (with_reducible first | exact HB.out | apply below_alloc | apply pw_below_drewN | apply below_drew1) | exact HB.out))) A1.out).mono ?_); rintro e w3 ⟨rfl, hb⟩; refine ⟨_, rfl, ?_⟩; have n0_ := Aside0.mk (below_step (by repeat (first | (with_reducible first | exact HB.out | apply below_alloc | apply pw_below_drewN | apply below_drew1) | exact HB.out)) hb); clear HB; have HB := n0_; clear n0_; (try clear hb); (try clear hb2); (try clear hk); (try clear hi)))
    go_ret
    exact ⟨by first | rfl | (simp [errW_none, errW_some] <;> rfl) | (simp [*, errW_none, errW_some] <;> rfl), by repeat (first | (with_reducible first | exact HB.out | apply below_alloc | apply pw_below_drewN | apply below_drew1) | exact HB.out)⟩
  · replace c2 := Bool.eq_false_iff.mpr c2
    subst c2
    have H1 : (some false) = some r := by rw [if_neg (show ¬ (false = true) by decide)] at H; exact H
    clear H
    have H := H1
    clear H1
    obtain rfl := Option.some.inj H
    go_enter Tryd.func5, Tryd.ntmps5
    go_wp2_with (first | ((with_reducible refine gate_callee (f := 22) rfl ?_); refine goesL_ (some 2) rfl rfl Tryd.func22 (by kernel_rfl) rfl #[] rfl (by (try simp only [List.map_toArray, List.map_cons, List.map_nil]); first | done | rfl | (simp only [List.length_drop, List.length_take]; rfl)) ?_; (with_reducible refine (glacislaw18_awake.calls  false _ (Gw.to HG_.out (by repeat (first | (with_reducible first | exact HB.out | apply below_alloc | apply pw_below_drewN | apply below_drew1) | exact HB.out))) A1.out).mono ?_); rintro e w4 ⟨rfl, hb⟩; refine ⟨_, rfl, ?_⟩; have n0_ := Aside0.mk (below_step (by repeat (first | (with_reducible first | exact HB.out | apply below_alloc | apply pw_below_drewN | apply below_drew1) | exact HB.out)) hb); clear HB; have HB := n0_; clear n0_; (try clear hb); (try clear hb2); (try clear hk); (try clear hi)))
    go_ret
    exact ⟨by first | rfl | (simp [errW_none, errW_some] <;> rfl) | (simp [*, errW_none, errW_some] <;> rfl), by repeat (first | (with_reducible first | exact HB.out | apply below_alloc | apply pw_below_drewN | apply below_drew1) | exact HB.out)⟩

end Go.Proofs.YtgmacggbhcodjaaDoor.F

