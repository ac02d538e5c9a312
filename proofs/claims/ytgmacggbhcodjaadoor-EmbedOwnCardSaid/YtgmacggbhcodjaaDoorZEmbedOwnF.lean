/- A part of the claim EmbedOwn: F. -/
import Derived.Test.YtgmacggbhcodjaaDoorZEmbedOwnA0
import Derived.Test.YtgmacggbhcodjaaDoorZEmbedOwnA1
import Derived.Test.YtgmacggbhcodjaaDoorZEmbedOwnA2
import Derived.Test.YtgmacggbhcodjaaDoorZEmbedOwnA3
import Derived.Test.YtgmacggbhcodjaaDoorZEmbedOwnA5
import Derived.Test.YtgmacggbhcodjaaDoorZEmbedOwnA6
import Derived.Test.YtgmacggbhcodjaaDoorZEmbedOwnA8
import Derived.Test.YtgmacggbhcodjaaDoorZEmbedOwnA9
import Derived.Test.YtgmacggbhcodjaaDoorZEmbedOwnB2
import Derived.Test.YtgmacggbhcodjaaDoorZEmbedOwnB3
import Derived.Test.YtgmacggbhcodjaaDoorZEmbedOwnB6
import Derived.Test.YtgmacggbhcodjaaDoorZEmbedOwnB7
import Derived.Test.YtgmacggbhcodjaaDoorZEmbedOwnB8
import Derived.Test.YtgmacggbhcodjaaDoorZEmbedOwnB9
import Derived.Test.YtgmacggbhcodjaaDoorZEmbedOwnBF
import Derived.Test.YtgmacggbhcodjaaDoorZEmbedOwnBM
import Derived.Test.YtgmacggbhcodjaaDoorZEmbedOwnBP
import Derived.Test.YtgmacggbhcodjaaDoorZEmbedOwnWWords
import Derived.Test.YtgmacggbhcodjaaDoorZEmbedOwnWLast
import Derived.Test.YtgmacggbhcodjaaDoorZEmbedOwnWApart
import Derived.Test.YtgmacggbhcodjaaDoorZEmbedOwnWShare
import Derived.Test.YtgmacggbhcodjaaDoorZEmbedOwnWN
import Derived.Test.YtgmacggbhcodjaaDoorZEmbedOwnWAt
import Derived.Test.YtgmacggbhcodjaaDoorZEmbedOwnWEqStruct
import Derived.Test.YtgmacggbhcodjaaDoorZEmbedOwnWGuard
import Derived.Test.YtgmacggbhcodjaaDoorZEmbedOwnWMore
import Derived.Test.YtgmacggbhcodjaaDoorZEmbedOwnK
import Derived.Test.YtgmacggbhcodjaaDoorProg
import Derived.Below
import Derived.Deep.Draws
import Derived.Deep.AppendLies
import Derived.Maps.AppendAt
import Derived.OwnWalk
import Derived.Laws.BytesArg
import Derived.Laws.MakeOwn
import Derived.Laws.OwnMore
import Derived.Deep.OwnRows
import Derived.Tactics
import Derived.Lib.ConvBytes
import Derived.Laws.Slices
import Derived.WalkKit
import Derived.KernelRfl
import Derived.RowKit3
import Derived.Deep.LoopGhost
import Derived.Deep.QuietTactic
import Derived.BigQuiet
import Derived.WideLaws
import Derived.Deep.DeepCutAuto
import Derived.Deep.CutBlock
import Derived.Deep.RegionHeld3
import Derived.Laws.Rows
import Derived.Lib.AppendStr
import Derived.ArgAppend
import Derived.Laws.IdiomCopy
import Derived.OrdersHeld
import Derived.Laws.BitsLemmas
import Derived.RowKit

namespace Go.Proofs.YtgmacggbhcodjaaDoor.F
open Go.RowKit Go.Proofs.YtgmacggbhcodjaaDoor.Q Go.Proofs.YtgmacggbhcodjaaDoorW.PrintWords Go.Proofs.YtgmacggbhcodjaaDoorW.PrintLast Go.Proofs.YtgmacggbhcodjaaDoorW.PrintMore
attribute [local go_sem] max2_int max_two
set_option linter.unusedVariables false
set_option linter.unusedSimpArgs false

mutual
def glacislaw18_few.j0 : Nat → List (S35) → Bool → Option (Bool)
  | 0, _, _ => none
  | k + 1, x1, x15 => if x15 = true then (some false) else (glacislaw18_few.l0 k x1 0)
def glacislaw18_few.l0 : Nat → List (S35) → Int → Option (Bool)
  | 0, _, _ => none
  | k + 1, x1, x5 => if x5 < (x1.length : Int) then (if 0 ≤ x5 then (if (((rd_T35 x1 x5).f3.f0).size : Int) > 1000 then (some false) else (glacislaw18_few.l0 k x1 (wrap64 (x5 + 1)))) else (none)) else (some true)
end
def glacislaw18_few.f (k : Nat) (a0_0 : Bool) (a0_1 : Int) (a0_2 : ByteArray) (a0_3 : ByteArray) (a0_4 : Bool) (a0_5 : Int) (a0_6 : Int) (l1 : List (S35)) : Option (Bool) := if (l1.length : Int) > 40 then (glacislaw18_few.j0 k l1 true) else (glacislaw18_few.j0 k l1 (decide ((a0_3.size : Int) > 1000)))
set_option maxHeartbeats 8000000 in
set_option maxRecDepth 100000 in
theorem glacislaw18_few.calls (k : Nat) (a0_0 : Bool) (a0_1 : Int) (a0_2 : ByteArray) (a0_3 : ByteArray) (a0_4 : Bool) (a0_5 : Int) (a0_6 : Int) (A1 : Option Addr) (c1 : Nat) (l1 : List (S35)) (r : Bool) (w : World) (hr1 : Kd.C k35 w A1 l1.length l1) (hc1 : l1.length ≤ c1) (h : glacislaw18_few.f k a0_0 a0_1 a0_2 a0_3 a0_4 a0_5 a0_6 l1 = some r) :
    Calls Tryd.prog 24 #[.agg #[.bool a0_0, .int .i64 a0_1, .string a0_2, .string a0_3, .bool a0_4, .int .u32 a0_5, .int .i64 a0_6], .slice A1 l1.length c1] w fun e w' => e = .returned (.bool r) ∧ Below w.heap.size w w' := by
  have hu35 := Tryd.underlying35
  have HR1 := Aside0.mk hr1
  have HC1 := Aside0.mk hc1
  clear hr1 hc1
  have HB := Aside0.mk (Below.refl w.heap.size w)
  have H : (if (l1.length : Int) > 40 then (glacislaw18_few.j0 k l1 true) else (glacislaw18_few.j0 k l1 (decide ((a0_3.size : Int) > 1000)))) = some r := h
  clear h
  have HC3 := Aside0.mk H
  clear H
  go_enter Tryd.func24, Tryd.ntmps24
  go_upto_region 1 with (first | ((with_reducible refine gate_dst (N := 2) rfl ?_); (try (refine gate_guard (by rfl) ?_; dsimp only)); refine box_event ?hg (N := 2) ?hd (cs := #[.bool a0_0, .int .i64 a0_1, .string a0_2, .string a0_3, .bool a0_4, .int .u32 a0_5, .int .i64 a0_6]) (t := 35) ?hr ?_; (case hd => rfl); (case hg => rfl); (case hr => first | (go_simp; done) | (go_simp; rfl)); intro gb102 hg w4 hbox hb; have n0_ := Aside0.mk (below_step (by repeat (first | (with_reducible first | exact HB.out | apply below_alloc | apply pw_below_drewN | apply below_drew1) | exact HB.out)) hb); have n1_ := Aside0.mk (hbox); have n2_ := Aside0.mk ((by rw [hg]; exact (below_size (by repeat (first | (with_reducible first | exact HB.out | apply below_alloc | apply pw_below_drewN | apply below_drew1) | exact HB.out))) : w.heap.size ≤ gb102)); have n3_ := Aside0.mk ((by rw [hg]; exact (below_size (by repeat (first | (with_reducible first | exact HB.out | apply below_alloc | apply pw_below_drewN | apply below_drew1) | exact HB.out))) : w.heap.size ≤ gb102)); clear HB; have HB := n0_; have BK102 := n1_; have GW102 := n2_; have GE102 := n3_; clear n0_ n1_ n2_ n3_; clear hb hbox hg))
  (try simp only [Act.put, List.setIfInBounds_toArray, List.set_cons_zero, List.set_cons_succ])
  go_cut [15] (fun v15 wc => ∃ (kq : Nat) (x15_2 : Bool), v15 = .bool x15_2 ∧ Aside0 (glacislaw18_few.j0 kq l1 x15_2 = some r) ∧ Aside0 (kq ≤ k) ∧ Aside0 (wc.heap[gb102]? = some (.cells #[.bool a0_0, .int .i64 a0_1, .string a0_2, .string a0_3, .bool a0_4, .int .u32 a0_5, .int .i64 a0_6] 35 (0, 0))) ∧ Aside0 (Below w.heap.size w wc))
  case first =>
    have H := HC3.out
    clear HC3
    by_cases c5 : (l1.length : Int) > 40
    · rw [if_pos c5] at H
      have c5b0 : decide (40 < (l1.length : Int)) = true := decide_eq_true c5
      have c5b1 : decide (40 < l1.length) = true := decide_eq_true (by omega)
      clear c5
      (first | rw [c5b0] | (simp only [i64_w, i32_w]; rw [c5b0]) | skip)
      have H' := Aside0.mk H
      clear H
      go_wp2
      go_meet
      case rel => exact ⟨_, (true), (by first | rfl | (simp; done) | (simp [*]; done) | (simp [ne_nil_bool]; done)), H', ⟨by first | omega | exact Nat.le_refl _⟩, ⟨by (with_reducible repeat (first | refine blk_drewN ?_ _ | refine blk_drew ?_ | refine blk_alloc ?_ _)); exact BK102.out⟩, ⟨by repeat (first | (with_reducible first | exact HB.out | apply below_alloc | apply pw_below_drewN | apply below_drew1 | refine below_set ?_ GE102.out) | exact HB.out)⟩⟩
    · rw [if_neg c5] at H
      have c5b0 : decide (40 < (l1.length : Int)) = false := decide_eq_false c5
      have c5b1 : decide (40 < l1.length) = false := decide_eq_false (by omega)
      clear c5
      (first | rw [c5b0] | (simp only [i64_w, i32_w]; rw [c5b0]) | skip)
      have H' := Aside0.mk H
      clear H
      have hcz6_0 : w4.cell? ⟨gb102, 0, none⟩ = some (.bool a0_0) := (blk_cell BK102.out 0).trans rfl
      have hcz6_1 : w4.cell? ⟨gb102, 1, none⟩ = some (.int .i64 a0_1) := (blk_cell BK102.out 1).trans rfl
      have hcz6_2 : w4.cell? ⟨gb102, 2, none⟩ = some (.string a0_2) := (blk_cell BK102.out 2).trans rfl
      have hcz6_3 : w4.cell? ⟨gb102, 3, none⟩ = some (.string a0_3) := (blk_cell BK102.out 3).trans rfl
      have hcz6_4 : w4.cell? ⟨gb102, 4, none⟩ = some (.bool a0_4) := (blk_cell BK102.out 4).trans rfl
      have hcz6_5 : w4.cell? ⟨gb102, 5, none⟩ = some (.int .u32 a0_5) := (blk_cell BK102.out 5).trans rfl
      have hcz6_6 : w4.cell? ⟨gb102, 6, none⟩ = some (.int .i64 a0_6) := (blk_cell BK102.out 6).trans rfl
      have hfz6_0 := blk_frozen BK102.out 0
      have hfz6_1 := blk_frozen BK102.out 1
      have hfz6_2 := blk_frozen BK102.out 2
      have hfz6_3 := blk_frozen BK102.out 3
      have hfz6_4 := blk_frozen BK102.out 4
      have hfz6_5 := blk_frozen BK102.out 5
      have hfz6_6 := blk_frozen BK102.out 6
      go_wp2
      go_meet
      case rel => exact ⟨_, (decide ((a0_3.size : Int) > 1000)), (by first | rfl | (simp; done) | (simp [*]; done) | (simp [ne_nil_bool]; done)), H', ⟨by first | omega | exact Nat.le_refl _⟩, ⟨by (with_reducible repeat (first | refine blk_drewN ?_ _ | refine blk_drew ?_ | refine blk_alloc ?_ _)); exact BK102.out⟩, ⟨by repeat (first | (with_reducible first | exact HB.out | apply below_alloc | apply pw_below_drewN | apply below_drew1 | refine below_set ?_ GE102.out) | exact HB.out)⟩⟩
  case rest =>
    clear HC3
    try clear c1
    try clear c2
    try clear p2
    try clear c5
    try clear c5b0
    try clear c5b1
    try clear hcz6_0
    try clear hcz6_1
    try clear hcz6_2
    try clear hcz6_3
    try clear hcz6_4
    try clear hcz6_5
    try clear hcz6_6
    try clear hfz6_0
    try clear hfz6_1
    try clear hfz6_2
    try clear hfz6_3
    try clear hfz6_4
    try clear hfz6_5
    try clear hfz6_6
    obtain ⟨kq, x15_2, rfl, HA, HJ2, BK102, HB⟩ := hcut
    cases kq with
    | zero => exact absurd HA.out (by simp [glacislaw18_few.j0])
    | succ kj2 =>
      have H := HA.out
      clear HA
      simp only [glacislaw18_few.j0] at H
      by_cases c7 : x15_2 = true
      · subst c7
        have H1 : (some false) = some r := by rw [if_pos rfl] at H; exact H
        clear H
        have H := H1
        clear H1
        obtain rfl := Option.some.inj H
        go_wp2
        go_ret
        exact ⟨by first | rfl | (simp [errW_none, errW_some] <;> rfl) | (simp [*, errW_none, errW_some] <;> rfl), by repeat (first | (with_reducible first | exact HB.out | apply below_alloc | apply pw_below_drewN | apply below_drew1 | refine below_set ?_ GE102.out) | exact HB.out)⟩
      · replace c7 := Bool.eq_false_iff.mpr c7
        subst c7
        have H1 : (glacislaw18_few.l0 kj2 l1 0) = some r := by rw [if_neg (show ¬ (false = true) by decide)] at H; exact H
        clear H
        have H := H1
        clear H1
        have H' := Aside0.mk H
        clear H
        go_wp2
        go_loopg [5] kj2 (fun kq v5 w' => ∃ (x5_2 : Int), v5 = .int .i64 x5_2 ∧ Aside0 (glacislaw18_few.l0 kq l1 x5_2 = some r) ∧ Aside0 (kq ≤ kj2) ∧ Aside0 (w'.heap[gb102]? = some (.cells #[.bool a0_0, .int .i64 a0_1, .string a0_2, .string a0_3, .bool a0_4, .int .u32 a0_5, .int .i64 a0_6] 35 (0, 0))) ∧ Aside0 (Below w.heap.size w w'))
        case atStart => exact ⟨(0), (by first | rfl | (simp; done) | (simp [*]; done) | (simp [ne_nil_bool]; done)), H', ⟨Nat.le_refl _⟩, ⟨by (with_reducible repeat (first | refine blk_drewN ?_ _ | refine blk_drew ?_ | refine blk_alloc ?_ _)); exact BK102.out⟩, ⟨by repeat (first | (with_reducible first | exact HB.out | apply below_alloc | apply pw_below_drewN | apply below_drew1 | refine below_set ?_ GE102.out) | exact HB.out)⟩⟩
        case round =>
          clear H'
          try clear c1
          try clear c2
          try clear p2
          try clear c5
          try clear c5b0
          try clear c5b1
          try clear c7
          try clear hcz6_0
          try clear hcz6_1
          try clear hcz6_2
          try clear hcz6_3
          try clear hcz6_4
          try clear hcz6_5
          try clear hcz6_6
          try clear hfz6_0
          try clear hfz6_1
          try clear hfz6_2
          try clear hfz6_3
          try clear hfz6_4
          try clear hfz6_5
          try clear hfz6_6
          try clear p2
          obtain ⟨x5_2, rfl, HA, HK2, BK102, HB⟩ := hrel
          cases gk with
          | zero => exact absurd HA.out (by simp [glacislaw18_few.l0])
          | succ k2 =>
            have H := HA.out
            clear HA
            simp only [glacislaw18_few.l0] at H
            by_cases c8 : x5_2 < (l1.length : Int)
            · rw [if_pos c8] at H
              have c8b0 : decide (x5_2 < (l1.length : Int)) = true := decide_eq_true c8
              clear c8
              by_cases c9 : 0 ≤ x5_2
              · rw [if_pos c9] at H
                have c9b0 : decide (0 ≤ x5_2) = true := decide_eq_true c9
                clear c9
                by_cases c10 : (((rd_T35 l1 x5_2).f3.f0).size : Int) > 1000
                · rw [if_pos c10] at H
                  have c10b0 : decide (1000 < (((rd_T35 l1 x5_2).f3.f0).size : Int)) = true := decide_eq_true c10
                  have c10b1 : decide (1000 < ((rd_T35 l1 x5_2).f3.f0).size) = true := decide_eq_true (by omega)
                  clear c10
                  obtain rfl := Option.some.inj H
                  have p103 : 0 ≤ (x5_2 : Int) := of_decide_eq_true (by first | (with_reducible assumption) | assumption)
                  have q103 : x5_2 < (l1.length : Int) := of_decide_eq_true (by first | (with_reducible assumption) | assumption)
                  obtain ⟨ad103, e103, hx103_0, hx103_1, hx103_2, hx103_3, hx103_4, hx103_5, hx103_6⟩ := at_T35 HR1.out x5_2 p103 q103
                  cases e103
                  replace hx103_0 := (HB.out.cell (World.block_lt_of_cell? w _ hx103_0)).trans hx103_0
                  replace hx103_1 := (HB.out.cell (World.block_lt_of_cell? w _ hx103_1)).trans hx103_1
                  replace hx103_2 := (HB.out.cell (World.block_lt_of_cell? w _ hx103_2)).trans hx103_2
                  replace hx103_3 := (HB.out.cell (World.block_lt_of_cell? w _ hx103_3)).trans hx103_3
                  replace hx103_4 := (HB.out.cell (World.block_lt_of_cell? w _ hx103_4)).trans hx103_4
                  replace hx103_5 := (HB.out.cell (World.block_lt_of_cell? w _ hx103_5)).trans hx103_5
                  replace hx103_6 := (HB.out.cell (World.block_lt_of_cell? w _ hx103_6)).trans hx103_6
                  replace p103 := eq_true p103
                  replace q103 := eq_true q103
                  go_wp2
                  go_ret
                  exact ⟨by first | rfl | (simp [errW_none, errW_some] <;> rfl) | (simp [*, errW_none, errW_some] <;> rfl), by repeat (first | (with_reducible first | exact HB.out | apply below_alloc | apply pw_below_drewN | apply below_drew1 | refine below_set ?_ GE102.out) | exact HB.out)⟩
                · rw [if_neg c10] at H
                  have c10b0 : decide (1000 < (((rd_T35 l1 x5_2).f3.f0).size : Int)) = false := decide_eq_false c10
                  have c10b1 : decide (1000 < ((rd_T35 l1 x5_2).f3.f0).size) = false := decide_eq_false (by omega)
                  clear c10
                  have H' := Aside0.mk H
                  clear H
                  have p103 : 0 ≤ (x5_2 : Int) := of_decide_eq_true (by first | (with_reducible assumption) | assumption)
                  have q103 : x5_2 < (l1.length : Int) := of_decide_eq_true (by first | (with_reducible assumption) | assumption)
                  obtain ⟨ad103, e103, hx103_0, hx103_1, hx103_2, hx103_3, hx103_4, hx103_5, hx103_6⟩ := at_T35 HR1.out x5_2 p103 q103
                  cases e103
                  replace hx103_0 := (HB.out.cell (World.block_lt_of_cell? w _ hx103_0)).trans hx103_0
                  replace hx103_1 := (HB.out.cell (World.block_lt_of_cell? w _ hx103_1)).trans hx103_1
                  replace hx103_2 := (HB.out.cell (World.block_lt_of_cell? w _ hx103_2)).trans hx103_2
                  replace hx103_3 := (HB.out.cell (World.block_lt_of_cell? w _ hx103_3)).trans hx103_3
                  replace hx103_4 := (HB.out.cell (World.block_lt_of_cell? w _ hx103_4)).trans hx103_4
                  replace hx103_5 := (HB.out.cell (World.block_lt_of_cell? w _ hx103_5)).trans hx103_5
                  replace hx103_6 := (HB.out.cell (World.block_lt_of_cell? w _ hx103_6)).trans hx103_6
                  replace p103 := eq_true p103
                  replace q103 := eq_true q103
                  go_wp2
                  go_roundg k2
                  case measure => have := HJ2.out; have := HK2.out; omega
                  case rel => exact ⟨(wrap64 (x5_2 + 1)), (by first | rfl | (simp; done) | (simp [*]; done) | (simp [ne_nil_bool]; done)), H', ⟨by have := HJ2.out; have := HK2.out; omega⟩, ⟨by (with_reducible repeat (first | refine blk_drewN ?_ _ | refine blk_drew ?_ | refine blk_alloc ?_ _)); exact BK102.out⟩, ⟨by repeat (first | (with_reducible first | exact HB.out | apply below_alloc | apply pw_below_drewN | apply below_drew1 | refine below_set ?_ GE102.out) | exact HB.out)⟩⟩
              · rw [if_neg c9] at H
                exact absurd H (by simp)
            · rw [if_neg c8] at H
              have c8b0 : decide (x5_2 < (l1.length : Int)) = false := decide_eq_false c8
              clear c8
              obtain rfl := Option.some.inj H
              go_wp2
              go_ret
              exact ⟨by first | rfl | (simp [errW_none, errW_some] <;> rfl) | (simp [*, errW_none, errW_some] <;> rfl), by repeat (first | (with_reducible first | exact HB.out | apply below_alloc | apply pw_below_drewN | apply below_drew1 | refine below_set ?_ GE102.out) | exact HB.out)⟩

end Go.Proofs.YtgmacggbhcodjaaDoor.F

namespace Go.Proofs.YtgmacggbhcodjaaDoor.F
open Go.RowKit Go.Proofs.YtgmacggbhcodjaaDoor.Q Go.Proofs.YtgmacggbhcodjaaDoorW.PrintWords Go.Proofs.YtgmacggbhcodjaaDoorW.PrintLast Go.Proofs.YtgmacggbhcodjaaDoorW.PrintMore
attribute [local go_sem] max2_int max_two
set_option linter.unusedVariables false
set_option linter.unusedSimpArgs false

mutual
def glacislaw18_EmbedOwn.j0 : Nat → List (S35) → Int → Bool → Bool → Int → ByteArray → ByteArray → Bool → Int → Int → Option (Bool)
  | 0, _, _, _, _, _, _, _, _, _, _ => none
  | k + 1, x1, x2, x7, x105000, x105001, x105002, x105003, x105004, x105005, x105006 => glacislaw18_EmbedOwn.l0 k x1 x2 x7 ([] : List (S35)) 0 x105000 x105001 x105002 x105003 x105004 x105005 x105006
def glacislaw18_EmbedOwn.l0 : Nat → List (S35) → Int → Bool → List (S35) → Int → Bool → Int → ByteArray → ByteArray → Bool → Int → Int → Option (Bool)
  | 0, _, _, _, _, _, _, _, _, _, _, _, _ => none
  | k + 1, x1, x2, x7, x9, x10, x105000, x105001, x105002, x105003, x105004, x105005, x105006 => if x10 ≤ (Int.tmod x2 20) then (if x9.length < 2199023255552 then (glacislaw18_EmbedOwn.l0 k x1 x2 x7 (x9 ++ [(⟨x105000, x105001, x105002, (⟨x105003, x105004, x105005⟩ : S26), x105006⟩ : S35)]) (wrap64 (x10 + 1)) x105000 x105001 x105002 x105003 x105004 x105005 x105006) else (none)) else (glacislaw18_EmbedOwn.l1 k x1 x7 x9 true 0 x105000 x105001 x105002 x105003 x105004 x105005 x105006)
def glacislaw18_EmbedOwn.l1 : Nat → List (S35) → Bool → List (S35) → Bool → Int → Bool → Int → ByteArray → ByteArray → Bool → Int → Int → Option (Bool)
  | 0, _, _, _, _, _, _, _, _, _, _, _, _ => none
  | k + 1, x1, x7, x9, x11, x12, x105000, x105001, x105002, x105003, x105004, x105005, x105006 => if x12 < (x1.length : Int) then (if 0 ≤ x12 then ((origin_Same.f x105000 x105001 x105002 x105003 x105004 x105005 x105006 ((rd_T35 x1 x12).f0) ((rd_T35 x1 x12).f1) ((rd_T35 x1 x12).f2) ((rd_T35 x1 x12).f3.f0) ((rd_T35 x1 x12).f3.f1) ((rd_T35 x1 x12).f3.f2) ((rd_T35 x1 x12).f4)).bind fun t111 => (if x11 = true then (glacislaw18_EmbedOwn.l1 k x1 x7 x9 t111 (wrap64 (x12 + 1)) x105000 x105001 x105002 x105003 x105004 x105005 x105006) else (glacislaw18_EmbedOwn.l1 k x1 x7 x9 false (wrap64 (x12 + 1)) x105000 x105001 x105002 x105003 x105004 x105005 x105006))) else (none)) else ((embed_Xfo.f 2 x105000 x105001 x105002 x105003 x105004 x105005 x105006 x9).bind fun t112 => (if t112 = true then ((embed_Xfo.f 1 x105000 x105001 x105002 x105003 x105004 x105005 x105006 x9).bind fun t113 => (glacislaw18_EmbedOwn.j3 k x1 x7 x11 (!t113) x105000 x105001 x105002 x105003 x105004 x105005 x105006)) else (glacislaw18_EmbedOwn.j3 k x1 x7 x11 false x105000 x105001 x105002 x105003 x105004 x105005 x105006)))
def glacislaw18_EmbedOwn.j3 : Nat → List (S35) → Bool → Bool → Bool → Bool → Int → ByteArray → ByteArray → Bool → Int → Int → Option (Bool)
  | 0, _, _, _, _, _, _, _, _, _, _, _ => none
  | k + 1, x1, x7, x11, x14, x105000, x105001, x105002, x105003, x105004, x105005, x105006 => (embed_Xfo.f 2 x105000 x105001 x105002 x105003 x105004 x105005 x105006 x1).bind fun t114 => (if (t114 == x11) = true then ((embed_Xfo.f 1 x105000 x105001 x105002 x105003 x105004 x105005 x105006 x1).bind fun t115 => (if x7 = true then (if x14 = true then (if (t115 == ((x1.length : Int) == 0)) = true then ((embed_Xfo.f 0 x105000 x105001 x105002 x105003 x105004 x105005 x105006 x1).bind fun t116 => (if t116 = true then ((embed_Xfo.f 3 x105000 x105001 x105002 x105003 x105004 x105005 x105006 x1).bind fun t117 => (some t117)) else (some false))) else (some false)) else (some false)) else (some false))) else (if x7 = true then (if x14 = true then (some false) else (some false)) else (some false)))
end
def glacislaw18_EmbedOwn.f (k : Nat) (a0_0 : Bool) (a0_1 : Int) (a0_2 : ByteArray) (a0_3 : ByteArray) (a0_4 : Bool) (a0_5 : Int) (a0_6 : Int) (l1 : List (S35)) (a2 : Int) : Option (Bool) := (glacislaw18_awake.f).bind fun t105 => ((glacislaw18_few.f k a0_0 a0_1 a0_2 a0_3 a0_4 a0_5 a0_6 l1).bind fun t106 => (if t106 = true then (if a2 < 0 then (glacislaw18_EmbedOwn.j0 k l1 (wrap64 (-(wrap64 (a2 + 1)))) t105 a0_0 a0_1 a0_2 a0_3 a0_4 a0_5 a0_6) else (glacislaw18_EmbedOwn.j0 k l1 a2 t105 a0_0 a0_1 a0_2 a0_3 a0_4 a0_5 a0_6)) else (some t105)))
set_option maxHeartbeats 8000000 in
set_option maxRecDepth 100000 in
theorem glacislaw18_EmbedOwn.calls (k : Nat) (a0_0 : Bool) (a0_1 : Int) (a0_2 : ByteArray) (a0_3 : ByteArray) (a0_4 : Bool) (a0_5 : Int) (a0_6 : Int) (A1 : Option Addr) (c1 : Nat) (l1 : List (S35)) (a2 : Int) (r : Bool) (w : World) (hr1 : Kd.C k35 w A1 l1.length l1) (hc1 : l1.length ≤ c1) (hG : Gw w) (h : glacislaw18_EmbedOwn.f k a0_0 a0_1 a0_2 a0_3 a0_4 a0_5 a0_6 l1 a2 = some r) :
    Calls Tryd.prog 7 #[.agg #[.bool a0_0, .int .i64 a0_1, .string a0_2, .string a0_3, .bool a0_4, .int .u32 a0_5, .int .i64 a0_6], .slice A1 l1.length c1, .int .i64 a2] w fun e w' => e = .returned (.bool r) ∧ Below w.heap.size w w' := by
  have HG_ := Aside0.mk hG
  clear hG
  have hu35 := Tryd.underlying35
  have HR1 := Aside0.mk hr1
  have HC1 := Aside0.mk hc1
  clear hr1 hc1
  have HB := Aside0.mk (Below.refl w.heap.size w)
  have H : ((glacislaw18_awake.f).bind fun t105 => ((glacislaw18_few.f k a0_0 a0_1 a0_2 a0_3 a0_4 a0_5 a0_6 l1).bind fun t106 => (if t106 = true then (if a2 < 0 then (glacislaw18_EmbedOwn.j0 k l1 (wrap64 (-(wrap64 (a2 + 1)))) t105 a0_0 a0_1 a0_2 a0_3 a0_4 a0_5 a0_6) else (glacislaw18_EmbedOwn.j0 k l1 a2 t105 a0_0 a0_1 a0_2 a0_3 a0_4 a0_5 a0_6)) else (some t105)))) = some r := h
  clear h
  replace H := Option.bind_eq_some_iff.mp H
  obtain ⟨t105, A40, H⟩ := H
  replace H : ((glacislaw18_few.f k a0_0 a0_1 a0_2 a0_3 a0_4 a0_5 a0_6 l1).bind fun t106 => (if t106 = true then (if a2 < 0 then (glacislaw18_EmbedOwn.j0 k l1 (wrap64 (-(wrap64 (a2 + 1)))) t105 a0_0 a0_1 a0_2 a0_3 a0_4 a0_5 a0_6) else (glacislaw18_EmbedOwn.j0 k l1 a2 t105 a0_0 a0_1 a0_2 a0_3 a0_4 a0_5 a0_6)) else (some t105))) = some r := H
  have A4 := Aside0.mk A40
  clear A40
  replace H := Option.bind_eq_some_iff.mp H
  obtain ⟨t106, A50, H⟩ := H
  replace H : (if t106 = true then (if a2 < 0 then (glacislaw18_EmbedOwn.j0 k l1 (wrap64 (-(wrap64 (a2 + 1)))) t105 a0_0 a0_1 a0_2 a0_3 a0_4 a0_5 a0_6) else (glacislaw18_EmbedOwn.j0 k l1 a2 t105 a0_0 a0_1 a0_2 a0_3 a0_4 a0_5 a0_6)) else (some t105)) = some r := H
  have A5 := Aside0.mk A50
  clear A50
  by_cases c6 : t106 = true
  · subst c6
    have H1 : (if a2 < 0 then (glacislaw18_EmbedOwn.j0 k l1 (wrap64 (-(wrap64 (a2 + 1)))) t105 a0_0 a0_1 a0_2 a0_3 a0_4 a0_5 a0_6) else (glacislaw18_EmbedOwn.j0 k l1 a2 t105 a0_0 a0_1 a0_2 a0_3 a0_4 a0_5 a0_6)) = some r := by rw [if_pos rfl] at H; exact H
    clear H
    have H := H1
    clear H1
    have HC7 := Aside0.mk H
    clear H
    go_enter Tryd.func7, Tryd.ntmps7
    go_upto_if 24 with (first | ((with_reducible refine gate_dst (N := 3) rfl ?_); (try (refine gate_guard (by rfl) ?_; dsimp only)); refine box_event ?hg (N := 3) ?hd (cs := #[.bool a0_0, .int .i64 a0_1, .string a0_2, .string a0_3, .bool a0_4, .int .u32 a0_5, .int .i64 a0_6]) (t := 35) ?hr ?_; (case hd => rfl); (case hg => rfl); (case hr => first | (go_simp; done) | (go_simp; rfl)); intro gb104 hg w8 hbox hb; have n0_ := Aside0.mk (below_step (by repeat (first | (with_reducible first | exact HB.out | apply below_alloc | apply pw_below_drewN | apply below_drew1) | exact HB.out)) hb); have n1_ := Aside0.mk (hbox); have n2_ := Aside0.mk ((by rw [hg]; exact (below_size (by repeat (first | (with_reducible first | exact HB.out | apply below_alloc | apply pw_below_drewN | apply below_drew1) | exact HB.out))) : w.heap.size ≤ gb104)); have n3_ := Aside0.mk ((by rw [hg]; exact (below_size (by repeat (first | (with_reducible first | exact HB.out | apply below_alloc | apply pw_below_drewN | apply below_drew1) | exact HB.out))) : w.heap.size ≤ gb104)); clear HB; have HB := n0_; have BK104 := n1_; have GW104 := n2_; have GE104 := n3_; clear n0_ n1_ n2_ n3_; clear hb hbox hg) | ((with_reducible refine gate_callee (f := 22) rfl ?_); refine goesL_ (some 16) rfl rfl Tryd.func22 (by kernel_rfl) rfl #[] rfl (by (try simp only [List.map_toArray, List.map_cons, List.map_nil]); first | done | rfl | (simp only [List.length_drop, List.length_take]; rfl)) ?_; (with_reducible refine (glacislaw18_awake.calls  t105 _ (Gw.to HG_.out (by repeat (first | (with_reducible first | exact HB.out | apply below_alloc | apply pw_below_drewN | apply below_drew1 | refine below_set ?_ GE104.out) | exact HB.out))) A4.out).mono ?_); rintro e w9 ⟨rfl, hb⟩; refine ⟨_, rfl, ?_⟩; have n0_ := Aside0.mk (blk_below (g := gb104) (o := .cells #[.bool a0_0, .int .i64 a0_1, .string a0_2, .string a0_3, .bool a0_4, .int .u32 a0_5, .int .i64 a0_6] 35 (0, 0)) (by (with_reducible repeat (first | refine blk_drewN ?_ _ | refine blk_drew ?_ | refine blk_alloc ?_ _)); exact BK104.out) hb); have n1_ := Aside0.mk (below_step (by repeat (first | (with_reducible first | exact HB.out | apply below_alloc | apply pw_below_drewN | apply below_drew1 | refine below_set ?_ GE104.out) | exact HB.out)) hb); clear BK104; clear HB; have BK104 := n0_; have HB := n1_; clear n0_ n1_; (try clear hb); (try clear hb2); (try clear hk); (try clear hi); have hcz10_0 : w9.cell? ⟨gb104, 0, none⟩ = some (.bool a0_0) := (blk_cell BK104.out 0).trans rfl; have hcz10_1 : w9.cell? ⟨gb104, 1, none⟩ = some (.int .i64 a0_1) := (blk_cell BK104.out 1).trans rfl; have hcz10_2 : w9.cell? ⟨gb104, 2, none⟩ = some (.string a0_2) := (blk_cell BK104.out 2).trans rfl; have hcz10_3 : w9.cell? ⟨gb104, 3, none⟩ = some (.string a0_3) := (blk_cell BK104.out 3).trans rfl; have hcz10_4 : w9.cell? ⟨gb104, 4, none⟩ = some (.bool a0_4) := (blk_cell BK104.out 4).trans rfl; have hcz10_5 : w9.cell? ⟨gb104, 5, none⟩ = some (.int .u32 a0_5) := (blk_cell BK104.out 5).trans rfl; have hcz10_6 : w9.cell? ⟨gb104, 6, none⟩ = some (.int .i64 a0_6) := (blk_cell BK104.out 6).trans rfl; have hfz10_0 := blk_frozen BK104.out 0; have hfz10_1 := blk_frozen BK104.out 1; have hfz10_2 := blk_frozen BK104.out 2; have hfz10_3 := blk_frozen BK104.out 3; have hfz10_4 := blk_frozen BK104.out 4; have hfz10_5 := blk_frozen BK104.out 5; have hfz10_6 := blk_frozen BK104.out 6) | ((with_reducible refine gate_callee (f := 24) rfl ?_); refine goesL_ (some 19) rfl rfl Tryd.func24 (by kernel_rfl) rfl #[.agg #[.bool a0_0, .int .i64 a0_1, .string a0_2, .string a0_3, .bool a0_4, .int .u32 a0_5, .int .i64 a0_6], .slice A1 l1.length c1] rfl (by (try simp only [List.map_toArray, List.map_cons, List.map_nil]); first | done | rfl | (simp only [List.length_drop, List.length_take]; rfl)) ?_; (with_reducible refine (glacislaw18_few.calls k a0_0 a0_1 a0_2 a0_3 a0_4 a0_5 a0_6 _ _ l1 true _ ?side1 ?side2 A5.out).mono ?_); (case side1 => repeat (first | exact (Kd.C_below HR1.out HB.out) | (with_reducible refine Kd.C_alloc ?_ _) | (with_reducible refine Kd.C_drewN ?_ _) | (with_reducible refine Kd.C_drew ?_))); (case side2 => exact HC1.out); rintro e w11 ⟨rfl, hb⟩; refine ⟨_, rfl, ?_⟩; have n0_ := Aside0.mk (blk_below (g := gb104) (o := .cells #[.bool a0_0, .int .i64 a0_1, .string a0_2, .string a0_3, .bool a0_4, .int .u32 a0_5, .int .i64 a0_6] 35 (0, 0)) (by (with_reducible repeat (first | refine blk_drewN ?_ _ | refine blk_drew ?_ | refine blk_alloc ?_ _)); exact BK104.out) hb); have n1_ := Aside0.mk (below_step (by repeat (first | (with_reducible first | exact HB.out | apply below_alloc | apply pw_below_drewN | apply below_drew1 | refine below_set ?_ GE104.out) | exact HB.out)) hb); clear BK104; clear HB; have BK104 := n0_; have HB := n1_; clear n0_ n1_; (try clear hb); (try clear hb2); (try clear hk); (try clear hi)))
    (try simp only [Act.put, List.setIfInBounds_toArray, List.set_cons_zero, List.set_cons_succ])
    go_cut [2] (fun v2 wc => ∃ (kq : Nat) (x2_6 : Int), v2 = .int .i64 x2_6 ∧ Aside0 (glacislaw18_EmbedOwn.j0 kq l1 x2_6 t105 a0_0 a0_1 a0_2 a0_3 a0_4 a0_5 a0_6 = some r) ∧ Aside0 (kq ≤ k) ∧ Aside0 (wc.heap[gb104]? = some (.cells #[.bool a0_0, .int .i64 a0_1, .string a0_2, .string a0_3, .bool a0_4, .int .u32 a0_5, .int .i64 a0_6] 35 (0, 0))) ∧ Aside0 (Below w.heap.size w wc))
    case first =>
      have H := HC7.out
      clear HC7
      by_cases c12 : a2 < 0
      · rw [if_pos c12] at H
        have c12b0 : decide (a2 < 0) = true := decide_eq_true c12
        clear c12
        (first | rw [c12b0] | (simp only [i64_w, i32_w]; rw [c12b0]) | skip)
        have H' := Aside0.mk H
        clear H
        go_wp2
        go_meet
        case rel => exact ⟨_, (wrap64 (-(wrap64 (a2 + 1)))), (by first | rfl | (simp; done) | (simp [*]; done) | (simp [ne_nil_bool]; done)), H', ⟨by first | omega | exact Nat.le_refl _⟩, ⟨by (with_reducible repeat (first | refine blk_drewN ?_ _ | refine blk_drew ?_ | refine blk_alloc ?_ _)); exact BK104.out⟩, ⟨by repeat (first | (with_reducible first | exact HB.out | apply below_alloc | apply pw_below_drewN | apply below_drew1 | refine below_set ?_ GE104.out) | exact HB.out)⟩⟩
      · rw [if_neg c12] at H
        have c12b0 : decide (a2 < 0) = false := decide_eq_false c12
        clear c12
        (first | rw [c12b0] | (simp only [i64_w, i32_w]; rw [c12b0]) | skip)
        have H' := Aside0.mk H
        clear H
        go_wp2
        go_meet
        case rel => exact ⟨_, (a2), (by first | rfl | (simp; done) | (simp [*]; done) | (simp [ne_nil_bool]; done)), H', ⟨by first | omega | exact Nat.le_refl _⟩, ⟨by (with_reducible repeat (first | refine blk_drewN ?_ _ | refine blk_drew ?_ | refine blk_alloc ?_ _)); exact BK104.out⟩, ⟨by repeat (first | (with_reducible first | exact HB.out | apply below_alloc | apply pw_below_drewN | apply below_drew1 | refine below_set ?_ GE104.out) | exact HB.out)⟩⟩
    case rest =>
      clear HC7
      try clear c1
      try clear c2
      try clear p2
      try clear c6
      try clear p6
      try clear c7
      try clear c12
      try clear c12b0
      try clear hcz10_0
      try clear hcz10_1
      try clear hcz10_2
      try clear hcz10_3
      try clear hcz10_4
      try clear hcz10_5
      try clear hcz10_6
      try clear hfz10_0
      try clear hfz10_1
      try clear hfz10_2
      try clear hfz10_3
      try clear hfz10_4
      try clear hfz10_5
      try clear hfz10_6
      obtain ⟨kq, x2_6, rfl, HA, HJ6, BK104, HB⟩ := hcut
      cases kq with
      | zero => exact absurd HA.out (by simp [glacislaw18_EmbedOwn.j0])
      | succ kj6 =>
        have H := HA.out
        clear HA
        simp only [glacislaw18_EmbedOwn.j0] at H
        have H' := Aside0.mk H
        clear H
        go_wp2
        go_loopg [9, 10] kj6 (fun kq v9 v10 w' => ∃ (x9_2 : List (S35)) (x10_2 : Int), v10 = .int .i64 x10_2 ∧ Aside0 (glacislaw18_EmbedOwn.l0 kq l1 x2_6 t105 x9_2 x10_2 a0_0 a0_1 a0_2 a0_3 a0_4 a0_5 a0_6 = some r) ∧ Aside0 (kq ≤ kj6) ∧ Aside0 (Kd.R k35 35 w' w.heap.size (fun k_ => k_ ≠ gb104) v9 x9_2) ∧ Aside0 (w'.heap[gb104]? = some (.cells #[.bool a0_0, .int .i64 a0_1, .string a0_2, .string a0_3, .bool a0_4, .int .u32 a0_5, .int .i64 a0_6] 35 (0, 0))) ∧ Aside0 (Below w.heap.size w w'))
        case atStart => exact ⟨(([] : List (S35))), (0), (by first | rfl | (simp; done) | (simp [*]; done) | (simp [ne_nil_bool]; done)), H', ⟨Nat.le_refl _⟩, ⟨by first | exact Kd.R_nil _ _ _ _ _ | exact Kd.N_nil _ _ _ _ _ | exact Kd.V_nil _ _ _ _ _ | exact Kd.Q_nil _ _ _ _ _ | exact Kd.S_nil _ _ _ _ _⟩, ⟨by (with_reducible repeat (first | refine blk_drewN ?_ _ | refine blk_drew ?_ | refine blk_alloc ?_ _)); exact BK104.out⟩, ⟨by repeat (first | (with_reducible first | exact HB.out | apply below_alloc | apply pw_below_drewN | apply below_drew1 | refine below_set ?_ GE104.out) | exact HB.out)⟩⟩
        case round =>
          clear H'
          try clear c1
          try clear c2
          try clear p2
          try clear c6
          try clear p6
          try clear c7
          try clear c12
          try clear c12b0
          try clear hcz10_0
          try clear hcz10_1
          try clear hcz10_2
          try clear hcz10_3
          try clear hcz10_4
          try clear hcz10_5
          try clear hcz10_6
          try clear hfz10_0
          try clear hfz10_1
          try clear hfz10_2
          try clear hfz10_3
          try clear hfz10_4
          try clear hfz10_5
          try clear hfz10_6
          try clear p2
          try clear p6
          obtain ⟨x9_2, x10_2, rfl, HA, HK2, HO_9, BK104, HB⟩ := hrel
          cases gk with
          | zero => exact absurd HA.out (by simp [glacislaw18_EmbedOwn.l0])
          | succ k2 =>
            have H := HA.out
            clear HA
            simp only [glacislaw18_EmbedOwn.l0] at H
            by_cases c13 : x10_2 ≤ (Int.tmod x2_6 20)
            · rw [if_pos c13] at H
              have c13b0 : decide (x10_2 ≤ (Int.tmod x2_6 20)) = true := decide_eq_true c13
              clear c13
              by_cases c14 : x9_2.length < 2199023255552
              · rw [if_pos c14] at H
                have LMc14 := Aside0.mk c14
                clear c14
                obtain ⟨y107, hy107⟩ : ∃ y_ : List (S35), y_ = (x9_2 ++ [(⟨a0_0, a0_1, a0_2, (⟨a0_3, a0_4, a0_5⟩ : S26), a0_6⟩ : S35)]) := ⟨_, rfl⟩
                replace H : (glacislaw18_EmbedOwn.l0 k2 l1 x2_6 t105 y107 (wrap64 (x10_2 + 1)) a0_0 a0_1 a0_2 a0_3 a0_4 a0_5 a0_6) = some r := by first | (rw [hy107]; with_reducible exact H) | (have H2_ := (Option.bind_some _ _).symm.trans H; rw [hy107]; with_reducible exact H2_) | (have H2_ := (Option.bind_some _ _).symm.trans H; with_reducible exact H2_) | with_reducible exact H | (rw [hy107]; exact H) | exact H
                have Ny107 := Aside0.mk hy107
                clear hy107
                have H' := Aside0.mk H
                clear H
                have hcz15_0 : wr.cell? ⟨gb104, 0, none⟩ = some (.bool a0_0) := (blk_cell BK104.out 0).trans rfl
                have hcz15_1 : wr.cell? ⟨gb104, 1, none⟩ = some (.int .i64 a0_1) := (blk_cell BK104.out 1).trans rfl
                have hcz15_2 : wr.cell? ⟨gb104, 2, none⟩ = some (.string a0_2) := (blk_cell BK104.out 2).trans rfl
                have hcz15_3 : wr.cell? ⟨gb104, 3, none⟩ = some (.string a0_3) := (blk_cell BK104.out 3).trans rfl
                have hcz15_4 : wr.cell? ⟨gb104, 4, none⟩ = some (.bool a0_4) := (blk_cell BK104.out 4).trans rfl
                have hcz15_5 : wr.cell? ⟨gb104, 5, none⟩ = some (.int .u32 a0_5) := (blk_cell BK104.out 5).trans rfl
                have hcz15_6 : wr.cell? ⟨gb104, 6, none⟩ = some (.int .i64 a0_6) := (blk_cell BK104.out 6).trans rfl
                have hfz15_0 := blk_frozen BK104.out 0
                have hfz15_1 := blk_frozen BK104.out 1
                have hfz15_2 := blk_frozen BK104.out 2
                have hfz15_3 := blk_frozen BK104.out 3
                have hfz15_4 := blk_frozen BK104.out 4
                have hfz15_5 := blk_frozen BK104.out 5
                have hfz15_6 := blk_frozen BK104.out 6
                go_wp2_with (first | ((with_reducible refine gate_builtin (b := .append) (xs := #[.tmp 34, .tmp 36]) rfl ?_); (try (refine gate_guard (by rfl) ?_; dsimp only)); at_builtin; refine Kd.R_append k35 (w0 := w) w.heap.size rfl (.tmp 34) (.tmp 36) 51 35 (.agg #[(.bool false), (.int .i64 0), (.string ⟨#[]⟩), (.string ⟨#[]⟩), (.bool false), (.int .u32 0), (.int .i64 0)]) 64 rfl Tryd.underlying51 info35 rfl (by decide) (by omega) u9 x9_2 (⟨a0_0, a0_1, a0_2, (⟨a0_3, a0_4, a0_5⟩ : S26), a0_6⟩ : S35) [.bool a0_0, .int .i64 a0_1, .string a0_2, .string a0_3, .bool a0_4, .int .u32 a0_5, .int .i64 a0_6] (fun k_ => k_ ≠ gb104) (fun _ => False) rfl rfl ?aP (fun _ hk => hk.elim) ?aF ?aO ?aB ?aS ?aL ?_; (case aP => exact k35_mkM _ _ _ (⟨a0_0, a0_1, a0_2, (⟨a0_3, a0_4, a0_5⟩ : S26), a0_6⟩ : S35)); (case aB => exact (by repeat (first | (with_reducible first | exact HB.out | apply below_alloc | apply pw_below_drewN | apply below_drew1 | refine below_set ?_ GE104.out) | exact HB.out))); (case aF => exact (fun k_ hk => Kd.freshB (g := gb104) (o := .cells #[.bool a0_0, .int .i64 a0_1, .string a0_2, .string a0_3, .bool a0_4, .int .u32 a0_5, .int .i64 a0_6] 35 (0, 0)) (by (with_reducible repeat (first | refine blk_drewN ?_ _ | refine blk_drew ?_ | refine blk_alloc ?_ _)); exact BK104.out) k_ hk)); (case aO => exact (by (with_reducible repeat (first | apply Kd.R_alloc | apply Kd.R_drewN | apply Kd.R_drew)); exact HO_9.out)); (case aS => exact (below_size (by repeat (first | (with_reducible first | exact HB.out | apply below_alloc | apply pw_below_drewN | apply below_drew1 | refine below_set ?_ GE104.out) | exact HB.out)))); (case aL => have := LMc14.out; omega); intro v108 w16 ho hb hg hat; rw [← Ny107.out] at ho; have n0_ := Aside0.mk (blk_grown (g := gb104) (o := .cells #[.bool a0_0, .int .i64 a0_1, .string a0_2, .string a0_3, .bool a0_4, .int .u32 a0_5, .int .i64 a0_6] 35 (0, 0)) (by (with_reducible repeat (first | refine blk_drewN ?_ _ | refine blk_drew ?_ | refine blk_alloc ?_ _)); exact BK104.out) hg (Kd.R_away HO_9.out (fun _ hk => hk))); have n1_ := Aside0.mk (hb); have n2_ := Aside0.mk (ho); clear BK104; clear HB; clear HO_9; have BK104 := n0_; have HB := n1_; have HO109 := n2_; clear n0_ n1_ n2_; clear ho hb hg hat))
                go_roundg k2
                case measure => have := HJ6.out; have := HK2.out; omega
                case rel => exact ⟨(y107), (wrap64 (x10_2 + 1)), (by first | rfl | (simp; done) | (simp [*]; done) | (simp [ne_nil_bool]; done)), H', ⟨by have := HJ6.out; have := HK2.out; omega⟩, ⟨by (with_reducible repeat (first | apply Kd.R_alloc | apply Kd.R_drewN | apply Kd.R_drew)); exact HO109.out⟩, ⟨by (with_reducible repeat (first | refine blk_drewN ?_ _ | refine blk_drew ?_ | refine blk_alloc ?_ _)); exact BK104.out⟩, ⟨by repeat (first | (with_reducible first | exact HB.out | apply below_alloc | apply pw_below_drewN | apply below_drew1 | refine below_set ?_ GE104.out) | exact HB.out)⟩⟩
              · rw [if_neg c14] at H
                exact absurd H (by simp)
            · rw [if_neg c13] at H
              have c13b0 : decide (x10_2 ≤ (Int.tmod x2_6 20)) = false := decide_eq_false c13
              clear c13
              have H' := Aside0.mk H
              clear H
              go_wp2
              go_loopg [11, 12] k2 (fun kq v11 v12 w' => ∃ (x11_3 : Bool) (x12_3 : Int), v11 = .bool x11_3 ∧ v12 = .int .i64 x12_3 ∧ Aside0 (glacislaw18_EmbedOwn.l1 kq l1 t105 x9_2 x11_3 x12_3 a0_0 a0_1 a0_2 a0_3 a0_4 a0_5 a0_6 = some r) ∧ Aside0 (kq ≤ k2) ∧ Aside0 (Kd.R k35 35 w' w.heap.size (fun k_ => k_ ≠ gb104) u9 x9_2) ∧ Aside0 (w'.heap[gb104]? = some (.cells #[.bool a0_0, .int .i64 a0_1, .string a0_2, .string a0_3, .bool a0_4, .int .u32 a0_5, .int .i64 a0_6] 35 (0, 0))) ∧ Aside0 (Below w.heap.size w w'))
              case atStart => exact ⟨(true), (0), (by first | rfl | (simp; done) | (simp [*]; done) | (simp [ne_nil_bool]; done)), (by first | rfl | (simp; done) | (simp [*]; done) | (simp [ne_nil_bool]; done)), H', ⟨Nat.le_refl _⟩, ⟨by (with_reducible repeat (first | apply Kd.R_alloc | apply Kd.R_drewN | apply Kd.R_drew)); exact HO_9.out⟩, ⟨by (with_reducible repeat (first | refine blk_drewN ?_ _ | refine blk_drew ?_ | refine blk_alloc ?_ _)); exact BK104.out⟩, ⟨by repeat (first | (with_reducible first | exact HB.out | apply below_alloc | apply pw_below_drewN | apply below_drew1 | refine below_set ?_ GE104.out) | exact HB.out)⟩⟩
              case round =>
                clear H'
                try clear c1
                try clear c2
                try clear p2
                try clear c6
                try clear p6
                try clear c7
                try clear c12
                try clear c12b0
                try clear c13
                try clear c13b0
                try clear c14
                try clear hcz10_0
                try clear hcz10_1
                try clear hcz10_2
                try clear hcz10_3
                try clear hcz10_4
                try clear hcz10_5
                try clear hcz10_6
                try clear hcz15_0
                try clear hcz15_1
                try clear hcz15_2
                try clear hcz15_3
                try clear hcz15_4
                try clear hcz15_5
                try clear hcz15_6
                try clear hfz10_0
                try clear hfz10_1
                try clear hfz10_2
                try clear hfz10_3
                try clear hfz10_4
                try clear hfz10_5
                try clear hfz10_6
                try clear hfz15_0
                try clear hfz15_1
                try clear hfz15_2
                try clear hfz15_3
                try clear hfz15_4
                try clear hfz15_5
                try clear hfz15_6
                try clear p2
                try clear p6
                obtain ⟨x11_3, x12_3, rfl, rfl, HA, HK3, HO_9, BK104, HB⟩ := hrel
                cases gk with
                | zero => exact absurd HA.out (by simp [glacislaw18_EmbedOwn.l1])
                | succ k3 =>
                  have H := HA.out
                  clear HA
                  simp only [glacislaw18_EmbedOwn.l1] at H
                  by_cases c17 : x12_3 < (l1.length : Int)
                  · rw [if_pos c17] at H
                    have c17b0 : decide (x12_3 < (l1.length : Int)) = true := decide_eq_true c17
                    clear c17
                    by_cases c18 : 0 ≤ x12_3
                    · rw [if_pos c18] at H
                      have c18b0 : decide (0 ≤ x12_3) = true := decide_eq_true c18
                      clear c18
                      replace H := Option.bind_eq_some_iff.mp H
                      obtain ⟨t111, A190, H⟩ := H
                      replace H : (if x11_3 = true then (glacislaw18_EmbedOwn.l1 k3 l1 t105 x9_2 t111 (wrap64 (x12_3 + 1)) a0_0 a0_1 a0_2 a0_3 a0_4 a0_5 a0_6) else (glacislaw18_EmbedOwn.l1 k3 l1 t105 x9_2 false (wrap64 (x12_3 + 1)) a0_0 a0_1 a0_2 a0_3 a0_4 a0_5 a0_6)) = some r := H
                      have A19 := Aside0.mk A190
                      clear A190
                      by_cases c20 : x11_3 = true
                      · subst c20
                        have H1 : (glacislaw18_EmbedOwn.l1 k3 l1 t105 x9_2 t111 (wrap64 (x12_3 + 1)) a0_0 a0_1 a0_2 a0_3 a0_4 a0_5 a0_6) = some r := by rw [if_pos rfl] at H; exact H
                        clear H
                        have H := H1
                        clear H1
                        have H' := Aside0.mk H
                        clear H
                        try go_wp2
                        have n0_ := Aside0.mk (Kd.R_drew HO_9.out)
                        have n1_ := Aside0.mk (blk_drew BK104.out)
                        have n2_ := Aside0.mk (below_drew1 HB.out)
                        clear HO_9
                        clear BK104
                        clear HB
                        have HO_9 := n0_
                        have BK104 := n1_
                        have HB := n2_
                        clear n0_ n1_ n2_
                        have p110 : 0 ≤ (x12_3 : Int) := of_decide_eq_true (by first | (with_reducible assumption) | assumption)
                        have q110 : x12_3 < (l1.length : Int) := of_decide_eq_true (by first | (with_reducible assumption) | assumption)
                        obtain ⟨ad110, e110, hx110_0, hx110_1, hx110_2, hx110_3, hx110_4, hx110_5, hx110_6⟩ := at_T35 HR1.out x12_3 p110 q110
                        have hw110_6 := hx110_6
                        have hw110_5 := hx110_5
                        have hw110_4 := hx110_4
                        have hw110_3 := hx110_3
                        have hw110_2 := hx110_2
                        have hw110_1 := hx110_1
                        have hw110_0 := hx110_0
                        cases e110
                        replace hx110_0 := (HB.out.cell (World.block_lt_of_cell? w _ hx110_0)).trans hx110_0
                        replace hx110_1 := (HB.out.cell (World.block_lt_of_cell? w _ hx110_1)).trans hx110_1
                        replace hx110_2 := (HB.out.cell (World.block_lt_of_cell? w _ hx110_2)).trans hx110_2
                        replace hx110_3 := (HB.out.cell (World.block_lt_of_cell? w _ hx110_3)).trans hx110_3
                        replace hx110_4 := (HB.out.cell (World.block_lt_of_cell? w _ hx110_4)).trans hx110_4
                        replace hx110_5 := (HB.out.cell (World.block_lt_of_cell? w _ hx110_5)).trans hx110_5
                        replace hx110_6 := (HB.out.cell (World.block_lt_of_cell? w _ hx110_6)).trans hx110_6
                        replace p110 := eq_true p110
                        replace q110 := eq_true q110
                        refine start_ (n := 7) (S := fun w' => w'.cell? ⟨gb104, 0, none⟩ = some (.bool a0_0) ∧ w'.cell? ⟨gb104, 1, none⟩ = some (.int .i64 a0_1) ∧ w'.cell? ⟨gb104, 2, none⟩ = some (.string a0_2) ∧ w'.cell? ⟨gb104, 3, none⟩ = some (.string a0_3) ∧ w'.cell? ⟨gb104, 4, none⟩ = some (.bool a0_4) ∧ w'.cell? ⟨gb104, 5, none⟩ = some (.int .u32 a0_5) ∧ w'.cell? ⟨gb104, 6, none⟩ = some (.int .i64 a0_6) ∧ w'.cell? (ad110.add ((x12_3).toNat * 7)) = some (.bool ((rd_T35 l1 x12_3).f0)) ∧ w'.cell? ⟨(ad110.add ((x12_3).toNat * 7)).block, (ad110.add ((x12_3).toNat * 7)).off + 1, none⟩ = some (.int .i64 ((rd_T35 l1 x12_3).f1)) ∧ w'.cell? ⟨(ad110.add ((x12_3).toNat * 7)).block, (ad110.add ((x12_3).toNat * 7)).off + 2, none⟩ = some (.string ((rd_T35 l1 x12_3).f2)) ∧ w'.cell? ⟨(ad110.add ((x12_3).toNat * 7)).block, (ad110.add ((x12_3).toNat * 7)).off + 3, none⟩ = some (.string ((rd_T35 l1 x12_3).f3.f0)) ∧ w'.cell? ⟨(ad110.add ((x12_3).toNat * 7)).block, (ad110.add ((x12_3).toNat * 7)).off + 4, none⟩ = some (.bool ((rd_T35 l1 x12_3).f3.f1)) ∧ w'.cell? ⟨(ad110.add ((x12_3).toNat * 7)).block, (ad110.add ((x12_3).toNat * 7)).off + 5, none⟩ = some (.int .u32 ((rd_T35 l1 x12_3).f3.f2)) ∧ w'.cell? ⟨(ad110.add ((x12_3).toNat * 7)).block, (ad110.add ((x12_3).toNat * 7)).off + 6, none⟩ = some (.int .i64 ((rd_T35 l1 x12_3).f4))) (ds := []) #[false, false, false, false, false, false, false] (by kernel_rfl) rfl rfl ⟨(blk_cell BK104.out 0).trans rfl, (blk_cell BK104.out 1).trans rfl, (blk_cell BK104.out 2).trans rfl, (blk_cell BK104.out 3).trans rfl, (blk_cell BK104.out 4).trans rfl, (blk_cell BK104.out 5).trans rfl, (blk_cell BK104.out 6).trans rfl, ((HB.out.cell (World.block_lt_of_cell? w _ hw110_0)).trans hw110_0), ((HB.out.cell (World.block_lt_of_cell? w _ hw110_1)).trans hw110_1), ((HB.out.cell (World.block_lt_of_cell? w _ hw110_2)).trans hw110_2), ((HB.out.cell (World.block_lt_of_cell? w _ hw110_3)).trans hw110_3), ((HB.out.cell (World.block_lt_of_cell? w _ hw110_4)).trans hw110_4), ((HB.out.cell (World.block_lt_of_cell? w _ hw110_5)).trans hw110_5), ((HB.out.cell (World.block_lt_of_cell? w _ hw110_6)).trans hw110_6)⟩ (fun hHeld => ?_)
                        generalize wr.drew = w21 at HO_9 BK104 HB hx110_0 hx110_1 hx110_2 hx110_3 hx110_4 hx110_5 hx110_6 hHeld ⊢
                        refine pure_ (i := 1) (N := some 45) (v := ?_) (a' := ?_) #[false, true, false, false, false, false, false] rfl rfl (by kernel_rfl) (fun _ _ _ h => h) (Or.inl ⟨by rfl, ?_⟩) ?_ ?_
                        rotate_left
                        · intro w'
                          go_simp
                          with_reducible rfl
                        rotate_left
                        · simp only [Act.put, List.setIfInBounds_toArray, List.set_cons_zero, List.set_cons_succ, i64_w, i32_w]
                          rfl
                        refine pure_ (i := 2) (N := some 46) (v := ?_) (a' := ?_) #[false, true, true, false, false, false, false] rfl rfl (by kernel_rfl) (fun _ _ _ h => h) (Or.inl ⟨by rfl, ?_⟩) ?_ ?_
                        rotate_left
                        · intro w'
                          go_simp
                          with_reducible rfl
                        rotate_left
                        · simp only [Act.put, List.setIfInBounds_toArray, List.set_cons_zero, List.set_cons_succ, i64_w, i32_w]
                          rfl
                        refine pure_ (i := 3) (N := some 47) (v := ?_) (a' := ?_) #[false, true, true, true, false, false, false] rfl rfl (by kernel_rfl) (fun _ _ _ h => h) (Or.inl ⟨by rfl, ?_⟩) ?_ ?_
                        rotate_left
                        · intro w'
                          go_simp
                          with_reducible rfl
                        rotate_left
                        · simp only [Act.put, List.setIfInBounds_toArray, List.set_cons_zero, List.set_cons_succ, i64_w, i32_w]
                          rfl
                        refine take_ (i := 0) (N := some 44) (v := ?_) (a' := ?_) #[true, true, true, true, false, false, false] rfl rfl (by kernel_rfl) (fun _ _ _ h => h) (Or.inl ⟨by rfl, ?_⟩) hHeld ?_ ?_
                        rotate_left
                        · rintro w' ⟨s0, s1, s2, s3, s4, s5, s6, s7, s8, s9, s10, s11, s12, s13⟩
                          go_simp
                          with_reducible rfl
                        rotate_left
                        · simp only [Act.put, List.setIfInBounds_toArray, List.set_cons_zero, List.set_cons_succ, i64_w, i32_w]
                          rfl
                        refine take_ (i := 4) (N := some 48) (v := ?_) (a' := ?_) #[true, true, true, true, true, false, false] rfl rfl (by kernel_rfl) (fun _ _ _ h => h) (Or.inl ⟨by rfl, ?_⟩) hHeld ?_ ?_
                        rotate_left
                        · rintro w' ⟨s0, s1, s2, s3, s4, s5, s6, s7, s8, s9, s10, s11, s12, s13⟩
                          go_simp
                          with_reducible rfl
                        rotate_left
                        · simp only [Act.put, List.setIfInBounds_toArray, List.set_cons_zero, List.set_cons_succ, i64_w, i32_w]
                          rfl
                        refine one_ (i := 5) (N := some 49) #[true, true, true, true, true, true, false] rfl rfl (by kernel_rfl) (by decide) (fun K hK => ?_)
                        refine goes_ Tryd.func16 (by kernel_rfl) rfl #[.agg #[.bool a0_0, .int .i64 a0_1, .string a0_2, .string a0_3, .bool a0_4, .int .u32 a0_5, .int .i64 a0_6], .agg #[.bool ((rd_T35 l1 x12_3).f0), .int .i64 ((rd_T35 l1 x12_3).f1), .string ((rd_T35 l1 x12_3).f2), .string ((rd_T35 l1 x12_3).f3.f0), .bool ((rd_T35 l1 x12_3).f3.f1), .int .u32 ((rd_T35 l1 x12_3).f3.f2), .int .i64 ((rd_T35 l1 x12_3).f4)]] (by rfl) rfl rfl (by (try simp only [List.map_toArray, List.map_cons, List.map_nil]); first | done | rfl | (simp only [List.length_drop, List.length_take]; rfl)) ?_
                        with_reducible refine (origin_Same.calls a0_0 a0_1 a0_2 a0_3 a0_4 a0_5 a0_6 ((rd_T35 l1 x12_3).f0) ((rd_T35 l1 x12_3).f1) ((rd_T35 l1 x12_3).f2) ((rd_T35 l1 x12_3).f3.f0) ((rd_T35 l1 x12_3).f3.f1) ((rd_T35 l1 x12_3).f3.f2) ((rd_T35 l1 x12_3).f4) t111 _ A19.out).mono ?_
                        rintro e w22 ⟨rfl, hb⟩
                        refine ⟨_, rfl, ?_⟩
                        have n0_ := Aside0.mk (Kd.R_below (by (with_reducible repeat (first | apply Kd.R_alloc | apply Kd.R_drewN | apply Kd.R_drew)); exact HO_9.out) hb)
                        have n1_ := Aside0.mk (blk_below (g := gb104) (o := .cells #[.bool a0_0, .int .i64 a0_1, .string a0_2, .string a0_3, .bool a0_4, .int .u32 a0_5, .int .i64 a0_6] 35 (0, 0)) (by (with_reducible repeat (first | refine blk_drewN ?_ _ | refine blk_drew ?_ | refine blk_alloc ?_ _)); exact BK104.out) hb)
                        have n2_ := Aside0.mk (below_step (by repeat (first | (with_reducible first | exact HB.out | apply below_alloc | apply pw_below_drewN | apply below_drew1 | refine below_set ?_ GE104.out) | exact HB.out)) hb)
                        clear HO_9
                        clear BK104
                        clear HB
                        have HO_9 := n0_
                        have BK104 := n1_
                        have HB := n2_
                        clear n0_ n1_ n2_
                        (try clear hb)
                        (try clear hb2)
                        (try clear hk)
                        (try clear hi)
                        refine hK.out _ _ ⟨(blk_cell BK104.out 0).trans rfl, (blk_cell BK104.out 1).trans rfl, (blk_cell BK104.out 2).trans rfl, (blk_cell BK104.out 3).trans rfl, (blk_cell BK104.out 4).trans rfl, (blk_cell BK104.out 5).trans rfl, (blk_cell BK104.out 6).trans rfl, ((HB.out.cell (World.block_lt_of_cell? w _ hw110_0)).trans hw110_0), ((HB.out.cell (World.block_lt_of_cell? w _ hw110_1)).trans hw110_1), ((HB.out.cell (World.block_lt_of_cell? w _ hw110_2)).trans hw110_2), ((HB.out.cell (World.block_lt_of_cell? w _ hw110_3)).trans hw110_3), ((HB.out.cell (World.block_lt_of_cell? w _ hw110_4)).trans hw110_4), ((HB.out.cell (World.block_lt_of_cell? w _ hw110_5)).trans hw110_5), ((HB.out.cell (World.block_lt_of_cell? w _ hw110_6)).trans hw110_6)⟩ (fun hHeld => ?_)
                        clear hK K
                        refine norm_ (a' := ?_) ?_ ?_
                        rotate_left
                        · show Act.put _ (some 49) _ = _
                          simp only [Act.put, List.setIfInBounds_toArray, List.set_cons_zero, List.set_cons_succ, i64_w, i32_w]
                          rfl
                        refine pure_ (i := 6) (N := some 13) (v := ?_) (a' := ?_) #[true, true, true, true, true, true, true] rfl rfl (by kernel_rfl) (fun _ _ _ h => h) (Or.inl ⟨by rfl, ?_⟩) ?_ ?_
                        rotate_left
                        · intro w'
                          go_simp
                          with_reducible rfl
                        rotate_left
                        · simp only [Act.put, List.setIfInBounds_toArray, List.set_cons_zero, List.set_cons_succ, i64_w, i32_w]
                          rfl
                        refine done_ (by kernel_rfl) ?_
                        try go_wp2
                        go_roundg k3
                        case measure => have := HJ6.out; have := HK2.out; have := HK3.out; omega
                        case rel => exact ⟨(t111), (wrap64 (x12_3 + 1)), (by first | rfl | (simp; done) | (simp [*]; done) | (simp [ne_nil_bool]; done)), (by first | rfl | (simp; done) | (simp [*]; done) | (simp [ne_nil_bool]; done)), H', ⟨by have := HJ6.out; have := HK2.out; have := HK3.out; omega⟩, ⟨by (with_reducible repeat (first | apply Kd.R_alloc | apply Kd.R_drewN | apply Kd.R_drew)); exact HO_9.out⟩, ⟨by (with_reducible repeat (first | refine blk_drewN ?_ _ | refine blk_drew ?_ | refine blk_alloc ?_ _)); exact BK104.out⟩, ⟨by repeat (first | (with_reducible first | exact HB.out | apply below_alloc | apply pw_below_drewN | apply below_drew1 | refine below_set ?_ GE104.out) | exact HB.out)⟩⟩
                      · replace c20 := Bool.eq_false_iff.mpr c20
                        subst c20
                        have H1 : (glacislaw18_EmbedOwn.l1 k3 l1 t105 x9_2 false (wrap64 (x12_3 + 1)) a0_0 a0_1 a0_2 a0_3 a0_4 a0_5 a0_6) = some r := by rw [if_neg (show ¬ (false = true) by decide)] at H; exact H
                        clear H
                        have H := H1
                        clear H1
                        have H' := Aside0.mk H
                        clear H
                        try go_wp2
                        have n0_ := Aside0.mk (Kd.R_drew HO_9.out)
                        have n1_ := Aside0.mk (blk_drew BK104.out)
                        have n2_ := Aside0.mk (below_drew1 HB.out)
                        clear HO_9
                        clear BK104
                        clear HB
                        have HO_9 := n0_
                        have BK104 := n1_
                        have HB := n2_
                        clear n0_ n1_ n2_
                        have p110 : 0 ≤ (x12_3 : Int) := of_decide_eq_true (by first | (with_reducible assumption) | assumption)
                        have q110 : x12_3 < (l1.length : Int) := of_decide_eq_true (by first | (with_reducible assumption) | assumption)
                        obtain ⟨ad110, e110, hx110_0, hx110_1, hx110_2, hx110_3, hx110_4, hx110_5, hx110_6⟩ := at_T35 HR1.out x12_3 p110 q110
                        have hw110_6 := hx110_6
                        have hw110_5 := hx110_5
                        have hw110_4 := hx110_4
                        have hw110_3 := hx110_3
                        have hw110_2 := hx110_2
                        have hw110_1 := hx110_1
                        have hw110_0 := hx110_0
                        cases e110
                        replace hx110_0 := (HB.out.cell (World.block_lt_of_cell? w _ hx110_0)).trans hx110_0
                        replace hx110_1 := (HB.out.cell (World.block_lt_of_cell? w _ hx110_1)).trans hx110_1
                        replace hx110_2 := (HB.out.cell (World.block_lt_of_cell? w _ hx110_2)).trans hx110_2
                        replace hx110_3 := (HB.out.cell (World.block_lt_of_cell? w _ hx110_3)).trans hx110_3
                        replace hx110_4 := (HB.out.cell (World.block_lt_of_cell? w _ hx110_4)).trans hx110_4
                        replace hx110_5 := (HB.out.cell (World.block_lt_of_cell? w _ hx110_5)).trans hx110_5
                        replace hx110_6 := (HB.out.cell (World.block_lt_of_cell? w _ hx110_6)).trans hx110_6
                        replace p110 := eq_true p110
                        replace q110 := eq_true q110
                        refine start_ (n := 7) (S := fun w' => w'.cell? ⟨gb104, 0, none⟩ = some (.bool a0_0) ∧ w'.cell? ⟨gb104, 1, none⟩ = some (.int .i64 a0_1) ∧ w'.cell? ⟨gb104, 2, none⟩ = some (.string a0_2) ∧ w'.cell? ⟨gb104, 3, none⟩ = some (.string a0_3) ∧ w'.cell? ⟨gb104, 4, none⟩ = some (.bool a0_4) ∧ w'.cell? ⟨gb104, 5, none⟩ = some (.int .u32 a0_5) ∧ w'.cell? ⟨gb104, 6, none⟩ = some (.int .i64 a0_6) ∧ w'.cell? (ad110.add ((x12_3).toNat * 7)) = some (.bool ((rd_T35 l1 x12_3).f0)) ∧ w'.cell? ⟨(ad110.add ((x12_3).toNat * 7)).block, (ad110.add ((x12_3).toNat * 7)).off + 1, none⟩ = some (.int .i64 ((rd_T35 l1 x12_3).f1)) ∧ w'.cell? ⟨(ad110.add ((x12_3).toNat * 7)).block, (ad110.add ((x12_3).toNat * 7)).off + 2, none⟩ = some (.string ((rd_T35 l1 x12_3).f2)) ∧ w'.cell? ⟨(ad110.add ((x12_3).toNat * 7)).block, (ad110.add ((x12_3).toNat * 7)).off + 3, none⟩ = some (.string ((rd_T35 l1 x12_3).f3.f0)) ∧ w'.cell? ⟨(ad110.add ((x12_3).toNat * 7)).block, (ad110.add ((x12_3).toNat * 7)).off + 4, none⟩ = some (.bool ((rd_T35 l1 x12_3).f3.f1)) ∧ w'.cell? ⟨(ad110.add ((x12_3).toNat * 7)).block, (ad110.add ((x12_3).toNat * 7)).off + 5, none⟩ = some (.int .u32 ((rd_T35 l1 x12_3).f3.f2)) ∧ w'.cell? ⟨(ad110.add ((x12_3).toNat * 7)).block, (ad110.add ((x12_3).toNat * 7)).off + 6, none⟩ = some (.int .i64 ((rd_T35 l1 x12_3).f4))) (ds := []) #[false, false, false, false, false, false, false] (by kernel_rfl) rfl rfl ⟨(blk_cell BK104.out 0).trans rfl, (blk_cell BK104.out 1).trans rfl, (blk_cell BK104.out 2).trans rfl, (blk_cell BK104.out 3).trans rfl, (blk_cell BK104.out 4).trans rfl, (blk_cell BK104.out 5).trans rfl, (blk_cell BK104.out 6).trans rfl, ((HB.out.cell (World.block_lt_of_cell? w _ hw110_0)).trans hw110_0), ((HB.out.cell (World.block_lt_of_cell? w _ hw110_1)).trans hw110_1), ((HB.out.cell (World.block_lt_of_cell? w _ hw110_2)).trans hw110_2), ((HB.out.cell (World.block_lt_of_cell? w _ hw110_3)).trans hw110_3), ((HB.out.cell (World.block_lt_of_cell? w _ hw110_4)).trans hw110_4), ((HB.out.cell (World.block_lt_of_cell? w _ hw110_5)).trans hw110_5), ((HB.out.cell (World.block_lt_of_cell? w _ hw110_6)).trans hw110_6)⟩ (fun hHeld => ?_)
                        generalize wr.drew = w23 at HO_9 BK104 HB hx110_0 hx110_1 hx110_2 hx110_3 hx110_4 hx110_5 hx110_6 hHeld ⊢
                        refine pure_ (i := 1) (N := some 45) (v := ?_) (a' := ?_) #[false, true, false, false, false, false, false] rfl rfl (by kernel_rfl) (fun _ _ _ h => h) (Or.inl ⟨by rfl, ?_⟩) ?_ ?_
                        rotate_left
                        · intro w'
                          go_simp
                          with_reducible rfl
                        rotate_left
                        · simp only [Act.put, List.setIfInBounds_toArray, List.set_cons_zero, List.set_cons_succ, i64_w, i32_w]
                          rfl
                        refine pure_ (i := 2) (N := some 46) (v := ?_) (a' := ?_) #[false, true, true, false, false, false, false] rfl rfl (by kernel_rfl) (fun _ _ _ h => h) (Or.inl ⟨by rfl, ?_⟩) ?_ ?_
                        rotate_left
                        · intro w'
                          go_simp
                          with_reducible rfl
                        rotate_left
                        · simp only [Act.put, List.setIfInBounds_toArray, List.set_cons_zero, List.set_cons_succ, i64_w, i32_w]
                          rfl
                        refine pure_ (i := 3) (N := some 47) (v := ?_) (a' := ?_) #[false, true, true, true, false, false, false] rfl rfl (by kernel_rfl) (fun _ _ _ h => h) (Or.inl ⟨by rfl, ?_⟩) ?_ ?_
                        rotate_left
                        · intro w'
                          go_simp
                          with_reducible rfl
                        rotate_left
                        · simp only [Act.put, List.setIfInBounds_toArray, List.set_cons_zero, List.set_cons_succ, i64_w, i32_w]
                          rfl
                        refine take_ (i := 0) (N := some 44) (v := ?_) (a' := ?_) #[true, true, true, true, false, false, false] rfl rfl (by kernel_rfl) (fun _ _ _ h => h) (Or.inl ⟨by rfl, ?_⟩) hHeld ?_ ?_
                        rotate_left
                        · rintro w' ⟨s0, s1, s2, s3, s4, s5, s6, s7, s8, s9, s10, s11, s12, s13⟩
                          go_simp
                          with_reducible rfl
                        rotate_left
                        · simp only [Act.put, List.setIfInBounds_toArray, List.set_cons_zero, List.set_cons_succ, i64_w, i32_w]
                          rfl
                        refine take_ (i := 4) (N := some 48) (v := ?_) (a' := ?_) #[true, true, true, true, true, false, false] rfl rfl (by kernel_rfl) (fun _ _ _ h => h) (Or.inl ⟨by rfl, ?_⟩) hHeld ?_ ?_
                        rotate_left
                        · rintro w' ⟨s0, s1, s2, s3, s4, s5, s6, s7, s8, s9, s10, s11, s12, s13⟩
                          go_simp
                          with_reducible rfl
                        rotate_left
                        · simp only [Act.put, List.setIfInBounds_toArray, List.set_cons_zero, List.set_cons_succ, i64_w, i32_w]
                          rfl
                        refine one_ (i := 5) (N := some 49) #[true, true, true, true, true, true, false] rfl rfl (by kernel_rfl) (by decide) (fun K hK => ?_)
                        refine goes_ Tryd.func16 (by kernel_rfl) rfl #[.agg #[.bool a0_0, .int .i64 a0_1, .string a0_2, .string a0_3, .bool a0_4, .int .u32 a0_5, .int .i64 a0_6], .agg #[.bool ((rd_T35 l1 x12_3).f0), .int .i64 ((rd_T35 l1 x12_3).f1), .string ((rd_T35 l1 x12_3).f2), .string ((rd_T35 l1 x12_3).f3.f0), .bool ((rd_T35 l1 x12_3).f3.f1), .int .u32 ((rd_T35 l1 x12_3).f3.f2), .int .i64 ((rd_T35 l1 x12_3).f4)]] (by rfl) rfl rfl (by (try simp only [List.map_toArray, List.map_cons, List.map_nil]); first | done | rfl | (simp only [List.length_drop, List.length_take]; rfl)) ?_
                        with_reducible refine (origin_Same.calls a0_0 a0_1 a0_2 a0_3 a0_4 a0_5 a0_6 ((rd_T35 l1 x12_3).f0) ((rd_T35 l1 x12_3).f1) ((rd_T35 l1 x12_3).f2) ((rd_T35 l1 x12_3).f3.f0) ((rd_T35 l1 x12_3).f3.f1) ((rd_T35 l1 x12_3).f3.f2) ((rd_T35 l1 x12_3).f4) t111 _ A19.out).mono ?_
                        rintro e w24 ⟨rfl, hb⟩
                        refine ⟨_, rfl, ?_⟩
                        have n0_ := Aside0.mk (Kd.R_below (by (with_reducible repeat (first | apply Kd.R_alloc | apply Kd.R_drewN | apply Kd.R_drew)); exact HO_9.out) hb)
                        have n1_ := Aside0.mk (blk_below (g := gb104) (o := .cells #[.bool a0_0, .int .i64 a0_1, .string a0_2, .string a0_3, .bool a0_4, .int .u32 a0_5, .int .i64 a0_6] 35 (0, 0)) (by (with_reducible repeat (first | refine blk_drewN ?_ _ | refine blk_drew ?_ | refine blk_alloc ?_ _)); exact BK104.out) hb)
                        have n2_ := Aside0.mk (below_step (by repeat (first | (with_reducible first | exact HB.out | apply below_alloc | apply pw_below_drewN | apply below_drew1 | refine below_set ?_ GE104.out) | exact HB.out)) hb)
                        clear HO_9
                        clear BK104
                        clear HB
                        have HO_9 := n0_
                        have BK104 := n1_
                        have HB := n2_
                        clear n0_ n1_ n2_
                        (try clear hb)
                        (try clear hb2)
                        (try clear hk)
                        (try clear hi)
                        refine hK.out _ _ ⟨(blk_cell BK104.out 0).trans rfl, (blk_cell BK104.out 1).trans rfl, (blk_cell BK104.out 2).trans rfl, (blk_cell BK104.out 3).trans rfl, (blk_cell BK104.out 4).trans rfl, (blk_cell BK104.out 5).trans rfl, (blk_cell BK104.out 6).trans rfl, ((HB.out.cell (World.block_lt_of_cell? w _ hw110_0)).trans hw110_0), ((HB.out.cell (World.block_lt_of_cell? w _ hw110_1)).trans hw110_1), ((HB.out.cell (World.block_lt_of_cell? w _ hw110_2)).trans hw110_2), ((HB.out.cell (World.block_lt_of_cell? w _ hw110_3)).trans hw110_3), ((HB.out.cell (World.block_lt_of_cell? w _ hw110_4)).trans hw110_4), ((HB.out.cell (World.block_lt_of_cell? w _ hw110_5)).trans hw110_5), ((HB.out.cell (World.block_lt_of_cell? w _ hw110_6)).trans hw110_6)⟩ (fun hHeld => ?_)
                        clear hK K
                        refine norm_ (a' := ?_) ?_ ?_
                        rotate_left
                        · show Act.put _ (some 49) _ = _
                          simp only [Act.put, List.setIfInBounds_toArray, List.set_cons_zero, List.set_cons_succ, i64_w, i32_w]
                          rfl
                        refine pure_ (i := 6) (N := some 13) (v := ?_) (a' := ?_) #[true, true, true, true, true, true, true] rfl rfl (by kernel_rfl) (fun _ _ _ h => h) (Or.inl ⟨by rfl, ?_⟩) ?_ ?_
                        rotate_left
                        · intro w'
                          go_simp
                          with_reducible rfl
                        rotate_left
                        · simp only [Act.put, List.setIfInBounds_toArray, List.set_cons_zero, List.set_cons_succ, i64_w, i32_w]
                          rfl
                        refine done_ (by kernel_rfl) ?_
                        try go_wp2
                        go_roundg k3
                        case measure => have := HJ6.out; have := HK2.out; have := HK3.out; omega
                        case rel => exact ⟨(false), (wrap64 (x12_3 + 1)), (by first | rfl | (simp; done) | (simp [*]; done) | (simp [ne_nil_bool]; done)), (by first | rfl | (simp; done) | (simp [*]; done) | (simp [ne_nil_bool]; done)), H', ⟨by have := HJ6.out; have := HK2.out; have := HK3.out; omega⟩, ⟨by (with_reducible repeat (first | apply Kd.R_alloc | apply Kd.R_drewN | apply Kd.R_drew)); exact HO_9.out⟩, ⟨by (with_reducible repeat (first | refine blk_drewN ?_ _ | refine blk_drew ?_ | refine blk_alloc ?_ _)); exact BK104.out⟩, ⟨by repeat (first | (with_reducible first | exact HB.out | apply below_alloc | apply pw_below_drewN | apply below_drew1 | refine below_set ?_ GE104.out) | exact HB.out)⟩⟩
                    · rw [if_neg c18] at H
                      exact absurd H (by simp)
                  · rw [if_neg c17] at H
                    have c17b0 : decide (x12_3 < (l1.length : Int)) = false := decide_eq_false c17
                    clear c17
                    have HC25 := Aside0.mk H
                    clear H
                    go_upto_region 18 with (fail)
                    go_cut [14] (fun v14 wc => ∃ (kq : Nat) (x14_24 : Bool), v14 = .bool x14_24 ∧ Aside0 (glacislaw18_EmbedOwn.j3 kq l1 t105 x11_3 x14_24 a0_0 a0_1 a0_2 a0_3 a0_4 a0_5 a0_6 = some r) ∧ Aside0 (kq ≤ k3) ∧ Aside0 (wc.heap[gb104]? = some (.cells #[.bool a0_0, .int .i64 a0_1, .string a0_2, .string a0_3, .bool a0_4, .int .u32 a0_5, .int .i64 a0_6] 35 (0, 0))) ∧ Aside0 (Below w.heap.size w wc))
                    case first =>
                      have H := HC25.out
                      clear HC25
                      replace H := Option.bind_eq_some_iff.mp H
                      obtain ⟨t112, A260, H⟩ := H
                      replace H : (if t112 = true then ((embed_Xfo.f 1 a0_0 a0_1 a0_2 a0_3 a0_4 a0_5 a0_6 x9_2).bind fun t113 => (glacislaw18_EmbedOwn.j3 k3 l1 t105 x11_3 (!t113) a0_0 a0_1 a0_2 a0_3 a0_4 a0_5 a0_6)) else (glacislaw18_EmbedOwn.j3 k3 l1 t105 x11_3 false a0_0 a0_1 a0_2 a0_3 a0_4 a0_5 a0_6)) = some r := H
                      have A26 := Aside0.mk A260
                      clear A260
                      by_cases c27 : t112 = true
                      · subst c27
                        have H1 : ((embed_Xfo.f 1 a0_0 a0_1 a0_2 a0_3 a0_4 a0_5 a0_6 x9_2).bind fun t113 => (glacislaw18_EmbedOwn.j3 k3 l1 t105 x11_3 (!t113) a0_0 a0_1 a0_2 a0_3 a0_4 a0_5 a0_6)) = some r := by rw [if_pos rfl] at H; exact H
                        clear H
                        have H := H1
                        clear H1
                        replace H := Option.bind_eq_some_iff.mp H
                        obtain ⟨t113, A280, H⟩ := H
                        replace H : (glacislaw18_EmbedOwn.j3 k3 l1 t105 x11_3 (!t113) a0_0 a0_1 a0_2 a0_3 a0_4 a0_5 a0_6) = some r := H
                        have A28 := Aside0.mk A280
                        clear A280
                        have H' := Aside0.mk H
                        clear H
                        have hcz29_0 : wr.cell? ⟨gb104, 0, none⟩ = some (.bool a0_0) := (blk_cell BK104.out 0).trans rfl
                        have hcz29_1 : wr.cell? ⟨gb104, 1, none⟩ = some (.int .i64 a0_1) := (blk_cell BK104.out 1).trans rfl
                        have hcz29_2 : wr.cell? ⟨gb104, 2, none⟩ = some (.string a0_2) := (blk_cell BK104.out 2).trans rfl
                        have hcz29_3 : wr.cell? ⟨gb104, 3, none⟩ = some (.string a0_3) := (blk_cell BK104.out 3).trans rfl
                        have hcz29_4 : wr.cell? ⟨gb104, 4, none⟩ = some (.bool a0_4) := (blk_cell BK104.out 4).trans rfl
                        have hcz29_5 : wr.cell? ⟨gb104, 5, none⟩ = some (.int .u32 a0_5) := (blk_cell BK104.out 5).trans rfl
                        have hcz29_6 : wr.cell? ⟨gb104, 6, none⟩ = some (.int .i64 a0_6) := (blk_cell BK104.out 6).trans rfl
                        have hfz29_0 := blk_frozen BK104.out 0
                        have hfz29_1 := blk_frozen BK104.out 1
                        have hfz29_2 := blk_frozen BK104.out 2
                        have hfz29_3 := blk_frozen BK104.out 3
                        have hfz29_4 := blk_frozen BK104.out 4
                        have hfz29_5 := blk_frozen BK104.out 5
                        have hfz29_6 := blk_frozen BK104.out 6
                        obtain ⟨Ao30, co30, eo30⟩ := Kd.R_slice HO_9.out
                        subst eo30
                        go_wp2_with (first | ((with_reducible refine gate_callee (f := 25) rfl ?_); refine goesL_ (some 56) rfl rfl Tryd.func25 (by kernel_rfl) rfl #[.int .i64 2, .agg #[.bool a0_0, .int .i64 a0_1, .string a0_2, .string a0_3, .bool a0_4, .int .u32 a0_5, .int .i64 a0_6], .slice Ao30 x9_2.length co30] rfl (by (try simp only [List.map_toArray, List.map_cons, List.map_nil]); first | done | rfl | (simp only [List.length_drop, List.length_take]; rfl)) ?_; (with_reducible refine (embed_Xfo.calls 2 a0_0 a0_1 a0_2 a0_3 a0_4 a0_5 a0_6 _ _ x9_2 true _ ?side1 ?side2 A26.out).mono ?_); (case side1 => repeat (first | exact (Kd.R_reads' HO_9.out).2.2 | (with_reducible refine Kd.C_alloc ?_ _) | (with_reducible refine Kd.C_drewN ?_ _) | (with_reducible refine Kd.C_drew ?_))); (case side2 => exact (Kd.R_reads' HO_9.out).2.1); rintro e w31 ⟨rfl, hb⟩; refine ⟨_, rfl, ?_⟩; have n0_ := Aside0.mk (Kd.R_below (by (with_reducible repeat (first | apply Kd.R_alloc | apply Kd.R_drewN | apply Kd.R_drew)); exact HO_9.out) hb); have n1_ := Aside0.mk (blk_below (g := gb104) (o := .cells #[.bool a0_0, .int .i64 a0_1, .string a0_2, .string a0_3, .bool a0_4, .int .u32 a0_5, .int .i64 a0_6] 35 (0, 0)) (by (with_reducible repeat (first | refine blk_drewN ?_ _ | refine blk_drew ?_ | refine blk_alloc ?_ _)); exact BK104.out) hb); have n2_ := Aside0.mk (below_step (by repeat (first | (with_reducible first | exact HB.out | apply below_alloc | apply pw_below_drewN | apply below_drew1 | refine below_set ?_ GE104.out) | exact HB.out)) hb); clear HO_9; clear BK104; clear HB; have HO_9 := n0_; have BK104 := n1_; have HB := n2_; clear n0_ n1_ n2_; (try clear hb); (try clear hb2); (try clear hk); (try clear hi); have hcz32_0 : w31.cell? ⟨gb104, 0, none⟩ = some (.bool a0_0) := (blk_cell BK104.out 0).trans rfl; have hcz32_1 : w31.cell? ⟨gb104, 1, none⟩ = some (.int .i64 a0_1) := (blk_cell BK104.out 1).trans rfl; have hcz32_2 : w31.cell? ⟨gb104, 2, none⟩ = some (.string a0_2) := (blk_cell BK104.out 2).trans rfl; have hcz32_3 : w31.cell? ⟨gb104, 3, none⟩ = some (.string a0_3) := (blk_cell BK104.out 3).trans rfl; have hcz32_4 : w31.cell? ⟨gb104, 4, none⟩ = some (.bool a0_4) := (blk_cell BK104.out 4).trans rfl; have hcz32_5 : w31.cell? ⟨gb104, 5, none⟩ = some (.int .u32 a0_5) := (blk_cell BK104.out 5).trans rfl; have hcz32_6 : w31.cell? ⟨gb104, 6, none⟩ = some (.int .i64 a0_6) := (blk_cell BK104.out 6).trans rfl; have hfz32_0 := blk_frozen BK104.out 0; have hfz32_1 := blk_frozen BK104.out 1; have hfz32_2 := blk_frozen BK104.out 2; have hfz32_3 := blk_frozen BK104.out 3; have hfz32_4 := blk_frozen BK104.out 4; have hfz32_5 := blk_frozen BK104.out 5; have hfz32_6 := blk_frozen BK104.out 6) | (go_at_call 25; (with_reducible refine (embed_Xfo.calls 1 a0_0 a0_1 a0_2 a0_3 a0_4 a0_5 a0_6 _ _ x9_2 t113 _ ?side1 ?side2 A28.out).mono ?_); (case side1 => repeat (first | exact (Kd.R_reads' HO_9.out).2.2 | (with_reducible refine Kd.C_alloc ?_ _) | (with_reducible refine Kd.C_drewN ?_ _) | (with_reducible refine Kd.C_drew ?_))); (case side2 => exact (Kd.R_reads' HO_9.out).2.1); rintro e w33 ⟨rfl, hb⟩; have n0_ := Aside0.mk (Kd.R_below (by (with_reducible repeat (first | apply Kd.R_alloc | apply Kd.R_drewN | apply Kd.R_drew)); exact HO_9.out) hb); have n1_ := Aside0.mk (blk_below (g := gb104) (o := .cells #[.bool a0_0, .int .i64 a0_1, .string a0_2, .string a0_3, .bool a0_4, .int .u32 a0_5, .int .i64 a0_6] 35 (0, 0)) (by (with_reducible repeat (first | refine blk_drewN ?_ _ | refine blk_drew ?_ | refine blk_alloc ?_ _)); exact BK104.out) hb); have n2_ := Aside0.mk (below_step (by repeat (first | (with_reducible first | exact HB.out | apply below_alloc | apply pw_below_drewN | apply below_drew1 | refine below_set ?_ GE104.out) | exact HB.out)) hb); clear HO_9; clear BK104; clear HB; have HO_9 := n0_; have BK104 := n1_; have HB := n2_; clear n0_ n1_ n2_; (try clear hb); (try clear hb2); (try clear hk); (try clear hi)))
                        go_meet
                        case rel => exact ⟨_, (!t113), (by first | rfl | (simp; done) | (simp [*]; done) | (simp [ne_nil_bool]; done)), H', ⟨by have := HJ6.out; have := HK2.out; have := HK3.out; first | omega | exact Nat.le_refl _⟩, ⟨by (with_reducible repeat (first | refine blk_drewN ?_ _ | refine blk_drew ?_ | refine blk_alloc ?_ _)); exact BK104.out⟩, ⟨by repeat (first | (with_reducible first | exact HB.out | apply below_alloc | apply pw_below_drewN | apply below_drew1 | refine below_set ?_ GE104.out) | exact HB.out)⟩⟩
                      · replace c27 := Bool.eq_false_iff.mpr c27
                        subst c27
                        have H1 : (glacislaw18_EmbedOwn.j3 k3 l1 t105 x11_3 false a0_0 a0_1 a0_2 a0_3 a0_4 a0_5 a0_6) = some r := by rw [if_neg (show ¬ (false = true) by decide)] at H; exact H
                        clear H
                        have H := H1
                        clear H1
                        have H' := Aside0.mk H
                        clear H
                        have hcz34_0 : wr.cell? ⟨gb104, 0, none⟩ = some (.bool a0_0) := (blk_cell BK104.out 0).trans rfl
                        have hcz34_1 : wr.cell? ⟨gb104, 1, none⟩ = some (.int .i64 a0_1) := (blk_cell BK104.out 1).trans rfl
                        have hcz34_2 : wr.cell? ⟨gb104, 2, none⟩ = some (.string a0_2) := (blk_cell BK104.out 2).trans rfl
                        have hcz34_3 : wr.cell? ⟨gb104, 3, none⟩ = some (.string a0_3) := (blk_cell BK104.out 3).trans rfl
                        have hcz34_4 : wr.cell? ⟨gb104, 4, none⟩ = some (.bool a0_4) := (blk_cell BK104.out 4).trans rfl
                        have hcz34_5 : wr.cell? ⟨gb104, 5, none⟩ = some (.int .u32 a0_5) := (blk_cell BK104.out 5).trans rfl
                        have hcz34_6 : wr.cell? ⟨gb104, 6, none⟩ = some (.int .i64 a0_6) := (blk_cell BK104.out 6).trans rfl
                        have hfz34_0 := blk_frozen BK104.out 0
                        have hfz34_1 := blk_frozen BK104.out 1
                        have hfz34_2 := blk_frozen BK104.out 2
                        have hfz34_3 := blk_frozen BK104.out 3
                        have hfz34_4 := blk_frozen BK104.out 4
                        have hfz34_5 := blk_frozen BK104.out 5
                        have hfz34_6 := blk_frozen BK104.out 6
                        obtain ⟨Ao35, co35, eo35⟩ := Kd.R_slice HO_9.out
                        subst eo35
                        go_wp2_with (first | ((with_reducible refine gate_callee (f := 25) rfl ?_); refine goesL_ (some 56) rfl rfl Tryd.func25 (by kernel_rfl) rfl #[.int .i64 2, .agg #[.bool a0_0, .int .i64 a0_1, .string a0_2, .string a0_3, .bool a0_4, .int .u32 a0_5, .int .i64 a0_6], .slice Ao35 x9_2.length co35] rfl (by (try simp only [List.map_toArray, List.map_cons, List.map_nil]); first | done | rfl | (simp only [List.length_drop, List.length_take]; rfl)) ?_; (with_reducible refine (embed_Xfo.calls 2 a0_0 a0_1 a0_2 a0_3 a0_4 a0_5 a0_6 _ _ x9_2 false _ ?side1 ?side2 A26.out).mono ?_); (case side1 => repeat (first | exact (Kd.R_reads' HO_9.out).2.2 | (with_reducible refine Kd.C_alloc ?_ _) | (with_reducible refine Kd.C_drewN ?_ _) | (with_reducible refine Kd.C_drew ?_))); (case side2 => exact (Kd.R_reads' HO_9.out).2.1); rintro e w36 ⟨rfl, hb⟩; refine ⟨_, rfl, ?_⟩; have n0_ := Aside0.mk (Kd.R_below (by (with_reducible repeat (first | apply Kd.R_alloc | apply Kd.R_drewN | apply Kd.R_drew)); exact HO_9.out) hb); have n1_ := Aside0.mk (blk_below (g := gb104) (o := .cells #[.bool a0_0, .int .i64 a0_1, .string a0_2, .string a0_3, .bool a0_4, .int .u32 a0_5, .int .i64 a0_6] 35 (0, 0)) (by (with_reducible repeat (first | refine blk_drewN ?_ _ | refine blk_drew ?_ | refine blk_alloc ?_ _)); exact BK104.out) hb); have n2_ := Aside0.mk (below_step (by repeat (first | (with_reducible first | exact HB.out | apply below_alloc | apply pw_below_drewN | apply below_drew1 | refine below_set ?_ GE104.out) | exact HB.out)) hb); clear HO_9; clear BK104; clear HB; have HO_9 := n0_; have BK104 := n1_; have HB := n2_; clear n0_ n1_ n2_; (try clear hb); (try clear hb2); (try clear hk); (try clear hi)))
                        go_meet
                        case rel => exact ⟨_, (false), (by first | rfl | (simp; done) | (simp [*]; done) | (simp [ne_nil_bool]; done)), H', ⟨by have := HJ6.out; have := HK2.out; have := HK3.out; first | omega | exact Nat.le_refl _⟩, ⟨by (with_reducible repeat (first | refine blk_drewN ?_ _ | refine blk_drew ?_ | refine blk_alloc ?_ _)); exact BK104.out⟩, ⟨by repeat (first | (with_reducible first | exact HB.out | apply below_alloc | apply pw_below_drewN | apply below_drew1 | refine below_set ?_ GE104.out) | exact HB.out)⟩⟩
                    case rest =>
                      clear HC25
                      try clear c1
                      try clear p1
                      try clear q1
                      try clear hx1
                      try clear c2
                      try clear p2
                      try clear c6
                      try clear p6
                      try clear c7
                      try clear p11
                      try clear q11
                      try clear hx11
                      try clear c12
                      try clear c12b0
                      try clear c13
                      try clear c13b0
                      try clear c14
                      try clear c16
                      try clear c17
                      try clear c17b0
                      try clear c18
                      try clear c18b0
                      try clear c20
                      try clear c22
                      try clear c24
                      try clear c25
                      try clear c27
                      try clear hcz10_0
                      try clear hcz10_1
                      try clear hcz10_2
                      try clear hcz10_3
                      try clear hcz10_4
                      try clear hcz10_5
                      try clear hcz10_6
                      try clear hcz15_0
                      try clear hcz15_1
                      try clear hcz15_2
                      try clear hcz15_3
                      try clear hcz15_4
                      try clear hcz15_5
                      try clear hcz15_6
                      try clear hcz29_0
                      try clear hcz29_1
                      try clear hcz29_2
                      try clear hcz29_3
                      try clear hcz29_4
                      try clear hcz29_5
                      try clear hcz29_6
                      try clear hcz32_0
                      try clear hcz32_1
                      try clear hcz32_2
                      try clear hcz32_3
                      try clear hcz32_4
                      try clear hcz32_5
                      try clear hcz32_6
                      try clear hcz34_0
                      try clear hcz34_1
                      try clear hcz34_2
                      try clear hcz34_3
                      try clear hcz34_4
                      try clear hcz34_5
                      try clear hcz34_6
                      try clear hfz10_0
                      try clear hfz10_1
                      try clear hfz10_2
                      try clear hfz10_3
                      try clear hfz10_4
                      try clear hfz10_5
                      try clear hfz10_6
                      try clear hfz15_0
                      try clear hfz15_1
                      try clear hfz15_2
                      try clear hfz15_3
                      try clear hfz15_4
                      try clear hfz15_5
                      try clear hfz15_6
                      try clear hfz29_0
                      try clear hfz29_1
                      try clear hfz29_2
                      try clear hfz29_3
                      try clear hfz29_4
                      try clear hfz29_5
                      try clear hfz29_6
                      try clear hfz32_0
                      try clear hfz32_1
                      try clear hfz32_2
                      try clear hfz32_3
                      try clear hfz32_4
                      try clear hfz32_5
                      try clear hfz32_6
                      try clear hfz34_0
                      try clear hfz34_1
                      try clear hfz34_2
                      try clear hfz34_3
                      try clear hfz34_4
                      try clear hfz34_5
                      try clear hfz34_6
                      try clear hx110_0
                      try clear hx110_1
                      try clear hx110_2
                      try clear hx110_3
                      try clear hx110_4
                      try clear hx110_5
                      try clear hx110_6
                      try clear p110
                      try clear p2
                      try clear p6
                      try clear q110
                      obtain ⟨kq, x14_24, rfl, HA, HJ24, BK104, HB⟩ := hcut
                      cases kq with
                      | zero => exact absurd HA.out (by simp [glacislaw18_EmbedOwn.j3])
                      | succ kj24 =>
                        have H := HA.out
                        clear HA
                        simp only [glacislaw18_EmbedOwn.j3] at H
                        replace H := Option.bind_eq_some_iff.mp H
                        obtain ⟨t114, A370, H⟩ := H
                        replace H : (if (t114 == x11_3) = true then ((embed_Xfo.f 1 a0_0 a0_1 a0_2 a0_3 a0_4 a0_5 a0_6 l1).bind fun t115 => (if t105 = true then (if x14_24 = true then (if (t115 == ((l1.length : Int) == 0)) = true then ((embed_Xfo.f 0 a0_0 a0_1 a0_2 a0_3 a0_4 a0_5 a0_6 l1).bind fun t116 => (if t116 = true then ((embed_Xfo.f 3 a0_0 a0_1 a0_2 a0_3 a0_4 a0_5 a0_6 l1).bind fun t117 => (some t117)) else (some false))) else (some false)) else (some false)) else (some false))) else (if t105 = true then (if x14_24 = true then (some false) else (some false)) else (some false))) = some r := H
                        have A37 := Aside0.mk A370
                        clear A370
                        by_cases c38 : (t114 == x11_3) = true
                        · rw [if_pos c38] at H
                          have c38b0 : (t114 == x11_3) = true := c38
                          (try (have c38b1 : decide (t114 = x11_3) = true := by simpa using c38))
                          (try (have c38b2 : (t114 == x11_3) = true := by simpa using c38))
                          clear c38
                          replace H := Option.bind_eq_some_iff.mp H
                          obtain ⟨t115, A390, H⟩ := H
                          replace H : (if t105 = true then (if x14_24 = true then (if (t115 == ((l1.length : Int) == 0)) = true then ((embed_Xfo.f 0 a0_0 a0_1 a0_2 a0_3 a0_4 a0_5 a0_6 l1).bind fun t116 => (if t116 = true then ((embed_Xfo.f 3 a0_0 a0_1 a0_2 a0_3 a0_4 a0_5 a0_6 l1).bind fun t117 => (some t117)) else (some false))) else (some false)) else (some false)) else (some false)) = some r := H
                          have A39 := Aside0.mk A390
                          clear A390
                          by_cases c40 : t105 = true
                          · subst c40
                            have H1 : (if x14_24 = true then (if (t115 == ((l1.length : Int) == 0)) = true then ((embed_Xfo.f 0 a0_0 a0_1 a0_2 a0_3 a0_4 a0_5 a0_6 l1).bind fun t116 => (if t116 = true then ((embed_Xfo.f 3 a0_0 a0_1 a0_2 a0_3 a0_4 a0_5 a0_6 l1).bind fun t117 => (some t117)) else (some false))) else (some false)) else (some false)) = some r := by rw [if_pos rfl] at H; exact H
                            clear H
                            have H := H1
                            clear H1
                            by_cases c41 : x14_24 = true
                            · subst c41
                              have H1 : (if (t115 == ((l1.length : Int) == 0)) = true then ((embed_Xfo.f 0 a0_0 a0_1 a0_2 a0_3 a0_4 a0_5 a0_6 l1).bind fun t116 => (if t116 = true then ((embed_Xfo.f 3 a0_0 a0_1 a0_2 a0_3 a0_4 a0_5 a0_6 l1).bind fun t117 => (some t117)) else (some false))) else (some false)) = some r := by rw [if_pos rfl] at H; exact H
                              clear H
                              have H := H1
                              clear H1
                              by_cases c42 : (t115 == ((l1.length : Int) == 0)) = true
                              · rw [if_pos c42] at H
                                have c42b0 : (t115 == ((l1.length : Int) == 0)) = true := c42
                                (try (have c42b1 : decide (t115 = ((l1.length : Int) == 0)) = true := by simpa using c42))
                                (try (have c42b2 : (t115 == ((l1.length : Int) == 0)) = true := by simpa using c42))
                                clear c42
                                replace H := Option.bind_eq_some_iff.mp H
                                obtain ⟨t116, A430, H⟩ := H
                                replace H : (if t116 = true then ((embed_Xfo.f 3 a0_0 a0_1 a0_2 a0_3 a0_4 a0_5 a0_6 l1).bind fun t117 => (some t117)) else (some false)) = some r := H
                                have A43 := Aside0.mk A430
                                clear A430
                                by_cases c44 : t116 = true
                                · subst c44
                                  have H1 : ((embed_Xfo.f 3 a0_0 a0_1 a0_2 a0_3 a0_4 a0_5 a0_6 l1).bind fun t117 => (some t117)) = some r := by rw [if_pos rfl] at H; exact H
                                  clear H
                                  have H := H1
                                  clear H1
                                  replace H := Option.bind_eq_some_iff.mp H
                                  obtain ⟨t117, A450, H⟩ := H
                                  replace H : (some t117) = some r := H
                                  have A45 := Aside0.mk A450
                                  clear A450
                                  obtain rfl := Option.some.inj H
                                  have hcz46_0 : wc.cell? ⟨gb104, 0, none⟩ = some (.bool a0_0) := (blk_cell BK104.out 0).trans rfl
                                  have hcz46_1 : wc.cell? ⟨gb104, 1, none⟩ = some (.int .i64 a0_1) := (blk_cell BK104.out 1).trans rfl
                                  have hcz46_2 : wc.cell? ⟨gb104, 2, none⟩ = some (.string a0_2) := (blk_cell BK104.out 2).trans rfl
                                  have hcz46_3 : wc.cell? ⟨gb104, 3, none⟩ = some (.string a0_3) := (blk_cell BK104.out 3).trans rfl
                                  have hcz46_4 : wc.cell? ⟨gb104, 4, none⟩ = some (.bool a0_4) := (blk_cell BK104.out 4).trans rfl
                                  have hcz46_5 : wc.cell? ⟨gb104, 5, none⟩ = some (.int .u32 a0_5) := (blk_cell BK104.out 5).trans rfl
                                  have hcz46_6 : wc.cell? ⟨gb104, 6, none⟩ = some (.int .i64 a0_6) := (blk_cell BK104.out 6).trans rfl
                                  have hfz46_0 := blk_frozen BK104.out 0
                                  have hfz46_1 := blk_frozen BK104.out 1
                                  have hfz46_2 := blk_frozen BK104.out 2
                                  have hfz46_3 := blk_frozen BK104.out 3
                                  have hfz46_4 := blk_frozen BK104.out 4
                                  have hfz46_5 := blk_frozen BK104.out 5
                                  have hfz46_6 := blk_frozen BK104.out 6
                                  go_wp2_with (first | ((with_reducible refine gate_callee (f := 25) rfl ?_); refine goesL_ (some 65) rfl rfl Tryd.func25 (by kernel_rfl) rfl #[.int .i64 2, .agg #[.bool a0_0, .int .i64 a0_1, .string a0_2, .string a0_3, .bool a0_4, .int .u32 a0_5, .int .i64 a0_6], .slice A1 l1.length c1] rfl (by (try simp only [List.map_toArray, List.map_cons, List.map_nil]); first | done | rfl | (simp only [List.length_drop, List.length_take]; rfl)) ?_; (with_reducible refine (embed_Xfo.calls 2 a0_0 a0_1 a0_2 a0_3 a0_4 a0_5 a0_6 _ _ l1 t114 _ ?side1 ?side2 A37.out).mono ?_); (case side1 => repeat (first | exact (Kd.C_below HR1.out HB.out) | (with_reducible refine Kd.C_alloc ?_ _) | (with_reducible refine Kd.C_drewN ?_ _) | (with_reducible refine Kd.C_drew ?_))); (case side2 => exact HC1.out); rintro e w47 ⟨rfl, hb⟩; refine ⟨_, rfl, ?_⟩; have n0_ := Aside0.mk (blk_below (g := gb104) (o := .cells #[.bool a0_0, .int .i64 a0_1, .string a0_2, .string a0_3, .bool a0_4, .int .u32 a0_5, .int .i64 a0_6] 35 (0, 0)) (by (with_reducible repeat (first | refine blk_drewN ?_ _ | refine blk_drew ?_ | refine blk_alloc ?_ _)); exact BK104.out) hb); have n1_ := Aside0.mk (below_step (by repeat (first | (with_reducible first | exact HB.out | apply below_alloc | apply pw_below_drewN | apply below_drew1 | refine below_set ?_ GE104.out) | exact HB.out)) hb); clear BK104; clear HB; have BK104 := n0_; have HB := n1_; clear n0_ n1_; (try clear hb); (try clear hb2); (try clear hk); (try clear hi); have hcz48_0 : w47.cell? ⟨gb104, 0, none⟩ = some (.bool a0_0) := (blk_cell BK104.out 0).trans rfl; have hcz48_1 : w47.cell? ⟨gb104, 1, none⟩ = some (.int .i64 a0_1) := (blk_cell BK104.out 1).trans rfl; have hcz48_2 : w47.cell? ⟨gb104, 2, none⟩ = some (.string a0_2) := (blk_cell BK104.out 2).trans rfl; have hcz48_3 : w47.cell? ⟨gb104, 3, none⟩ = some (.string a0_3) := (blk_cell BK104.out 3).trans rfl; have hcz48_4 : w47.cell? ⟨gb104, 4, none⟩ = some (.bool a0_4) := (blk_cell BK104.out 4).trans rfl; have hcz48_5 : w47.cell? ⟨gb104, 5, none⟩ = some (.int .u32 a0_5) := (blk_cell BK104.out 5).trans rfl; have hcz48_6 : w47.cell? ⟨gb104, 6, none⟩ = some (.int .i64 a0_6) := (blk_cell BK104.out 6).trans rfl; have hfz48_0 := blk_frozen BK104.out 0; have hfz48_1 := blk_frozen BK104.out 1; have hfz48_2 := blk_frozen BK104.out 2; have hfz48_3 := blk_frozen BK104.out 3; have hfz48_4 := blk_frozen BK104.out 4; have hfz48_5 := blk_frozen BK104.out 5; have hfz48_6 := blk_frozen BK104.out 6) | (go_at_call 25; (with_reducible refine (embed_Xfo.calls 1 a0_0 a0_1 a0_2 a0_3 a0_4 a0_5 a0_6 _ _ l1 t115 _ ?side1 ?side2 A39.out).mono ?_); (case side1 => repeat (first | exact (Kd.C_below HR1.out HB.out) | (with_reducible refine Kd.C_alloc ?_ _) | (with_reducible refine Kd.C_drewN ?_ _) | (with_reducible refine Kd.C_drew ?_))); (case side2 => exact HC1.out); rintro e w49 ⟨rfl, hb⟩; have n0_ := Aside0.mk (blk_below (g := gb104) (o := .cells #[.bool a0_0, .int .i64 a0_1, .string a0_2, .string a0_3, .bool a0_4, .int .u32 a0_5, .int .i64 a0_6] 35 (0, 0)) (by (with_reducible repeat (first | refine blk_drewN ?_ _ | refine blk_drew ?_ | refine blk_alloc ?_ _)); exact BK104.out) hb); have n1_ := Aside0.mk (below_step (by repeat (first | (with_reducible first | exact HB.out | apply below_alloc | apply pw_below_drewN | apply below_drew1 | refine below_set ?_ GE104.out) | exact HB.out)) hb); clear BK104; clear HB; have BK104 := n0_; have HB := n1_; clear n0_ n1_; (try clear hb); (try clear hb2); (try clear hk); (try clear hi); have hcz50_0 : w49.cell? ⟨gb104, 0, none⟩ = some (.bool a0_0) := (blk_cell BK104.out 0).trans rfl; have hcz50_1 : w49.cell? ⟨gb104, 1, none⟩ = some (.int .i64 a0_1) := (blk_cell BK104.out 1).trans rfl; have hcz50_2 : w49.cell? ⟨gb104, 2, none⟩ = some (.string a0_2) := (blk_cell BK104.out 2).trans rfl; have hcz50_3 : w49.cell? ⟨gb104, 3, none⟩ = some (.string a0_3) := (blk_cell BK104.out 3).trans rfl; have hcz50_4 : w49.cell? ⟨gb104, 4, none⟩ = some (.bool a0_4) := (blk_cell BK104.out 4).trans rfl; have hcz50_5 : w49.cell? ⟨gb104, 5, none⟩ = some (.int .u32 a0_5) := (blk_cell BK104.out 5).trans rfl; have hcz50_6 : w49.cell? ⟨gb104, 6, none⟩ = some (.int .i64 a0_6) := (blk_cell BK104.out 6).trans rfl; have hfz50_0 := blk_frozen BK104.out 0; have hfz50_1 := blk_frozen BK104.out 1; have hfz50_2 := blk_frozen BK104.out 2; have hfz50_3 := blk_frozen BK104.out 3; have hfz50_4 := blk_frozen BK104.out 4; have hfz50_5 := blk_frozen BK104.out 5; have hfz50_6 := blk_frozen BK104.out 6) | (go_at_call 25; (with_reducible refine (embed_Xfo.calls 0 a0_0 a0_1 a0_2 a0_3 a0_4 a0_5 a0_6 _ _ l1 true _ ?side1 ?side2 A43.out).mono ?_); (case side1 => repeat (first | exact (Kd.C_below HR1.out HB.out) | (with_reducible refine Kd.C_alloc ?_ _) | (with_reducible refine Kd.C_drewN ?_ _) | (with_reducible refine Kd.C_drew ?_))); (case side2 => exact HC1.out); rintro e w51 ⟨rfl, hb⟩; have n0_ := Aside0.mk (blk_below (g := gb104) (o := .cells #[.bool a0_0, .int .i64 a0_1, .string a0_2, .string a0_3, .bool a0_4, .int .u32 a0_5, .int .i64 a0_6] 35 (0, 0)) (by (with_reducible repeat (first | refine blk_drewN ?_ _ | refine blk_drew ?_ | refine blk_alloc ?_ _)); exact BK104.out) hb); have n1_ := Aside0.mk (below_step (by repeat (first | (with_reducible first | exact HB.out | apply below_alloc | apply pw_below_drewN | apply below_drew1 | refine below_set ?_ GE104.out) | exact HB.out)) hb); clear BK104; clear HB; have BK104 := n0_; have HB := n1_; clear n0_ n1_; (try clear hb); (try clear hb2); (try clear hk); (try clear hi); have hcz52_0 : w51.cell? ⟨gb104, 0, none⟩ = some (.bool a0_0) := (blk_cell BK104.out 0).trans rfl; have hcz52_1 : w51.cell? ⟨gb104, 1, none⟩ = some (.int .i64 a0_1) := (blk_cell BK104.out 1).trans rfl; have hcz52_2 : w51.cell? ⟨gb104, 2, none⟩ = some (.string a0_2) := (blk_cell BK104.out 2).trans rfl; have hcz52_3 : w51.cell? ⟨gb104, 3, none⟩ = some (.string a0_3) := (blk_cell BK104.out 3).trans rfl; have hcz52_4 : w51.cell? ⟨gb104, 4, none⟩ = some (.bool a0_4) := (blk_cell BK104.out 4).trans rfl; have hcz52_5 : w51.cell? ⟨gb104, 5, none⟩ = some (.int .u32 a0_5) := (blk_cell BK104.out 5).trans rfl; have hcz52_6 : w51.cell? ⟨gb104, 6, none⟩ = some (.int .i64 a0_6) := (blk_cell BK104.out 6).trans rfl; have hfz52_0 := blk_frozen BK104.out 0; have hfz52_1 := blk_frozen BK104.out 1; have hfz52_2 := blk_frozen BK104.out 2; have hfz52_3 := blk_frozen BK104.out 3; have hfz52_4 := blk_frozen BK104.out 4; have hfz52_5 := blk_frozen BK104.out 5; have hfz52_6 := blk_frozen BK104.out 6) | (go_at_call 25; (with_reducible refine (embed_Xfo.calls 3 a0_0 a0_1 a0_2 a0_3 a0_4 a0_5 a0_6 _ _ l1 t117 _ ?side1 ?side2 A45.out).mono ?_); (case side1 => repeat (first | exact (Kd.C_below HR1.out HB.out) | (with_reducible refine Kd.C_alloc ?_ _) | (with_reducible refine Kd.C_drewN ?_ _) | (with_reducible refine Kd.C_drew ?_))); (case side2 => exact HC1.out); rintro e w53 ⟨rfl, hb⟩; have n0_ := Aside0.mk (blk_below (g := gb104) (o := .cells #[.bool a0_0, .int .i64 a0_1, .string a0_2, .string a0_3, .bool a0_4, .int .u32 a0_5, .int .i64 a0_6] 35 (0, 0)) (by (with_reducible repeat (first | refine blk_drewN ?_ _ | refine blk_drew ?_ | refine blk_alloc ?_ _)); exact BK104.out) hb); have n1_ := Aside0.mk (below_step (by repeat (first | (with_reducible first | exact HB.out | apply below_alloc | apply pw_below_drewN | apply below_drew1 | refine below_set ?_ GE104.out) | exact HB.out)) hb); clear BK104; clear HB; have BK104 := n0_; have HB := n1_; clear n0_ n1_; (try clear hb); (try clear hb2); (try clear hk); (try clear hi)))
                                  go_ret
                                  exact ⟨by first | rfl | (simp [errW_none, errW_some] <;> rfl) | (simp [*, errW_none, errW_some] <;> rfl), by repeat (first | (with_reducible first | exact HB.out | apply below_alloc | apply pw_below_drewN | apply below_drew1 | refine below_set ?_ GE104.out) | exact HB.out)⟩
                                · replace c44 := Bool.eq_false_iff.mpr c44
                                  subst c44
                                  have H1 : (some false) = some r := by rw [if_neg (show ¬ (false = true) by decide)] at H; exact H
                                  clear H
                                  have H := H1
                                  clear H1
                                  obtain rfl := Option.some.inj H
                                  have hcz54_0 : wc.cell? ⟨gb104, 0, none⟩ = some (.bool a0_0) := (blk_cell BK104.out 0).trans rfl
                                  have hcz54_1 : wc.cell? ⟨gb104, 1, none⟩ = some (.int .i64 a0_1) := (blk_cell BK104.out 1).trans rfl
                                  have hcz54_2 : wc.cell? ⟨gb104, 2, none⟩ = some (.string a0_2) := (blk_cell BK104.out 2).trans rfl
                                  have hcz54_3 : wc.cell? ⟨gb104, 3, none⟩ = some (.string a0_3) := (blk_cell BK104.out 3).trans rfl
                                  have hcz54_4 : wc.cell? ⟨gb104, 4, none⟩ = some (.bool a0_4) := (blk_cell BK104.out 4).trans rfl
                                  have hcz54_5 : wc.cell? ⟨gb104, 5, none⟩ = some (.int .u32 a0_5) := (blk_cell BK104.out 5).trans rfl
                                  have hcz54_6 : wc.cell? ⟨gb104, 6, none⟩ = some (.int .i64 a0_6) := (blk_cell BK104.out 6).trans rfl
                                  have hfz54_0 := blk_frozen BK104.out 0
                                  have hfz54_1 := blk_frozen BK104.out 1
                                  have hfz54_2 := blk_frozen BK104.out 2
                                  have hfz54_3 := blk_frozen BK104.out 3
                                  have hfz54_4 := blk_frozen BK104.out 4
                                  have hfz54_5 := blk_frozen BK104.out 5
                                  have hfz54_6 := blk_frozen BK104.out 6
                                  go_wp2_with (first | ((with_reducible refine gate_callee (f := 25) rfl ?_); refine goesL_ (some 65) rfl rfl Tryd.func25 (by kernel_rfl) rfl #[.int .i64 2, .agg #[.bool a0_0, .int .i64 a0_1, .string a0_2, .string a0_3, .bool a0_4, .int .u32 a0_5, .int .i64 a0_6], .slice A1 l1.length c1] rfl (by (try simp only [List.map_toArray, List.map_cons, List.map_nil]); first | done | rfl | (simp only [List.length_drop, List.length_take]; rfl)) ?_; (with_reducible refine (embed_Xfo.calls 2 a0_0 a0_1 a0_2 a0_3 a0_4 a0_5 a0_6 _ _ l1 t114 _ ?side1 ?side2 A37.out).mono ?_); (case side1 => repeat (first | exact (Kd.C_below HR1.out HB.out) | (with_reducible refine Kd.C_alloc ?_ _) | (with_reducible refine Kd.C_drewN ?_ _) | (with_reducible refine Kd.C_drew ?_))); (case side2 => exact HC1.out); rintro e w55 ⟨rfl, hb⟩; refine ⟨_, rfl, ?_⟩; have n0_ := Aside0.mk (blk_below (g := gb104) (o := .cells #[.bool a0_0, .int .i64 a0_1, .string a0_2, .string a0_3, .bool a0_4, .int .u32 a0_5, .int .i64 a0_6] 35 (0, 0)) (by (with_reducible repeat (first | refine blk_drewN ?_ _ | refine blk_drew ?_ | refine blk_alloc ?_ _)); exact BK104.out) hb); have n1_ := Aside0.mk (below_step (by repeat (first | (with_reducible first | exact HB.out | apply below_alloc | apply pw_below_drewN | apply below_drew1 | refine below_set ?_ GE104.out) | exact HB.out)) hb); clear BK104; clear HB; have BK104 := n0_; have HB := n1_; clear n0_ n1_; (try clear hb); (try clear hb2); (try clear hk); (try clear hi); have hcz56_0 : w55.cell? ⟨gb104, 0, none⟩ = some (.bool a0_0) := (blk_cell BK104.out 0).trans rfl; have hcz56_1 : w55.cell? ⟨gb104, 1, none⟩ = some (.int .i64 a0_1) := (blk_cell BK104.out 1).trans rfl; have hcz56_2 : w55.cell? ⟨gb104, 2, none⟩ = some (.string a0_2) := (blk_cell BK104.out 2).trans rfl; have hcz56_3 : w55.cell? ⟨gb104, 3, none⟩ = some (.string a0_3) := (blk_cell BK104.out 3).trans rfl; have hcz56_4 : w55.cell? ⟨gb104, 4, none⟩ = some (.bool a0_4) := (blk_cell BK104.out 4).trans rfl; have hcz56_5 : w55.cell? ⟨gb104, 5, none⟩ = some (.int .u32 a0_5) := (blk_cell BK104.out 5).trans rfl; have hcz56_6 : w55.cell? ⟨gb104, 6, none⟩ = some (.int .i64 a0_6) := (blk_cell BK104.out 6).trans rfl; have hfz56_0 := blk_frozen BK104.out 0; have hfz56_1 := blk_frozen BK104.out 1; have hfz56_2 := blk_frozen BK104.out 2; have hfz56_3 := blk_frozen BK104.out 3; have hfz56_4 := blk_frozen BK104.out 4; have hfz56_5 := blk_frozen BK104.out 5; have hfz56_6 := blk_frozen BK104.out 6) | (go_at_call 25; (with_reducible refine (embed_Xfo.calls 1 a0_0 a0_1 a0_2 a0_3 a0_4 a0_5 a0_6 _ _ l1 t115 _ ?side1 ?side2 A39.out).mono ?_); (case side1 => repeat (first | exact (Kd.C_below HR1.out HB.out) | (with_reducible refine Kd.C_alloc ?_ _) | (with_reducible refine Kd.C_drewN ?_ _) | (with_reducible refine Kd.C_drew ?_))); (case side2 => exact HC1.out); rintro e w57 ⟨rfl, hb⟩; have n0_ := Aside0.mk (blk_below (g := gb104) (o := .cells #[.bool a0_0, .int .i64 a0_1, .string a0_2, .string a0_3, .bool a0_4, .int .u32 a0_5, .int .i64 a0_6] 35 (0, 0)) (by (with_reducible repeat (first | refine blk_drewN ?_ _ | refine blk_drew ?_ | refine blk_alloc ?_ _)); exact BK104.out) hb); have n1_ := Aside0.mk (below_step (by repeat (first | (with_reducible first | exact HB.out | apply below_alloc | apply pw_below_drewN | apply below_drew1 | refine below_set ?_ GE104.out) | exact HB.out)) hb); clear BK104; clear HB; have BK104 := n0_; have HB := n1_; clear n0_ n1_; (try clear hb); (try clear hb2); (try clear hk); (try clear hi); have hcz58_0 : w57.cell? ⟨gb104, 0, none⟩ = some (.bool a0_0) := (blk_cell BK104.out 0).trans rfl; have hcz58_1 : w57.cell? ⟨gb104, 1, none⟩ = some (.int .i64 a0_1) := (blk_cell BK104.out 1).trans rfl; have hcz58_2 : w57.cell? ⟨gb104, 2, none⟩ = some (.string a0_2) := (blk_cell BK104.out 2).trans rfl; have hcz58_3 : w57.cell? ⟨gb104, 3, none⟩ = some (.string a0_3) := (blk_cell BK104.out 3).trans rfl; have hcz58_4 : w57.cell? ⟨gb104, 4, none⟩ = some (.bool a0_4) := (blk_cell BK104.out 4).trans rfl; have hcz58_5 : w57.cell? ⟨gb104, 5, none⟩ = some (.int .u32 a0_5) := (blk_cell BK104.out 5).trans rfl; have hcz58_6 : w57.cell? ⟨gb104, 6, none⟩ = some (.int .i64 a0_6) := (blk_cell BK104.out 6).trans rfl; have hfz58_0 := blk_frozen BK104.out 0; have hfz58_1 := blk_frozen BK104.out 1; have hfz58_2 := blk_frozen BK104.out 2; have hfz58_3 := blk_frozen BK104.out 3; have hfz58_4 := blk_frozen BK104.out 4; have hfz58_5 := blk_frozen BK104.out 5; have hfz58_6 := blk_frozen BK104.out 6) | (go_at_call 25; (with_reducible refine (embed_Xfo.calls 0 a0_0 a0_1 a0_2 a0_3 a0_4 a0_5 a0_6 _ _ l1 false _ ?side1 ?side2 A43.out).mono ?_); (case side1 => repeat (first | exact (Kd.C_below HR1.out HB.out) | (with_reducible refine Kd.C_alloc ?_ _) | (with_reducible refine Kd.C_drewN ?_ _) | (with_reducible refine Kd.C_drew ?_))); (case side2 => exact HC1.out); rintro e w59 ⟨rfl, hb⟩; have n0_ := Aside0.mk (blk_below (g := gb104) (o := .cells #[.bool a0_0, .int .i64 a0_1, .string a0_2, .string a0_3, .bool a0_4, .int .u32 a0_5, .int .i64 a0_6] 35 (0, 0)) (by (with_reducible repeat (first | refine blk_drewN ?_ _ | refine blk_drew ?_ | refine blk_alloc ?_ _)); exact BK104.out) hb); have n1_ := Aside0.mk (below_step (by repeat (first | (with_reducible first | exact HB.out | apply below_alloc | apply pw_below_drewN | apply below_drew1 | refine below_set ?_ GE104.out) | exact HB.out)) hb); clear BK104; clear HB; have BK104 := n0_; have HB := n1_; clear n0_ n1_; (try clear hb); (try clear hb2); (try clear hk); (try clear hi)))
                                  go_ret
                                  exact ⟨by first | rfl | (simp [errW_none, errW_some] <;> rfl) | (simp [*, errW_none, errW_some] <;> rfl), by repeat (first | (with_reducible first | exact HB.out | apply below_alloc | apply pw_below_drewN | apply below_drew1 | refine below_set ?_ GE104.out) | exact HB.out)⟩
                              · rw [if_neg c42] at H
                                have c42b0 : (t115 == ((l1.length : Int) == 0)) = false := by simpa using c42
                                (try (have c42b1 : decide (t115 = ((l1.length : Int) == 0)) = false := by simpa using c42))
                                (try (have c42b2 : (t115 == ((l1.length : Int) == 0)) = false := by simpa using c42))
                                (try (have c42b3 : ¬ (t115 = ((l1.length : Int) == 0)) := by simpa using c42))
                                clear c42
                                obtain rfl := Option.some.inj H
                                have hcz60_0 : wc.cell? ⟨gb104, 0, none⟩ = some (.bool a0_0) := (blk_cell BK104.out 0).trans rfl
                                have hcz60_1 : wc.cell? ⟨gb104, 1, none⟩ = some (.int .i64 a0_1) := (blk_cell BK104.out 1).trans rfl
                                have hcz60_2 : wc.cell? ⟨gb104, 2, none⟩ = some (.string a0_2) := (blk_cell BK104.out 2).trans rfl
                                have hcz60_3 : wc.cell? ⟨gb104, 3, none⟩ = some (.string a0_3) := (blk_cell BK104.out 3).trans rfl
                                have hcz60_4 : wc.cell? ⟨gb104, 4, none⟩ = some (.bool a0_4) := (blk_cell BK104.out 4).trans rfl
                                have hcz60_5 : wc.cell? ⟨gb104, 5, none⟩ = some (.int .u32 a0_5) := (blk_cell BK104.out 5).trans rfl
                                have hcz60_6 : wc.cell? ⟨gb104, 6, none⟩ = some (.int .i64 a0_6) := (blk_cell BK104.out 6).trans rfl
                                have hfz60_0 := blk_frozen BK104.out 0
                                have hfz60_1 := blk_frozen BK104.out 1
                                have hfz60_2 := blk_frozen BK104.out 2
                                have hfz60_3 := blk_frozen BK104.out 3
                                have hfz60_4 := blk_frozen BK104.out 4
                                have hfz60_5 := blk_frozen BK104.out 5
                                have hfz60_6 := blk_frozen BK104.out 6
                                go_wp2_with (first | ((with_reducible refine gate_callee (f := 25) rfl ?_); refine goesL_ (some 65) rfl rfl Tryd.func25 (by kernel_rfl) rfl #[.int .i64 2, .agg #[.bool a0_0, .int .i64 a0_1, .string a0_2, .string a0_3, .bool a0_4, .int .u32 a0_5, .int .i64 a0_6], .slice A1 l1.length c1] rfl (by (try simp only [List.map_toArray, List.map_cons, List.map_nil]); first | done | rfl | (simp only [List.length_drop, List.length_take]; rfl)) ?_; (with_reducible refine (embed_Xfo.calls 2 a0_0 a0_1 a0_2 a0_3 a0_4 a0_5 a0_6 _ _ l1 t114 _ ?side1 ?side2 A37.out).mono ?_); (case side1 => repeat (first | exact (Kd.C_below HR1.out HB.out) | (with_reducible refine Kd.C_alloc ?_ _) | (with_reducible refine Kd.C_drewN ?_ _) | (with_reducible refine Kd.C_drew ?_))); (case side2 => exact HC1.out); rintro e w61 ⟨rfl, hb⟩; refine ⟨_, rfl, ?_⟩; have n0_ := Aside0.mk (blk_below (g := gb104) (o := .cells #[.bool a0_0, .int .i64 a0_1, .string a0_2, .string a0_3, .bool a0_4, .int .u32 a0_5, .int .i64 a0_6] 35 (0, 0)) (by (with_reducible repeat (first | refine blk_drewN ?_ _ | refine blk_drew ?_ | refine blk_alloc ?_ _)); exact BK104.out) hb); have n1_ := Aside0.mk (below_step (by repeat (first | (with_reducible first | exact HB.out | apply below_alloc | apply pw_below_drewN | apply below_drew1 | refine below_set ?_ GE104.out) | exact HB.out)) hb); clear BK104; clear HB; have BK104 := n0_; have HB := n1_; clear n0_ n1_; (try clear hb); (try clear hb2); (try clear hk); (try clear hi); have hcz62_0 : w61.cell? ⟨gb104, 0, none⟩ = some (.bool a0_0) := (blk_cell BK104.out 0).trans rfl; have hcz62_1 : w61.cell? ⟨gb104, 1, none⟩ = some (.int .i64 a0_1) := (blk_cell BK104.out 1).trans rfl; have hcz62_2 : w61.cell? ⟨gb104, 2, none⟩ = some (.string a0_2) := (blk_cell BK104.out 2).trans rfl; have hcz62_3 : w61.cell? ⟨gb104, 3, none⟩ = some (.string a0_3) := (blk_cell BK104.out 3).trans rfl; have hcz62_4 : w61.cell? ⟨gb104, 4, none⟩ = some (.bool a0_4) := (blk_cell BK104.out 4).trans rfl; have hcz62_5 : w61.cell? ⟨gb104, 5, none⟩ = some (.int .u32 a0_5) := (blk_cell BK104.out 5).trans rfl; have hcz62_6 : w61.cell? ⟨gb104, 6, none⟩ = some (.int .i64 a0_6) := (blk_cell BK104.out 6).trans rfl; have hfz62_0 := blk_frozen BK104.out 0; have hfz62_1 := blk_frozen BK104.out 1; have hfz62_2 := blk_frozen BK104.out 2; have hfz62_3 := blk_frozen BK104.out 3; have hfz62_4 := blk_frozen BK104.out 4; have hfz62_5 := blk_frozen BK104.out 5; have hfz62_6 := blk_frozen BK104.out 6) | (go_at_call 25; (with_reducible refine (embed_Xfo.calls 1 a0_0 a0_1 a0_2 a0_3 a0_4 a0_5 a0_6 _ _ l1 t115 _ ?side1 ?side2 A39.out).mono ?_); (case side1 => repeat (first | exact (Kd.C_below HR1.out HB.out) | (with_reducible refine Kd.C_alloc ?_ _) | (with_reducible refine Kd.C_drewN ?_ _) | (with_reducible refine Kd.C_drew ?_))); (case side2 => exact HC1.out); rintro e w63 ⟨rfl, hb⟩; have n0_ := Aside0.mk (blk_below (g := gb104) (o := .cells #[.bool a0_0, .int .i64 a0_1, .string a0_2, .string a0_3, .bool a0_4, .int .u32 a0_5, .int .i64 a0_6] 35 (0, 0)) (by (with_reducible repeat (first | refine blk_drewN ?_ _ | refine blk_drew ?_ | refine blk_alloc ?_ _)); exact BK104.out) hb); have n1_ := Aside0.mk (below_step (by repeat (first | (with_reducible first | exact HB.out | apply below_alloc | apply pw_below_drewN | apply below_drew1 | refine below_set ?_ GE104.out) | exact HB.out)) hb); clear BK104; clear HB; have BK104 := n0_; have HB := n1_; clear n0_ n1_; (try clear hb); (try clear hb2); (try clear hk); (try clear hi)))
                                go_ret
                                exact ⟨by first | rfl | (simp [errW_none, errW_some] <;> rfl) | (simp [*, errW_none, errW_some] <;> rfl), by repeat (first | (with_reducible first | exact HB.out | apply below_alloc | apply pw_below_drewN | apply below_drew1 | refine below_set ?_ GE104.out) | exact HB.out)⟩
                            · replace c41 := Bool.eq_false_iff.mpr c41
                              subst c41
                              have H1 : (some false) = some r := by rw [if_neg (show ¬ (false = true) by decide)] at H; exact H
                              clear H
                              have H := H1
                              clear H1
                              obtain rfl := Option.some.inj H
                              have hcz64_0 : wc.cell? ⟨gb104, 0, none⟩ = some (.bool a0_0) := (blk_cell BK104.out 0).trans rfl
                              have hcz64_1 : wc.cell? ⟨gb104, 1, none⟩ = some (.int .i64 a0_1) := (blk_cell BK104.out 1).trans rfl
                              have hcz64_2 : wc.cell? ⟨gb104, 2, none⟩ = some (.string a0_2) := (blk_cell BK104.out 2).trans rfl
                              have hcz64_3 : wc.cell? ⟨gb104, 3, none⟩ = some (.string a0_3) := (blk_cell BK104.out 3).trans rfl
                              have hcz64_4 : wc.cell? ⟨gb104, 4, none⟩ = some (.bool a0_4) := (blk_cell BK104.out 4).trans rfl
                              have hcz64_5 : wc.cell? ⟨gb104, 5, none⟩ = some (.int .u32 a0_5) := (blk_cell BK104.out 5).trans rfl
                              have hcz64_6 : wc.cell? ⟨gb104, 6, none⟩ = some (.int .i64 a0_6) := (blk_cell BK104.out 6).trans rfl
                              have hfz64_0 := blk_frozen BK104.out 0
                              have hfz64_1 := blk_frozen BK104.out 1
                              have hfz64_2 := blk_frozen BK104.out 2
                              have hfz64_3 := blk_frozen BK104.out 3
                              have hfz64_4 := blk_frozen BK104.out 4
                              have hfz64_5 := blk_frozen BK104.out 5
                              have hfz64_6 := blk_frozen BK104.out 6
                              go_wp2_with (first | ((with_reducible refine gate_callee (f := 25) rfl ?_); refine goesL_ (some 65) rfl rfl Tryd.func25 (by kernel_rfl) rfl #[.int .i64 2, .agg #[.bool a0_0, .int .i64 a0_1, .string a0_2, .string a0_3, .bool a0_4, .int .u32 a0_5, .int .i64 a0_6], .slice A1 l1.length c1] rfl (by (try simp only [List.map_toArray, List.map_cons, List.map_nil]); first | done | rfl | (simp only [List.length_drop, List.length_take]; rfl)) ?_; (with_reducible refine (embed_Xfo.calls 2 a0_0 a0_1 a0_2 a0_3 a0_4 a0_5 a0_6 _ _ l1 t114 _ ?side1 ?side2 A37.out).mono ?_); (case side1 => repeat (first | exact (Kd.C_below HR1.out HB.out) | (with_reducible refine Kd.C_alloc ?_ _) | (with_reducible refine Kd.C_drewN ?_ _) | (with_reducible refine Kd.C_drew ?_))); (case side2 => exact HC1.out); rintro e w65 ⟨rfl, hb⟩; refine ⟨_, rfl, ?_⟩; have n0_ := Aside0.mk (blk_below (g := gb104) (o := .cells #[.bool a0_0, .int .i64 a0_1, .string a0_2, .string a0_3, .bool a0_4, .int .u32 a0_5, .int .i64 a0_6] 35 (0, 0)) (by (with_reducible repeat (first | refine blk_drewN ?_ _ | refine blk_drew ?_ | refine blk_alloc ?_ _)); exact BK104.out) hb); have n1_ := Aside0.mk (below_step (by repeat (first | (with_reducible first | exact HB.out | apply below_alloc | apply pw_below_drewN | apply below_drew1 | refine below_set ?_ GE104.out) | exact HB.out)) hb); clear BK104; clear HB; have BK104 := n0_; have HB := n1_; clear n0_ n1_; (try clear hb); (try clear hb2); (try clear hk); (try clear hi); have hcz66_0 : w65.cell? ⟨gb104, 0, none⟩ = some (.bool a0_0) := (blk_cell BK104.out 0).trans rfl; have hcz66_1 : w65.cell? ⟨gb104, 1, none⟩ = some (.int .i64 a0_1) := (blk_cell BK104.out 1).trans rfl; have hcz66_2 : w65.cell? ⟨gb104, 2, none⟩ = some (.string a0_2) := (blk_cell BK104.out 2).trans rfl; have hcz66_3 : w65.cell? ⟨gb104, 3, none⟩ = some (.string a0_3) := (blk_cell BK104.out 3).trans rfl; have hcz66_4 : w65.cell? ⟨gb104, 4, none⟩ = some (.bool a0_4) := (blk_cell BK104.out 4).trans rfl; have hcz66_5 : w65.cell? ⟨gb104, 5, none⟩ = some (.int .u32 a0_5) := (blk_cell BK104.out 5).trans rfl; have hcz66_6 : w65.cell? ⟨gb104, 6, none⟩ = some (.int .i64 a0_6) := (blk_cell BK104.out 6).trans rfl; have hfz66_0 := blk_frozen BK104.out 0; have hfz66_1 := blk_frozen BK104.out 1; have hfz66_2 := blk_frozen BK104.out 2; have hfz66_3 := blk_frozen BK104.out 3; have hfz66_4 := blk_frozen BK104.out 4; have hfz66_5 := blk_frozen BK104.out 5; have hfz66_6 := blk_frozen BK104.out 6) | (go_at_call 25; (with_reducible refine (embed_Xfo.calls 1 a0_0 a0_1 a0_2 a0_3 a0_4 a0_5 a0_6 _ _ l1 t115 _ ?side1 ?side2 A39.out).mono ?_); (case side1 => repeat (first | exact (Kd.C_below HR1.out HB.out) | (with_reducible refine Kd.C_alloc ?_ _) | (with_reducible refine Kd.C_drewN ?_ _) | (with_reducible refine Kd.C_drew ?_))); (case side2 => exact HC1.out); rintro e w67 ⟨rfl, hb⟩; have n0_ := Aside0.mk (blk_below (g := gb104) (o := .cells #[.bool a0_0, .int .i64 a0_1, .string a0_2, .string a0_3, .bool a0_4, .int .u32 a0_5, .int .i64 a0_6] 35 (0, 0)) (by (with_reducible repeat (first | refine blk_drewN ?_ _ | refine blk_drew ?_ | refine blk_alloc ?_ _)); exact BK104.out) hb); have n1_ := Aside0.mk (below_step (by repeat (first | (with_reducible first | exact HB.out | apply below_alloc | apply pw_below_drewN | apply below_drew1 | refine below_set ?_ GE104.out) | exact HB.out)) hb); clear BK104; clear HB; have BK104 := n0_; have HB := n1_; clear n0_ n1_; (try clear hb); (try clear hb2); (try clear hk); (try clear hi)))
                              go_ret
                              exact ⟨by first | rfl | (simp [errW_none, errW_some] <;> rfl) | (simp [*, errW_none, errW_some] <;> rfl), by repeat (first | (with_reducible first | exact HB.out | apply below_alloc | apply pw_below_drewN | apply below_drew1 | refine below_set ?_ GE104.out) | exact HB.out)⟩
                          · replace c40 := Bool.eq_false_iff.mpr c40
                            subst c40
                            have H1 : (some false) = some r := by rw [if_neg (show ¬ (false = true) by decide)] at H; exact H
                            clear H
                            have H := H1
                            clear H1
                            obtain rfl := Option.some.inj H
                            have hcz68_0 : wc.cell? ⟨gb104, 0, none⟩ = some (.bool a0_0) := (blk_cell BK104.out 0).trans rfl
                            have hcz68_1 : wc.cell? ⟨gb104, 1, none⟩ = some (.int .i64 a0_1) := (blk_cell BK104.out 1).trans rfl
                            have hcz68_2 : wc.cell? ⟨gb104, 2, none⟩ = some (.string a0_2) := (blk_cell BK104.out 2).trans rfl
                            have hcz68_3 : wc.cell? ⟨gb104, 3, none⟩ = some (.string a0_3) := (blk_cell BK104.out 3).trans rfl
                            have hcz68_4 : wc.cell? ⟨gb104, 4, none⟩ = some (.bool a0_4) := (blk_cell BK104.out 4).trans rfl
                            have hcz68_5 : wc.cell? ⟨gb104, 5, none⟩ = some (.int .u32 a0_5) := (blk_cell BK104.out 5).trans rfl
                            have hcz68_6 : wc.cell? ⟨gb104, 6, none⟩ = some (.int .i64 a0_6) := (blk_cell BK104.out 6).trans rfl
                            have hfz68_0 := blk_frozen BK104.out 0
                            have hfz68_1 := blk_frozen BK104.out 1
                            have hfz68_2 := blk_frozen BK104.out 2
                            have hfz68_3 := blk_frozen BK104.out 3
                            have hfz68_4 := blk_frozen BK104.out 4
                            have hfz68_5 := blk_frozen BK104.out 5
                            have hfz68_6 := blk_frozen BK104.out 6
                            go_wp2_with (first | ((with_reducible refine gate_callee (f := 25) rfl ?_); refine goesL_ (some 65) rfl rfl Tryd.func25 (by kernel_rfl) rfl #[.int .i64 2, .agg #[.bool a0_0, .int .i64 a0_1, .string a0_2, .string a0_3, .bool a0_4, .int .u32 a0_5, .int .i64 a0_6], .slice A1 l1.length c1] rfl (by (try simp only [List.map_toArray, List.map_cons, List.map_nil]); first | done | rfl | (simp only [List.length_drop, List.length_take]; rfl)) ?_; (with_reducible refine (embed_Xfo.calls 2 a0_0 a0_1 a0_2 a0_3 a0_4 a0_5 a0_6 _ _ l1 t114 _ ?side1 ?side2 A37.out).mono ?_); (case side1 => repeat (first | exact (Kd.C_below HR1.out HB.out) | (with_reducible refine Kd.C_alloc ?_ _) | (with_reducible refine Kd.C_drewN ?_ _) | (with_reducible refine Kd.C_drew ?_))); (case side2 => exact HC1.out); rintro e w69 ⟨rfl, hb⟩; refine ⟨_, rfl, ?_⟩; have n0_ := Aside0.mk (blk_below (g := gb104) (o := .cells #[.bool a0_0, .int .i64 a0_1, .string a0_2, .string a0_3, .bool a0_4, .int .u32 a0_5, .int .i64 a0_6] 35 (0, 0)) (by (with_reducible repeat (first | refine blk_drewN ?_ _ | refine blk_drew ?_ | refine blk_alloc ?_ _)); exact BK104.out) hb); have n1_ := Aside0.mk (below_step (by repeat (first | (with_reducible first | exact HB.out | apply below_alloc | apply pw_below_drewN | apply below_drew1 | refine below_set ?_ GE104.out) | exact HB.out)) hb); clear BK104; clear HB; have BK104 := n0_; have HB := n1_; clear n0_ n1_; (try clear hb); (try clear hb2); (try clear hk); (try clear hi); have hcz70_0 : w69.cell? ⟨gb104, 0, none⟩ = some (.bool a0_0) := (blk_cell BK104.out 0).trans rfl; have hcz70_1 : w69.cell? ⟨gb104, 1, none⟩ = some (.int .i64 a0_1) := (blk_cell BK104.out 1).trans rfl; have hcz70_2 : w69.cell? ⟨gb104, 2, none⟩ = some (.string a0_2) := (blk_cell BK104.out 2).trans rfl; have hcz70_3 : w69.cell? ⟨gb104, 3, none⟩ = some (.string a0_3) := (blk_cell BK104.out 3).trans rfl; have hcz70_4 : w69.cell? ⟨gb104, 4, none⟩ = some (.bool a0_4) := (blk_cell BK104.out 4).trans rfl; have hcz70_5 : w69.cell? ⟨gb104, 5, none⟩ = some (.int .u32 a0_5) := (blk_cell BK104.out 5).trans rfl; have hcz70_6 : w69.cell? ⟨gb104, 6, none⟩ = some (.int .i64 a0_6) := (blk_cell BK104.out 6).trans rfl; have hfz70_0 := blk_frozen BK104.out 0; have hfz70_1 := blk_frozen BK104.out 1; have hfz70_2 := blk_frozen BK104.out 2; have hfz70_3 := blk_frozen BK104.out 3; have hfz70_4 := blk_frozen BK104.out 4; have hfz70_5 := blk_frozen BK104.out 5; have hfz70_6 := blk_frozen BK104.out 6) | (go_at_call 25; (with_reducible refine (embed_Xfo.calls 1 a0_0 a0_1 a0_2 a0_3 a0_4 a0_5 a0_6 _ _ l1 t115 _ ?side1 ?side2 A39.out).mono ?_); (case side1 => repeat (first | exact (Kd.C_below HR1.out HB.out) | (with_reducible refine Kd.C_alloc ?_ _) | (with_reducible refine Kd.C_drewN ?_ _) | (with_reducible refine Kd.C_drew ?_))); (case side2 => exact HC1.out); rintro e w71 ⟨rfl, hb⟩; have n0_ := Aside0.mk (blk_below (g := gb104) (o := .cells #[.bool a0_0, .int .i64 a0_1, .string a0_2, .string a0_3, .bool a0_4, .int .u32 a0_5, .int .i64 a0_6] 35 (0, 0)) (by (with_reducible repeat (first | refine blk_drewN ?_ _ | refine blk_drew ?_ | refine blk_alloc ?_ _)); exact BK104.out) hb); have n1_ := Aside0.mk (below_step (by repeat (first | (with_reducible first | exact HB.out | apply below_alloc | apply pw_below_drewN | apply below_drew1 | refine below_set ?_ GE104.out) | exact HB.out)) hb); clear BK104; clear HB; have BK104 := n0_; have HB := n1_; clear n0_ n1_; (try clear hb); (try clear hb2); (try clear hk); (try clear hi)))
                            go_ret
                            exact ⟨by first | rfl | (simp [errW_none, errW_some] <;> rfl) | (simp [*, errW_none, errW_some] <;> rfl), by repeat (first | (with_reducible first | exact HB.out | apply below_alloc | apply pw_below_drewN | apply below_drew1 | refine below_set ?_ GE104.out) | exact HB.out)⟩
                        · rw [if_neg c38] at H
                          have c38b0 : (t114 == x11_3) = false := by simpa using c38
                          (try (have c38b1 : decide (t114 = x11_3) = false := by simpa using c38))
                          (try (have c38b2 : (t114 == x11_3) = false := by simpa using c38))
                          (try (have c38b3 : ¬ (t114 = x11_3) := by simpa using c38))
                          clear c38
                          by_cases c72 : t105 = true
                          · subst c72
                            have H1 : (if x14_24 = true then (some false) else (some false)) = some r := by rw [if_pos rfl] at H; exact H
                            clear H
                            have H := H1
                            clear H1
                            by_cases c73 : x14_24 = true
                            · subst c73
                              have H1 : (some false) = some r := by rw [if_pos rfl] at H; exact H
                              clear H
                              have H := H1
                              clear H1
                              obtain rfl := Option.some.inj H
                              have hcz74_0 : wc.cell? ⟨gb104, 0, none⟩ = some (.bool a0_0) := (blk_cell BK104.out 0).trans rfl
                              have hcz74_1 : wc.cell? ⟨gb104, 1, none⟩ = some (.int .i64 a0_1) := (blk_cell BK104.out 1).trans rfl
                              have hcz74_2 : wc.cell? ⟨gb104, 2, none⟩ = some (.string a0_2) := (blk_cell BK104.out 2).trans rfl
                              have hcz74_3 : wc.cell? ⟨gb104, 3, none⟩ = some (.string a0_3) := (blk_cell BK104.out 3).trans rfl
                              have hcz74_4 : wc.cell? ⟨gb104, 4, none⟩ = some (.bool a0_4) := (blk_cell BK104.out 4).trans rfl
                              have hcz74_5 : wc.cell? ⟨gb104, 5, none⟩ = some (.int .u32 a0_5) := (blk_cell BK104.out 5).trans rfl
                              have hcz74_6 : wc.cell? ⟨gb104, 6, none⟩ = some (.int .i64 a0_6) := (blk_cell BK104.out 6).trans rfl
                              have hfz74_0 := blk_frozen BK104.out 0
                              have hfz74_1 := blk_frozen BK104.out 1
                              have hfz74_2 := blk_frozen BK104.out 2
                              have hfz74_3 := blk_frozen BK104.out 3
                              have hfz74_4 := blk_frozen BK104.out 4
                              have hfz74_5 := blk_frozen BK104.out 5
                              have hfz74_6 := blk_frozen BK104.out 6
                              go_wp2_with (first | ((with_reducible refine gate_callee (f := 25) rfl ?_); refine goesL_ (some 65) rfl rfl Tryd.func25 (by kernel_rfl) rfl #[.int .i64 2, .agg #[.bool a0_0, .int .i64 a0_1, .string a0_2, .string a0_3, .bool a0_4, .int .u32 a0_5, .int .i64 a0_6], .slice A1 l1.length c1] rfl (by (try simp only [List.map_toArray, List.map_cons, List.map_nil]); first | done | rfl | (simp only [List.length_drop, List.length_take]; rfl)) ?_; (with_reducible refine (embed_Xfo.calls 2 a0_0 a0_1 a0_2 a0_3 a0_4 a0_5 a0_6 _ _ l1 t114 _ ?side1 ?side2 A37.out).mono ?_); (case side1 => repeat (first | exact (Kd.C_below HR1.out HB.out) | (with_reducible refine Kd.C_alloc ?_ _) | (with_reducible refine Kd.C_drewN ?_ _) | (with_reducible refine Kd.C_drew ?_))); (case side2 => exact HC1.out); rintro e w75 ⟨rfl, hb⟩; refine ⟨_, rfl, ?_⟩; have n0_ := Aside0.mk (blk_below (g := gb104) (o := .cells #[.bool a0_0, .int .i64 a0_1, .string a0_2, .string a0_3, .bool a0_4, .int .u32 a0_5, .int .i64 a0_6] 35 (0, 0)) (by (with_reducible repeat (first | refine blk_drewN ?_ _ | refine blk_drew ?_ | refine blk_alloc ?_ _)); exact BK104.out) hb); have n1_ := Aside0.mk (below_step (by repeat (first | (with_reducible first | exact HB.out | apply below_alloc | apply pw_below_drewN | apply below_drew1 | refine below_set ?_ GE104.out) | exact HB.out)) hb); clear BK104; clear HB; have BK104 := n0_; have HB := n1_; clear n0_ n1_; (try clear hb); (try clear hb2); (try clear hk); (try clear hi)))
                              go_ret
                              exact ⟨by first | rfl | (simp [errW_none, errW_some] <;> rfl) | (simp [*, errW_none, errW_some] <;> rfl), by repeat (first | (with_reducible first | exact HB.out | apply below_alloc | apply pw_below_drewN | apply below_drew1 | refine below_set ?_ GE104.out) | exact HB.out)⟩
                            · replace c73 := Bool.eq_false_iff.mpr c73
                              subst c73
                              have H1 : (some false) = some r := by rw [if_neg (show ¬ (false = true) by decide)] at H; exact H
                              clear H
                              have H := H1
                              clear H1
                              obtain rfl := Option.some.inj H
                              have hcz76_0 : wc.cell? ⟨gb104, 0, none⟩ = some (.bool a0_0) := (blk_cell BK104.out 0).trans rfl
                              have hcz76_1 : wc.cell? ⟨gb104, 1, none⟩ = some (.int .i64 a0_1) := (blk_cell BK104.out 1).trans rfl
                              have hcz76_2 : wc.cell? ⟨gb104, 2, none⟩ = some (.string a0_2) := (blk_cell BK104.out 2).trans rfl
                              have hcz76_3 : wc.cell? ⟨gb104, 3, none⟩ = some (.string a0_3) := (blk_cell BK104.out 3).trans rfl
                              have hcz76_4 : wc.cell? ⟨gb104, 4, none⟩ = some (.bool a0_4) := (blk_cell BK104.out 4).trans rfl
                              have hcz76_5 : wc.cell? ⟨gb104, 5, none⟩ = some (.int .u32 a0_5) := (blk_cell BK104.out 5).trans rfl
                              have hcz76_6 : wc.cell? ⟨gb104, 6, none⟩ = some (.int .i64 a0_6) := (blk_cell BK104.out 6).trans rfl
                              have hfz76_0 := blk_frozen BK104.out 0
                              have hfz76_1 := blk_frozen BK104.out 1
                              have hfz76_2 := blk_frozen BK104.out 2
                              have hfz76_3 := blk_frozen BK104.out 3
                              have hfz76_4 := blk_frozen BK104.out 4
                              have hfz76_5 := blk_frozen BK104.out 5
                              have hfz76_6 := blk_frozen BK104.out 6
                              go_wp2_with (first | ((with_reducible refine gate_callee (f := 25) rfl ?_); refine goesL_ (some 65) rfl rfl Tryd.func25 (by kernel_rfl) rfl #[.int .i64 2, .agg #[.bool a0_0, .int .i64 a0_1, .string a0_2, .string a0_3, .bool a0_4, .int .u32 a0_5, .int .i64 a0_6], .slice A1 l1.length c1] rfl (by (try simp only [List.map_toArray, List.map_cons, List.map_nil]); first | done | rfl | (simp only [List.length_drop, List.length_take]; rfl)) ?_; (with_reducible refine (embed_Xfo.calls 2 a0_0 a0_1 a0_2 a0_3 a0_4 a0_5 a0_6 _ _ l1 t114 _ ?side1 ?side2 A37.out).mono ?_); (case side1 => repeat (first | exact (Kd.C_below HR1.out HB.out) | (with_reducible refine Kd.C_alloc ?_ _) | (with_reducible refine Kd.C_drewN ?_ _) | (with_reducible refine Kd.C_drew ?_))); (case side2 => exact HC1.out); rintro e w77 ⟨rfl, hb⟩; refine ⟨_, rfl, ?_⟩; have n0_ := Aside0.mk (blk_below (g := gb104) (o := .cells #[.bool a0_0, .int .i64 a0_1, .string a0_2, .string a0_3, .bool a0_4, .int .u32 a0_5, .int .i64 a0_6] 35 (0, 0)) (by (with_reducible repeat (first | refine blk_drewN ?_ _ | refine blk_drew ?_ | refine blk_alloc ?_ _)); exact BK104.out) hb); have n1_ := Aside0.mk (below_step (by repeat (first | (with_reducible first | exact HB.out | apply below_alloc | apply pw_below_drewN | apply below_drew1 | refine below_set ?_ GE104.out) | exact HB.out)) hb); clear BK104; clear HB; have BK104 := n0_; have HB := n1_; clear n0_ n1_; (try clear hb); (try clear hb2); (try clear hk); (try clear hi)))
                              go_ret
                              exact ⟨by first | rfl | (simp [errW_none, errW_some] <;> rfl) | (simp [*, errW_none, errW_some] <;> rfl), by repeat (first | (with_reducible first | exact HB.out | apply below_alloc | apply pw_below_drewN | apply below_drew1 | refine below_set ?_ GE104.out) | exact HB.out)⟩
                          · replace c72 := Bool.eq_false_iff.mpr c72
                            subst c72
                            have H1 : (some false) = some r := by rw [if_neg (show ¬ (false = true) by decide)] at H; exact H
                            clear H
                            have H := H1
                            clear H1
                            obtain rfl := Option.some.inj H
                            have hcz78_0 : wc.cell? ⟨gb104, 0, none⟩ = some (.bool a0_0) := (blk_cell BK104.out 0).trans rfl
                            have hcz78_1 : wc.cell? ⟨gb104, 1, none⟩ = some (.int .i64 a0_1) := (blk_cell BK104.out 1).trans rfl
                            have hcz78_2 : wc.cell? ⟨gb104, 2, none⟩ = some (.string a0_2) := (blk_cell BK104.out 2).trans rfl
                            have hcz78_3 : wc.cell? ⟨gb104, 3, none⟩ = some (.string a0_3) := (blk_cell BK104.out 3).trans rfl
                            have hcz78_4 : wc.cell? ⟨gb104, 4, none⟩ = some (.bool a0_4) := (blk_cell BK104.out 4).trans rfl
                            have hcz78_5 : wc.cell? ⟨gb104, 5, none⟩ = some (.int .u32 a0_5) := (blk_cell BK104.out 5).trans rfl
                            have hcz78_6 : wc.cell? ⟨gb104, 6, none⟩ = some (.int .i64 a0_6) := (blk_cell BK104.out 6).trans rfl
                            have hfz78_0 := blk_frozen BK104.out 0
                            have hfz78_1 := blk_frozen BK104.out 1
                            have hfz78_2 := blk_frozen BK104.out 2
                            have hfz78_3 := blk_frozen BK104.out 3
                            have hfz78_4 := blk_frozen BK104.out 4
                            have hfz78_5 := blk_frozen BK104.out 5
                            have hfz78_6 := blk_frozen BK104.out 6
                            go_wp2_with (first | ((with_reducible refine gate_callee (f := 25) rfl ?_); refine goesL_ (some 65) rfl rfl Tryd.func25 (by kernel_rfl) rfl #[.int .i64 2, .agg #[.bool a0_0, .int .i64 a0_1, .string a0_2, .string a0_3, .bool a0_4, .int .u32 a0_5, .int .i64 a0_6], .slice A1 l1.length c1] rfl (by (try simp only [List.map_toArray, List.map_cons, List.map_nil]); first | done | rfl | (simp only [List.length_drop, List.length_take]; rfl)) ?_; (with_reducible refine (embed_Xfo.calls 2 a0_0 a0_1 a0_2 a0_3 a0_4 a0_5 a0_6 _ _ l1 t114 _ ?side1 ?side2 A37.out).mono ?_); (case side1 => repeat (first | exact (Kd.C_below HR1.out HB.out) | (with_reducible refine Kd.C_alloc ?_ _) | (with_reducible refine Kd.C_drewN ?_ _) | (with_reducible refine Kd.C_drew ?_))); (case side2 => exact HC1.out); rintro e w79 ⟨rfl, hb⟩; refine ⟨_, rfl, ?_⟩; have n0_ := Aside0.mk (blk_below (g := gb104) (o := .cells #[.bool a0_0, .int .i64 a0_1, .string a0_2, .string a0_3, .bool a0_4, .int .u32 a0_5, .int .i64 a0_6] 35 (0, 0)) (by (with_reducible repeat (first | refine blk_drewN ?_ _ | refine blk_drew ?_ | refine blk_alloc ?_ _)); exact BK104.out) hb); have n1_ := Aside0.mk (below_step (by repeat (first | (with_reducible first | exact HB.out | apply below_alloc | apply pw_below_drewN | apply below_drew1 | refine below_set ?_ GE104.out) | exact HB.out)) hb); clear BK104; clear HB; have BK104 := n0_; have HB := n1_; clear n0_ n1_; (try clear hb); (try clear hb2); (try clear hk); (try clear hi)))
                            go_ret
                            exact ⟨by first | rfl | (simp [errW_none, errW_some] <;> rfl) | (simp [*, errW_none, errW_some] <;> rfl), by repeat (first | (with_reducible first | exact HB.out | apply below_alloc | apply pw_below_drewN | apply below_drew1 | refine below_set ?_ GE104.out) | exact HB.out)⟩
  · replace c6 := Bool.eq_false_iff.mpr c6
    subst c6
    have H1 : (some t105) = some r := by rw [if_neg (show ¬ (false = true) by decide)] at H; exact H
    clear H
    have H := H1
    clear H1
    obtain rfl := Option.some.inj H
    go_enter Tryd.func7, Tryd.ntmps7
    go_wp2_with (first | ((with_reducible refine gate_dst (N := 3) rfl ?_); (try (refine gate_guard (by rfl) ?_; dsimp only)); refine box_event ?hg (N := 3) ?hd (cs := #[.bool a0_0, .int .i64 a0_1, .string a0_2, .string a0_3, .bool a0_4, .int .u32 a0_5, .int .i64 a0_6]) (t := 35) ?hr ?_; (case hd => rfl); (case hg => rfl); (case hr => first | (go_simp; done) | (go_simp; rfl)); intro gb104 hg w80 hbox hb; have n0_ := Aside0.mk (below_step (by repeat (first | (with_reducible first | exact HB.out | apply below_alloc | apply pw_below_drewN | apply below_drew1) | exact HB.out)) hb); have n1_ := Aside0.mk (hbox); have n2_ := Aside0.mk ((by rw [hg]; exact (below_size (by repeat (first | (with_reducible first | exact HB.out | apply below_alloc | apply pw_below_drewN | apply below_drew1) | exact HB.out))) : w.heap.size ≤ gb104)); have n3_ := Aside0.mk ((by rw [hg]; exact (below_size (by repeat (first | (with_reducible first | exact HB.out | apply below_alloc | apply pw_below_drewN | apply below_drew1) | exact HB.out))) : w.heap.size ≤ gb104)); clear HB; have HB := n0_; have BK104 := n1_; have GW104 := n2_; have GE104 := n3_; clear n0_ n1_ n2_ n3_; clear hb hbox hg) | ((with_reducible refine gate_callee (f := 22) rfl ?_); refine goesL_ (some 16) rfl rfl Tryd.func22 (by kernel_rfl) rfl #[] rfl (by (try simp only [List.map_toArray, List.map_cons, List.map_nil]); first | done | rfl | (simp only [List.length_drop, List.length_take]; rfl)) ?_; (with_reducible refine (glacislaw18_awake.calls  t105 _ (Gw.to HG_.out (by repeat (first | (with_reducible first | exact HB.out | apply below_alloc | apply pw_below_drewN | apply below_drew1 | refine below_set ?_ GE104.out) | exact HB.out))) A4.out).mono ?_); rintro e w81 ⟨rfl, hb⟩; refine ⟨_, rfl, ?_⟩; have n0_ := Aside0.mk (blk_below (g := gb104) (o := .cells #[.bool a0_0, .int .i64 a0_1, .string a0_2, .string a0_3, .bool a0_4, .int .u32 a0_5, .int .i64 a0_6] 35 (0, 0)) (by (with_reducible repeat (first | refine blk_drewN ?_ _ | refine blk_drew ?_ | refine blk_alloc ?_ _)); exact BK104.out) hb); have n1_ := Aside0.mk (below_step (by repeat (first | (with_reducible first | exact HB.out | apply below_alloc | apply pw_below_drewN | apply below_drew1 | refine below_set ?_ GE104.out) | exact HB.out)) hb); clear BK104; clear HB; have BK104 := n0_; have HB := n1_; clear n0_ n1_; (try clear hb); (try clear hb2); (try clear hk); (try clear hi); have hcz82_0 : w81.cell? ⟨gb104, 0, none⟩ = some (.bool a0_0) := (blk_cell BK104.out 0).trans rfl; have hcz82_1 : w81.cell? ⟨gb104, 1, none⟩ = some (.int .i64 a0_1) := (blk_cell BK104.out 1).trans rfl; have hcz82_2 : w81.cell? ⟨gb104, 2, none⟩ = some (.string a0_2) := (blk_cell BK104.out 2).trans rfl; have hcz82_3 : w81.cell? ⟨gb104, 3, none⟩ = some (.string a0_3) := (blk_cell BK104.out 3).trans rfl; have hcz82_4 : w81.cell? ⟨gb104, 4, none⟩ = some (.bool a0_4) := (blk_cell BK104.out 4).trans rfl; have hcz82_5 : w81.cell? ⟨gb104, 5, none⟩ = some (.int .u32 a0_5) := (blk_cell BK104.out 5).trans rfl; have hcz82_6 : w81.cell? ⟨gb104, 6, none⟩ = some (.int .i64 a0_6) := (blk_cell BK104.out 6).trans rfl; have hfz82_0 := blk_frozen BK104.out 0; have hfz82_1 := blk_frozen BK104.out 1; have hfz82_2 := blk_frozen BK104.out 2; have hfz82_3 := blk_frozen BK104.out 3; have hfz82_4 := blk_frozen BK104.out 4; have hfz82_5 := blk_frozen BK104.out 5; have hfz82_6 := blk_frozen BK104.out 6) | ((with_reducible refine gate_callee (f := 24) rfl ?_); refine goesL_ (some 19) rfl rfl Tryd.func24 (by kernel_rfl) rfl #[.agg #[.bool a0_0, .int .i64 a0_1, .string a0_2, .string a0_3, .bool a0_4, .int .u32 a0_5, .int .i64 a0_6], .slice A1 l1.length c1] rfl (by (try simp only [List.map_toArray, List.map_cons, List.map_nil]); first | done | rfl | (simp only [List.length_drop, List.length_take]; rfl)) ?_; (with_reducible refine (glacislaw18_few.calls k a0_0 a0_1 a0_2 a0_3 a0_4 a0_5 a0_6 _ _ l1 false _ ?side1 ?side2 A5.out).mono ?_); (case side1 => repeat (first | exact (Kd.C_below HR1.out HB.out) | (with_reducible refine Kd.C_alloc ?_ _) | (with_reducible refine Kd.C_drewN ?_ _) | (with_reducible refine Kd.C_drew ?_))); (case side2 => exact HC1.out); rintro e w83 ⟨rfl, hb⟩; refine ⟨_, rfl, ?_⟩; have n0_ := Aside0.mk (blk_below (g := gb104) (o := .cells #[.bool a0_0, .int .i64 a0_1, .string a0_2, .string a0_3, .bool a0_4, .int .u32 a0_5, .int .i64 a0_6] 35 (0, 0)) (by (with_reducible repeat (first | refine blk_drewN ?_ _ | refine blk_drew ?_ | refine blk_alloc ?_ _)); exact BK104.out) hb); have n1_ := Aside0.mk (below_step (by repeat (first | (with_reducible first | exact HB.out | apply below_alloc | apply pw_below_drewN | apply below_drew1 | refine below_set ?_ GE104.out) | exact HB.out)) hb); clear BK104; clear HB; have BK104 := n0_; have HB := n1_; clear n0_ n1_; (try clear hb); (try clear hb2); (try clear hk); (try clear hi)))
    go_ret
    exact ⟨by first | rfl | (simp [errW_none, errW_some] <;> rfl) | (simp [*, errW_none, errW_some] <;> rfl), by repeat (first | (with_reducible first | exact HB.out | apply below_alloc | apply pw_below_drewN | apply below_drew1 | refine below_set ?_ GE104.out) | exact HB.out)⟩

end Go.Proofs.YtgmacggbhcodjaaDoor.F

