/- A part of the claim EmbedPolicies: L4. -/
import Derived.Test.YtgmacggbhcodjaaGreatDoorZEmbedPoliciesL4a
import Derived.Test.YtgmacggbhcodjaaGreatDoorZEmbedPoliciesB2
namespace Go.Proofs.YtgmacggbhcodjaaGreatDoor.L4
open Go.RowKit Go.Proofs.YtgmacggbhcodjaaGreatDoor.Q Go.Proofs.YtgmacggbhcodjaaGreatDoorW.PrintWords Go.Proofs.YtgmacggbhcodjaaGreatDoorW.PrintLast Go.Proofs.YtgmacggbhcodjaaGreatDoorW.PrintMore
attribute [local go_sem] max2_int max_two
set_option linter.unusedVariables false
set_option linter.unusedSimpArgs false

attribute [local go_sem high] eqA29
mutual
def cspmatch_Match.j0 : Nat → Bool → Bool → Int → ByteArray → ByteArray → Bool → Int → Int → Bool → Int → ByteArray → ByteArray → Bool → Int → Int → Option (Bool)
  | 0, _, _, _, _, _, _, _, _, _, _, _, _, _, _, _ => none
  | k + 1, x7, x113000, x113001, x113002, x113003, x113004, x113005, x113006, x114000, x114001, x114002, x114003, x114004, x114005, x114006 => (origin_Same.f x113000 x113001 x113002 x113003 x113004 x113005 x113006 x114000 x114001 x114002 x114003 x114004 x114005 x114006).bind fun t117 => (if t117 = true then (some true) else (if x114000 = true then (some false) else (if (x114003.toList == x113003.toList && (x114004 == x113004 && (x114005 == x113005))) = true then ((cspmatch_together.f x114002 x113002).bind fun t118 => (if t118 = true then (some x7) else (some false))) else (some false))))
def cspmatch_Match.j1 : Nat → Bool → Int → ByteArray → ByteArray → Int → Bool → Int → ByteArray → ByteArray → Bool → Int → Int → Bool → Int → ByteArray → ByteArray → Bool → Int → Int → Option (Bool)
  | 0, _, _, _, _, _, _, _, _, _, _, _, _, _, _, _, _, _, _, _ => none
  | k + 1, x8, x112000, x112001, x112002, x112003, x113000, x113001, x113002, x113003, x113004, x113005, x113006, x114000, x114001, x114002, x114003, x114004, x114005, x114006 => if x112001.toList = ([] : List UInt8) then (if x114000 = true then (cspmatch_Match.j2 k x8 x112000 x112001 x112002 x112003 x113000 x113001 x113002 x113003 x113004 x113005 x113006) else ((cspmatch_together.f x114002 x113002).bind fun t119 => (cspmatch_Match.j2 k t119 x112000 x112001 x112002 x112003 x113000 x113001 x113002 x113003 x113004 x113005 x113006))) else ((cspmatch_together.f x112001 x113002).bind fun t120 => (cspmatch_Match.j2 k t120 x112000 x112001 x112002 x112003 x113000 x113001 x113002 x113003 x113004 x113005 x113006))
def cspmatch_Match.j2 : Nat → Bool → Int → ByteArray → ByteArray → Int → Bool → Int → ByteArray → ByteArray → Bool → Int → Int → Option (Bool)
  | 0, _, _, _, _, _, _, _, _, _, _, _, _ => none
  | k + 1, x8, x112000, x112001, x112002, x112003, x113000, x113001, x113002, x113003, x113004, x113005, x113006 => if x112003 = (-2) then (cspmatch_Match.j3 k x8 true x112000 x112001 x112002 x112003 x113000 x113001 x113002 x113003 x113004 x113005 x113006) else (if x112003 = x113006 then (cspmatch_Match.j3 k x8 true x112000 x112001 x112002 x112003 x113000 x113001 x113002 x113003 x113004 x113005 x113006) else (if x112003 = (-1) then ((cspmatch_own.f x113000 x113001 x113002 x113003 x113004 x113005 x113006).bind fun t121 => (if t121 = true then (cspmatch_Match.j3 k x8 true x112000 x112001 x112002 x112003 x113000 x113001 x113002 x113003 x113004 x113005 x113006) else (if x112003 = 80 then (if x113002.toList = ([104, 116, 116, 112, 115] : List UInt8) then (cspmatch_Match.j3 k x8 (x113006 == 443) x112000 x112001 x112002 x112003 x113000 x113001 x113002 x113003 x113004 x113005 x113006) else (cspmatch_Match.j3 k x8 false x112000 x112001 x112002 x112003 x113000 x113001 x113002 x113003 x113004 x113005 x113006)) else (cspmatch_Match.j3 k x8 false x112000 x112001 x112002 x112003 x113000 x113001 x113002 x113003 x113004 x113005 x113006)))) else (if x112003 = 80 then (if x113002.toList = ([104, 116, 116, 112, 115] : List UInt8) then (cspmatch_Match.j3 k x8 (x113006 == 443) x112000 x112001 x112002 x112003 x113000 x113001 x113002 x113003 x113004 x113005 x113006) else (cspmatch_Match.j3 k x8 false x112000 x112001 x112002 x112003 x113000 x113001 x113002 x113003 x113004 x113005 x113006)) else (cspmatch_Match.j3 k x8 false x112000 x112001 x112002 x112003 x113000 x113001 x113002 x113003 x113004 x113005 x113006))))
def cspmatch_Match.j3 : Nat → Bool → Bool → Int → ByteArray → ByteArray → Int → Bool → Int → ByteArray → ByteArray → Bool → Int → Int → Option (Bool)
  | 0, _, _, _, _, _, _, _, _, _, _, _, _, _ => none
  | k + 1, x8, x9, x112000, x112001, x112002, x112003, x113000, x113001, x113002, x113003, x113004, x113005, x113006 => if x8 = true then (if x9 = true then ((cspmatch_named.f x112002 x113000 x113001 x113002 x113003 x113004 x113005 x113006).bind fun t122 => (some t122)) else (some false)) else (some false)
end
def cspmatch_Match.f (k : Nat) (a0_0 : Int) (a0_1 : ByteArray) (a0_2 : ByteArray) (a0_3 : Int) (a1_0 : Bool) (a1_1 : Int) (a1_2 : ByteArray) (a1_3 : ByteArray) (a1_4 : Bool) (a1_5 : Int) (a1_6 : Int) (a2_0 : Bool) (a2_1 : Int) (a2_2 : ByteArray) (a2_3 : ByteArray) (a2_4 : Bool) (a2_5 : Int) (a2_6 : Int) : Option (Bool) := if a1_0 = true then (some false) else (if a0_0 = 2 then (some true) else (if a0_0 = 3 then ((cspmatch_together.f a0_1 a1_2).bind fun t114 => (some t114)) else (if a0_0 = 1 then (if a1_6 = a2_6 then (cspmatch_Match.j0 k true a1_0 a1_1 a1_2 a1_3 a1_4 a1_5 a1_6 a2_0 a2_1 a2_2 a2_3 a2_4 a2_5 a2_6) else ((cspmatch_own.f a1_0 a1_1 a1_2 a1_3 a1_4 a1_5 a1_6).bind fun t115 => (if t115 = true then ((cspmatch_own.f a2_0 a2_1 a2_2 a2_3 a2_4 a2_5 a2_6).bind fun t116 => (cspmatch_Match.j0 k t116 a1_0 a1_1 a1_2 a1_3 a1_4 a1_5 a1_6 a2_0 a2_1 a2_2 a2_3 a2_4 a2_5 a2_6)) else (cspmatch_Match.j0 k false a1_0 a1_1 a1_2 a1_3 a1_4 a1_5 a1_6 a2_0 a2_1 a2_2 a2_3 a2_4 a2_5 a2_6)))) else (if a0_0 = 4 then (if a1_2.toList = ([104, 116, 116, 112] : List UInt8) then (cspmatch_Match.j1 k true a0_0 a0_1 a0_2 a0_3 a1_0 a1_1 a1_2 a1_3 a1_4 a1_5 a1_6 a2_0 a2_1 a2_2 a2_3 a2_4 a2_5 a2_6) else (cspmatch_Match.j1 k (a1_2.toList == ([104, 116, 116, 112, 115] : List UInt8)) a0_0 a0_1 a0_2 a0_3 a1_0 a1_1 a1_2 a1_3 a1_4 a1_5 a1_6 a2_0 a2_1 a2_2 a2_3 a2_4 a2_5 a2_6)) else (some false)))))
set_option maxHeartbeats 8000000 in
set_option maxRecDepth 100000 in
theorem cspmatch_Match.calls (k : Nat) (a0_0 : Int) (a0_1 : ByteArray) (a0_2 : ByteArray) (a0_3 : Int) (a1_0 : Bool) (a1_1 : Int) (a1_2 : ByteArray) (a1_3 : ByteArray) (a1_4 : Bool) (a1_5 : Int) (a1_6 : Int) (a2_0 : Bool) (a2_1 : Int) (a2_2 : ByteArray) (a2_3 : ByteArray) (a2_4 : Bool) (a2_5 : Int) (a2_6 : Int) (r : Bool) (w : World) (hG : Gw w) (h : cspmatch_Match.f k a0_0 a0_1 a0_2 a0_3 a1_0 a1_1 a1_2 a1_3 a1_4 a1_5 a1_6 a2_0 a2_1 a2_2 a2_3 a2_4 a2_5 a2_6 = some r) :
    Calls Tryz.prog 66 #[.agg #[.int .i64 a0_0, .string a0_1, .string a0_2, .int .i64 a0_3], .agg #[.bool a1_0, .int .i64 a1_1, .string a1_2, .string a1_3, .bool a1_4, .int .u32 a1_5, .int .i64 a1_6], .agg #[.bool a2_0, .int .i64 a2_1, .string a2_2, .string a2_3, .bool a2_4, .int .u32 a2_5, .int .i64 a2_6]] w fun e w' => e = .returned (.bool r) ∧ Below w.heap.size w w' := by
  have HG_ := Aside0.mk hG
  clear hG
  have hu99 := Tryz.underlying99
  have hu31 := Tryz.underlying31
  have hu29 := Tryz.underlying29
  have HB := Aside0.mk (Below.refl w.heap.size w)
  have H : (if a1_0 = true then (some false) else (if a0_0 = 2 then (some true) else (if a0_0 = 3 then ((cspmatch_together.f a0_1 a1_2).bind fun t114 => (some t114)) else (if a0_0 = 1 then (if a1_6 = a2_6 then (cspmatch_Match.j0 k true a1_0 a1_1 a1_2 a1_3 a1_4 a1_5 a1_6 a2_0 a2_1 a2_2 a2_3 a2_4 a2_5 a2_6) else ((cspmatch_own.f a1_0 a1_1 a1_2 a1_3 a1_4 a1_5 a1_6).bind fun t115 => (if t115 = true then ((cspmatch_own.f a2_0 a2_1 a2_2 a2_3 a2_4 a2_5 a2_6).bind fun t116 => (cspmatch_Match.j0 k t116 a1_0 a1_1 a1_2 a1_3 a1_4 a1_5 a1_6 a2_0 a2_1 a2_2 a2_3 a2_4 a2_5 a2_6)) else (cspmatch_Match.j0 k false a1_0 a1_1 a1_2 a1_3 a1_4 a1_5 a1_6 a2_0 a2_1 a2_2 a2_3 a2_4 a2_5 a2_6)))) else (if a0_0 = 4 then (if a1_2.toList = ([104, 116, 116, 112] : List UInt8) then (cspmatch_Match.j1 k true a0_0 a0_1 a0_2 a0_3 a1_0 a1_1 a1_2 a1_3 a1_4 a1_5 a1_6 a2_0 a2_1 a2_2 a2_3 a2_4 a2_5 a2_6) else (cspmatch_Match.j1 k (a1_2.toList == ([104, 116, 116, 112, 115] : List UInt8)) a0_0 a0_1 a0_2 a0_3 a1_0 a1_1 a1_2 a1_3 a1_4 a1_5 a1_6 a2_0 a2_1 a2_2 a2_3 a2_4 a2_5 a2_6)) else (some false)))))) = some r := h
  clear h
  by_cases c4 : a1_0 = true
  · subst c4
    have H1 : (some false) = some r := by rw [if_pos rfl] at H; exact H
    clear H
    have H := H1
    clear H1
    obtain rfl := Option.some.inj H
    go_enter Tryz.func66, Tryz.ntmps66
    go_wp2_with (first | ((with_reducible refine gate_dst (N := 3) rfl ?_); refine box_event ?hg (N := 3) ?hd (cs := #[.int .i64 a0_0, .string a0_1, .string a0_2, .int .i64 a0_3]) (t := 99) ?hr ?_; (case hd => rfl); (case hg => rfl); (case hr => first | (go_simp; done) | (go_simp; rfl)); intro gb111 hg w5 hbox hb; have n0_ := Aside0.mk (below_step (by repeat (first | (with_reducible first | exact HB.out | apply below_alloc | apply pw_below_drewN | apply below_drew1) | exact HB.out)) hb); have n1_ := Aside0.mk (hbox); have n2_ := Aside0.mk ((by rw [hg]; exact (below_size (by repeat (first | (with_reducible first | exact HB.out | apply below_alloc | apply pw_below_drewN | apply below_drew1) | exact HB.out))) : w.heap.size ≤ gb111)); have n3_ := Aside0.mk ((by rw [hg]; exact (below_size (by repeat (first | (with_reducible first | exact HB.out | apply below_alloc | apply pw_below_drewN | apply below_drew1) | exact HB.out))) : w.heap.size ≤ gb111)); clear HB; have HB := n0_; have BK111 := n1_; have GW111 := n2_; have GE111 := n3_; clear n0_ n1_ n2_ n3_; clear hb hbox hg) | ((with_reducible refine gate_dst (N := 4) rfl ?_); refine box_event ?hg (N := 4) ?hd (cs := #[.bool true, .int .i64 a1_1, .string a1_2, .string a1_3, .bool a1_4, .int .u32 a1_5, .int .i64 a1_6]) (t := 31) ?hr ?_; (case hd => rfl); (case hg => rfl); (case hr => first | (go_simp; done) | (go_simp; rfl)); intro gb112 hg w6 hbox hb; have n0_ := Aside0.mk (blk_below (g := gb111) (o := .cells #[.int .i64 a0_0, .string a0_1, .string a0_2, .int .i64 a0_3] 99 (0, 0)) (by (with_reducible repeat (first | refine blk_drewN ?_ _ | refine blk_drew ?_ | refine blk_alloc ?_ _)); exact BK111.out) hb); have n1_ := Aside0.mk (below_step (by repeat (first | (with_reducible first | exact HB.out | apply below_alloc | apply pw_below_drewN | apply below_drew1 | refine below_set ?_ GE111.out) | exact HB.out)) hb); have n2_ := Aside0.mk (hbox); have n3_ := Aside0.mk ((by rw [hg]; exact (below_size (by repeat (first | (with_reducible first | exact HB.out | apply below_alloc | apply pw_below_drewN | apply below_drew1 | refine below_set ?_ GE111.out) | exact HB.out))) : w.heap.size ≤ gb112)); have n4_ := Aside0.mk ((by rw [hg]; exact (below_size (by repeat (first | (with_reducible first | exact HB.out | apply below_alloc | apply pw_below_drewN | apply below_drew1 | refine below_set ?_ GE111.out) | exact HB.out))) : w.heap.size ≤ gb112)); have n5_ := Aside0.mk ((by rw [hg]; exact Nat.ne_of_lt (blk_lt (g := gb111) (o := .cells #[.int .i64 a0_0, .string a0_1, .string a0_2, .int .i64 a0_3] 99 (0, 0)) (by (with_reducible repeat (first | refine blk_drewN ?_ _ | refine blk_drew ?_ | refine blk_alloc ?_ _)); exact BK111.out)) : gb111 ≠ gb112)); have n6_ := Aside0.mk ((by rw [hg]; exact Nat.ne_of_gt (blk_lt (g := gb111) (o := .cells #[.int .i64 a0_0, .string a0_1, .string a0_2, .int .i64 a0_3] 99 (0, 0)) (by (with_reducible repeat (first | refine blk_drewN ?_ _ | refine blk_drew ?_ | refine blk_alloc ?_ _)); exact BK111.out)) : gb112 ≠ gb111)); clear BK111; clear HB; have BK111 := n0_; have HB := n1_; have BK112 := n2_; have GW112 := n3_; have GE112 := n4_; have NB111_112 := n5_; have NB112_111 := n6_; clear n0_ n1_ n2_ n3_ n4_ n5_ n6_; clear hb hbox hg) | ((with_reducible refine gate_dst (N := 5) rfl ?_); refine box_event ?hg (N := 5) ?hd (cs := #[.bool a2_0, .int .i64 a2_1, .string a2_2, .string a2_3, .bool a2_4, .int .u32 a2_5, .int .i64 a2_6]) (t := 31) ?hr ?_; (case hd => rfl); (case hg => rfl); (case hr => first | (go_simp; done) | (go_simp; rfl)); intro gb113 hg w7 hbox hb; have n0_ := Aside0.mk (blk_below (g := gb111) (o := .cells #[.int .i64 a0_0, .string a0_1, .string a0_2, .int .i64 a0_3] 99 (0, 0)) (by (with_reducible repeat (first | refine blk_drewN ?_ _ | refine blk_drew ?_ | refine blk_alloc ?_ _)); exact BK111.out) hb); have n1_ := Aside0.mk (blk_below (g := gb112) (o := .cells #[.bool true, .int .i64 a1_1, .string a1_2, .string a1_3, .bool a1_4, .int .u32 a1_5, .int .i64 a1_6] 31 (0, 0)) (by (with_reducible repeat (first | refine blk_drewN ?_ _ | refine blk_drew ?_ | refine blk_alloc ?_ _)); exact BK112.out) hb); have n2_ := Aside0.mk (below_step (by repeat (first | (with_reducible first | exact HB.out | apply below_alloc | apply pw_below_drewN | apply below_drew1 | refine below_set ?_ GE111.out | refine below_set ?_ GE112.out) | exact HB.out)) hb); have n3_ := Aside0.mk (hbox); have n4_ := Aside0.mk ((by rw [hg]; exact (below_size (by repeat (first | (with_reducible first | exact HB.out | apply below_alloc | apply pw_below_drewN | apply below_drew1 | refine below_set ?_ GE111.out | refine below_set ?_ GE112.out) | exact HB.out))) : w.heap.size ≤ gb113)); have n5_ := Aside0.mk ((by rw [hg]; exact (below_size (by repeat (first | (with_reducible first | exact HB.out | apply below_alloc | apply pw_below_drewN | apply below_drew1 | refine below_set ?_ GE111.out | refine below_set ?_ GE112.out) | exact HB.out))) : w.heap.size ≤ gb113)); have n6_ := Aside0.mk ((by rw [hg]; exact Nat.ne_of_lt (blk_lt (g := gb111) (o := .cells #[.int .i64 a0_0, .string a0_1, .string a0_2, .int .i64 a0_3] 99 (0, 0)) (by (with_reducible repeat (first | refine blk_drewN ?_ _ | refine blk_drew ?_ | refine blk_alloc ?_ _)); exact BK111.out)) : gb111 ≠ gb113)); have n7_ := Aside0.mk ((by rw [hg]; exact Nat.ne_of_gt (blk_lt (g := gb111) (o := .cells #[.int .i64 a0_0, .string a0_1, .string a0_2, .int .i64 a0_3] 99 (0, 0)) (by (with_reducible repeat (first | refine blk_drewN ?_ _ | refine blk_drew ?_ | refine blk_alloc ?_ _)); exact BK111.out)) : gb113 ≠ gb111)); have n8_ := Aside0.mk ((by rw [hg]; exact Nat.ne_of_lt (blk_lt (g := gb112) (o := .cells #[.bool true, .int .i64 a1_1, .string a1_2, .string a1_3, .bool a1_4, .int .u32 a1_5, .int .i64 a1_6] 31 (0, 0)) (by (with_reducible repeat (first | refine blk_drewN ?_ _ | refine blk_drew ?_ | refine blk_alloc ?_ _)); exact BK112.out)) : gb112 ≠ gb113)); have n9_ := Aside0.mk ((by rw [hg]; exact Nat.ne_of_gt (blk_lt (g := gb112) (o := .cells #[.bool true, .int .i64 a1_1, .string a1_2, .string a1_3, .bool a1_4, .int .u32 a1_5, .int .i64 a1_6] 31 (0, 0)) (by (with_reducible repeat (first | refine blk_drewN ?_ _ | refine blk_drew ?_ | refine blk_alloc ?_ _)); exact BK112.out)) : gb113 ≠ gb112)); clear BK111; clear BK112; clear HB; have BK111 := n0_; have BK112 := n1_; have HB := n2_; have BK113 := n3_; have GW113 := n4_; have GE113 := n5_; have NB111_113 := n6_; have NB113_111 := n7_; have NB112_113 := n8_; have NB113_112 := n9_; clear n0_ n1_ n2_ n3_ n4_ n5_ n6_ n7_ n8_ n9_; clear hb hbox hg; have hnb8 := NB112_111.out; have hnc8 := NB111_112.out; have hnb9 := NB112_113.out; have hnc9 := NB113_112.out; have hcz10_0 : w7.cell? ⟨gb112, 0, none⟩ = some (.bool true) := (blk_cell BK112.out 0).trans rfl; have hcz10_1 : w7.cell? ⟨gb112, 1, none⟩ = some (.int .i64 a1_1) := (blk_cell BK112.out 1).trans rfl; have hcz10_2 : w7.cell? ⟨gb112, 2, none⟩ = some (.string a1_2) := (blk_cell BK112.out 2).trans rfl; have hcz10_3 : w7.cell? ⟨gb112, 3, none⟩ = some (.string a1_3) := (blk_cell BK112.out 3).trans rfl; have hcz10_4 : w7.cell? ⟨gb112, 4, none⟩ = some (.bool a1_4) := (blk_cell BK112.out 4).trans rfl; have hcz10_5 : w7.cell? ⟨gb112, 5, none⟩ = some (.int .u32 a1_5) := (blk_cell BK112.out 5).trans rfl; have hcz10_6 : w7.cell? ⟨gb112, 6, none⟩ = some (.int .i64 a1_6) := (blk_cell BK112.out 6).trans rfl; have hfz10_0 := blk_frozen BK112.out 0; have hfz10_1 := blk_frozen BK112.out 1; have hfz10_2 := blk_frozen BK112.out 2; have hfz10_3 := blk_frozen BK112.out 3; have hfz10_4 := blk_frozen BK112.out 4; have hfz10_5 := blk_frozen BK112.out 5; have hfz10_6 := blk_frozen BK112.out 6))
    go_ret
    exact ⟨by first | rfl | (simp [errW_none, errW_some] <;> rfl) | (simp [*, errW_none, errW_some] <;> rfl), by repeat (first | (with_reducible first | exact HB.out | apply below_alloc | apply pw_below_drewN | apply below_drew1 | refine below_set ?_ GE111.out | refine below_set ?_ GE112.out | refine below_set ?_ GE113.out) | exact HB.out)⟩
  · replace c4 := Bool.eq_false_iff.mpr c4
    subst c4
    have H1 : (if a0_0 = 2 then (some true) else (if a0_0 = 3 then ((cspmatch_together.f a0_1 a1_2).bind fun t114 => (some t114)) else (if a0_0 = 1 then (if a1_6 = a2_6 then (cspmatch_Match.j0 k true false a1_1 a1_2 a1_3 a1_4 a1_5 a1_6 a2_0 a2_1 a2_2 a2_3 a2_4 a2_5 a2_6) else ((cspmatch_own.f false a1_1 a1_2 a1_3 a1_4 a1_5 a1_6).bind fun t115 => (if t115 = true then ((cspmatch_own.f a2_0 a2_1 a2_2 a2_3 a2_4 a2_5 a2_6).bind fun t116 => (cspmatch_Match.j0 k t116 false a1_1 a1_2 a1_3 a1_4 a1_5 a1_6 a2_0 a2_1 a2_2 a2_3 a2_4 a2_5 a2_6)) else (cspmatch_Match.j0 k false false a1_1 a1_2 a1_3 a1_4 a1_5 a1_6 a2_0 a2_1 a2_2 a2_3 a2_4 a2_5 a2_6)))) else (if a0_0 = 4 then (if a1_2.toList = ([104, 116, 116, 112] : List UInt8) then (cspmatch_Match.j1 k true a0_0 a0_1 a0_2 a0_3 false a1_1 a1_2 a1_3 a1_4 a1_5 a1_6 a2_0 a2_1 a2_2 a2_3 a2_4 a2_5 a2_6) else (cspmatch_Match.j1 k (a1_2.toList == ([104, 116, 116, 112, 115] : List UInt8)) a0_0 a0_1 a0_2 a0_3 false a1_1 a1_2 a1_3 a1_4 a1_5 a1_6 a2_0 a2_1 a2_2 a2_3 a2_4 a2_5 a2_6)) else (some false))))) = some r := by rw [if_neg (show ¬ (false = true) by decide)] at H; exact H
    clear H
    have H := H1
    clear H1
    by_cases c11 : a0_0 = 2
    · rw [if_pos c11] at H
      have c11b0 : (a0_0 == 2) = true := beq_iff_eq.mpr c11
      have c11b1 : (a0_0 != 2) = false := bne_eq_false_iff_eq.mpr c11
      clear c11
      obtain rfl := Option.some.inj H
      go_enter Tryz.func66, Tryz.ntmps66
      go_wp2_with (first | ((with_reducible refine gate_dst (N := 3) rfl ?_); refine box_event ?hg (N := 3) ?hd (cs := #[.int .i64 a0_0, .string a0_1, .string a0_2, .int .i64 a0_3]) (t := 99) ?hr ?_; (case hd => rfl); (case hg => rfl); (case hr => first | (go_simp; done) | (go_simp; rfl)); intro gb111 hg w12 hbox hb; have n0_ := Aside0.mk (below_step (by repeat (first | (with_reducible first | exact HB.out | apply below_alloc | apply pw_below_drewN | apply below_drew1) | exact HB.out)) hb); have n1_ := Aside0.mk (hbox); have n2_ := Aside0.mk ((by rw [hg]; exact (below_size (by repeat (first | (with_reducible first | exact HB.out | apply below_alloc | apply pw_below_drewN | apply below_drew1) | exact HB.out))) : w.heap.size ≤ gb111)); have n3_ := Aside0.mk ((by rw [hg]; exact (below_size (by repeat (first | (with_reducible first | exact HB.out | apply below_alloc | apply pw_below_drewN | apply below_drew1) | exact HB.out))) : w.heap.size ≤ gb111)); clear HB; have HB := n0_; have BK111 := n1_; have GW111 := n2_; have GE111 := n3_; clear n0_ n1_ n2_ n3_; clear hb hbox hg) | ((with_reducible refine gate_dst (N := 4) rfl ?_); refine box_event ?hg (N := 4) ?hd (cs := #[.bool false, .int .i64 a1_1, .string a1_2, .string a1_3, .bool a1_4, .int .u32 a1_5, .int .i64 a1_6]) (t := 31) ?hr ?_; (case hd => rfl); (case hg => rfl); (case hr => first | (go_simp; done) | (go_simp; rfl)); intro gb112 hg w13 hbox hb; have n0_ := Aside0.mk (blk_below (g := gb111) (o := .cells #[.int .i64 a0_0, .string a0_1, .string a0_2, .int .i64 a0_3] 99 (0, 0)) (by (with_reducible repeat (first | refine blk_drewN ?_ _ | refine blk_drew ?_ | refine blk_alloc ?_ _)); exact BK111.out) hb); have n1_ := Aside0.mk (below_step (by repeat (first | (with_reducible first | exact HB.out | apply below_alloc | apply pw_below_drewN | apply below_drew1 | refine below_set ?_ GE111.out) | exact HB.out)) hb); have n2_ := Aside0.mk (hbox); have n3_ := Aside0.mk ((by rw [hg]; exact (below_size (by repeat (first | (with_reducible first | exact HB.out | apply below_alloc | apply pw_below_drewN | apply below_drew1 | refine below_set ?_ GE111.out) | exact HB.out))) : w.heap.size ≤ gb112)); have n4_ := Aside0.mk ((by rw [hg]; exact (below_size (by repeat (first | (with_reducible first | exact HB.out | apply below_alloc | apply pw_below_drewN | apply below_drew1 | refine below_set ?_ GE111.out) | exact HB.out))) : w.heap.size ≤ gb112)); have n5_ := Aside0.mk ((by rw [hg]; exact Nat.ne_of_lt (blk_lt (g := gb111) (o := .cells #[.int .i64 a0_0, .string a0_1, .string a0_2, .int .i64 a0_3] 99 (0, 0)) (by (with_reducible repeat (first | refine blk_drewN ?_ _ | refine blk_drew ?_ | refine blk_alloc ?_ _)); exact BK111.out)) : gb111 ≠ gb112)); have n6_ := Aside0.mk ((by rw [hg]; exact Nat.ne_of_gt (blk_lt (g := gb111) (o := .cells #[.int .i64 a0_0, .string a0_1, .string a0_2, .int .i64 a0_3] 99 (0, 0)) (by (with_reducible repeat (first | refine blk_drewN ?_ _ | refine blk_drew ?_ | refine blk_alloc ?_ _)); exact BK111.out)) : gb112 ≠ gb111)); clear BK111; clear HB; have BK111 := n0_; have HB := n1_; have BK112 := n2_; have GW112 := n3_; have GE112 := n4_; have NB111_112 := n5_; have NB112_111 := n6_; clear n0_ n1_ n2_ n3_ n4_ n5_ n6_; clear hb hbox hg) | ((with_reducible refine gate_dst (N := 5) rfl ?_); refine box_event ?hg (N := 5) ?hd (cs := #[.bool a2_0, .int .i64 a2_1, .string a2_2, .string a2_3, .bool a2_4, .int .u32 a2_5, .int .i64 a2_6]) (t := 31) ?hr ?_; (case hd => rfl); (case hg => rfl); (case hr => first | (go_simp; done) | (go_simp; rfl)); intro gb113 hg w14 hbox hb; have n0_ := Aside0.mk (blk_below (g := gb111) (o := .cells #[.int .i64 a0_0, .string a0_1, .string a0_2, .int .i64 a0_3] 99 (0, 0)) (by (with_reducible repeat (first | refine blk_drewN ?_ _ | refine blk_drew ?_ | refine blk_alloc ?_ _)); exact BK111.out) hb); have n1_ := Aside0.mk (blk_below (g := gb112) (o := .cells #[.bool false, .int .i64 a1_1, .string a1_2, .string a1_3, .bool a1_4, .int .u32 a1_5, .int .i64 a1_6] 31 (0, 0)) (by (with_reducible repeat (first | refine blk_drewN ?_ _ | refine blk_drew ?_ | refine blk_alloc ?_ _)); exact BK112.out) hb); have n2_ := Aside0.mk (below_step (by repeat (first | (with_reducible first | exact HB.out | apply below_alloc | apply pw_below_drewN | apply below_drew1 | refine below_set ?_ GE111.out | refine below_set ?_ GE112.out) | exact HB.out)) hb); have n3_ := Aside0.mk (hbox); have n4_ := Aside0.mk ((by rw [hg]; exact (below_size (by repeat (first | (with_reducible first | exact HB.out | apply below_alloc | apply pw_below_drewN | apply below_drew1 | refine below_set ?_ GE111.out | refine below_set ?_ GE112.out) | exact HB.out))) : w.heap.size ≤ gb113)); have n5_ := Aside0.mk ((by rw [hg]; exact (below_size (by repeat (first | (with_reducible first | exact HB.out | apply below_alloc | apply pw_below_drewN | apply below_drew1 | refine below_set ?_ GE111.out | refine below_set ?_ GE112.out) | exact HB.out))) : w.heap.size ≤ gb113)); have n6_ := Aside0.mk ((by rw [hg]; exact Nat.ne_of_lt (blk_lt (g := gb111) (o := .cells #[.int .i64 a0_0, .string a0_1, .string a0_2, .int .i64 a0_3] 99 (0, 0)) (by (with_reducible repeat (first | refine blk_drewN ?_ _ | refine blk_drew ?_ | refine blk_alloc ?_ _)); exact BK111.out)) : gb111 ≠ gb113)); have n7_ := Aside0.mk ((by rw [hg]; exact Nat.ne_of_gt (blk_lt (g := gb111) (o := .cells #[.int .i64 a0_0, .string a0_1, .string a0_2, .int .i64 a0_3] 99 (0, 0)) (by (with_reducible repeat (first | refine blk_drewN ?_ _ | refine blk_drew ?_ | refine blk_alloc ?_ _)); exact BK111.out)) : gb113 ≠ gb111)); have n8_ := Aside0.mk ((by rw [hg]; exact Nat.ne_of_lt (blk_lt (g := gb112) (o := .cells #[.bool false, .int .i64 a1_1, .string a1_2, .string a1_3, .bool a1_4, .int .u32 a1_5, .int .i64 a1_6] 31 (0, 0)) (by (with_reducible repeat (first | refine blk_drewN ?_ _ | refine blk_drew ?_ | refine blk_alloc ?_ _)); exact BK112.out)) : gb112 ≠ gb113)); have n9_ := Aside0.mk ((by rw [hg]; exact Nat.ne_of_gt (blk_lt (g := gb112) (o := .cells #[.bool false, .int .i64 a1_1, .string a1_2, .string a1_3, .bool a1_4, .int .u32 a1_5, .int .i64 a1_6] 31 (0, 0)) (by (with_reducible repeat (first | refine blk_drewN ?_ _ | refine blk_drew ?_ | refine blk_alloc ?_ _)); exact BK112.out)) : gb113 ≠ gb112)); clear BK111; clear BK112; clear HB; have BK111 := n0_; have BK112 := n1_; have HB := n2_; have BK113 := n3_; have GW113 := n4_; have GE113 := n5_; have NB111_113 := n6_; have NB113_111 := n7_; have NB112_113 := n8_; have NB113_112 := n9_; clear n0_ n1_ n2_ n3_ n4_ n5_ n6_ n7_ n8_ n9_; clear hb hbox hg; have hnb15 := NB112_111.out; have hnc15 := NB111_112.out; have hnb16 := NB112_113.out; have hnc16 := NB113_112.out; have hcz17_0 : w14.cell? ⟨gb112, 0, none⟩ = some (.bool false) := (blk_cell BK112.out 0).trans rfl; have hcz17_1 : w14.cell? ⟨gb112, 1, none⟩ = some (.int .i64 a1_1) := (blk_cell BK112.out 1).trans rfl; have hcz17_2 : w14.cell? ⟨gb112, 2, none⟩ = some (.string a1_2) := (blk_cell BK112.out 2).trans rfl; have hcz17_3 : w14.cell? ⟨gb112, 3, none⟩ = some (.string a1_3) := (blk_cell BK112.out 3).trans rfl; have hcz17_4 : w14.cell? ⟨gb112, 4, none⟩ = some (.bool a1_4) := (blk_cell BK112.out 4).trans rfl; have hcz17_5 : w14.cell? ⟨gb112, 5, none⟩ = some (.int .u32 a1_5) := (blk_cell BK112.out 5).trans rfl; have hcz17_6 : w14.cell? ⟨gb112, 6, none⟩ = some (.int .i64 a1_6) := (blk_cell BK112.out 6).trans rfl; have hfz17_0 := blk_frozen BK112.out 0; have hfz17_1 := blk_frozen BK112.out 1; have hfz17_2 := blk_frozen BK112.out 2; have hfz17_3 := blk_frozen BK112.out 3; have hfz17_4 := blk_frozen BK112.out 4; have hfz17_5 := blk_frozen BK112.out 5; have hfz17_6 := blk_frozen BK112.out 6; have hnb18 := NB111_113.out; have hnc18 := NB113_111.out; have hcz19_0 : w14.cell? ⟨gb111, 0, none⟩ = some (.int .i64 a0_0) := (blk_cell BK111.out 0).trans rfl; have hcz19_1 : w14.cell? ⟨gb111, 1, none⟩ = some (.string a0_1) := (blk_cell BK111.out 1).trans rfl; have hcz19_2 : w14.cell? ⟨gb111, 2, none⟩ = some (.string a0_2) := (blk_cell BK111.out 2).trans rfl; have hcz19_3 : w14.cell? ⟨gb111, 3, none⟩ = some (.int .i64 a0_3) := (blk_cell BK111.out 3).trans rfl; have hfz19_0 := blk_frozen BK111.out 0; have hfz19_1 := blk_frozen BK111.out 1; have hfz19_2 := blk_frozen BK111.out 2; have hfz19_3 := blk_frozen BK111.out 3))
      go_ret
      exact ⟨by first | rfl | (simp [errW_none, errW_some] <;> rfl) | (simp [*, errW_none, errW_some] <;> rfl), by repeat (first | (with_reducible first | exact HB.out | apply below_alloc | apply pw_below_drewN | apply below_drew1 | refine below_set ?_ GE111.out | refine below_set ?_ GE112.out | refine below_set ?_ GE113.out) | exact HB.out)⟩
    · rw [if_neg c11] at H
      have c11b0 : (a0_0 == 2) = false := beq_eq_false_iff_ne.mpr c11
      have c11b1 : (a0_0 != 2) = true := bne_iff_ne.mpr c11
      by_cases c20 : a0_0 = 3
      · rw [if_pos c20] at H
        have c20b0 : (a0_0 == 3) = true := beq_iff_eq.mpr c20
        have c20b1 : (a0_0 != 3) = false := bne_eq_false_iff_eq.mpr c20
        clear c20
        replace H := Option.bind_eq_some_iff.mp H
        obtain ⟨t114, A210, H⟩ := H
        replace H : (some t114) = some r := H
        have A21 := Aside0.mk A210
        clear A210
        obtain rfl := Option.some.inj H
        go_enter Tryz.func66, Tryz.ntmps66
        go_wp2_with (first | ((with_reducible refine gate_dst (N := 3) rfl ?_); refine box_event ?hg (N := 3) ?hd (cs := #[.int .i64 a0_0, .string a0_1, .string a0_2, .int .i64 a0_3]) (t := 99) ?hr ?_; (case hd => rfl); (case hg => rfl); (case hr => first | (go_simp; done) | (go_simp; rfl)); intro gb111 hg w22 hbox hb; have n0_ := Aside0.mk (below_step (by repeat (first | (with_reducible first | exact HB.out | apply below_alloc | apply pw_below_drewN | apply below_drew1) | exact HB.out)) hb); have n1_ := Aside0.mk (hbox); have n2_ := Aside0.mk ((by rw [hg]; exact (below_size (by repeat (first | (with_reducible first | exact HB.out | apply below_alloc | apply pw_below_drewN | apply below_drew1) | exact HB.out))) : w.heap.size ≤ gb111)); have n3_ := Aside0.mk ((by rw [hg]; exact (below_size (by repeat (first | (with_reducible first | exact HB.out | apply below_alloc | apply pw_below_drewN | apply below_drew1) | exact HB.out))) : w.heap.size ≤ gb111)); clear HB; have HB := n0_; have BK111 := n1_; have GW111 := n2_; have GE111 := n3_; clear n0_ n1_ n2_ n3_; clear hb hbox hg) | ((with_reducible refine gate_dst (N := 4) rfl ?_); refine box_event ?hg (N := 4) ?hd (cs := #[.bool false, .int .i64 a1_1, .string a1_2, .string a1_3, .bool a1_4, .int .u32 a1_5, .int .i64 a1_6]) (t := 31) ?hr ?_; (case hd => rfl); (case hg => rfl); (case hr => first | (go_simp; done) | (go_simp; rfl)); intro gb112 hg w23 hbox hb; have n0_ := Aside0.mk (blk_below (g := gb111) (o := .cells #[.int .i64 a0_0, .string a0_1, .string a0_2, .int .i64 a0_3] 99 (0, 0)) (by (with_reducible repeat (first | refine blk_drewN ?_ _ | refine blk_drew ?_ | refine blk_alloc ?_ _)); exact BK111.out) hb); have n1_ := Aside0.mk (below_step (by repeat (first | (with_reducible first | exact HB.out | apply below_alloc | apply pw_below_drewN | apply below_drew1 | refine below_set ?_ GE111.out) | exact HB.out)) hb); have n2_ := Aside0.mk (hbox); have n3_ := Aside0.mk ((by rw [hg]; exact (below_size (by repeat (first | (with_reducible first | exact HB.out | apply below_alloc | apply pw_below_drewN | apply below_drew1 | refine below_set ?_ GE111.out) | exact HB.out))) : w.heap.size ≤ gb112)); have n4_ := Aside0.mk ((by rw [hg]; exact (below_size (by repeat (first | (with_reducible first | exact HB.out | apply below_alloc | apply pw_below_drewN | apply below_drew1 | refine below_set ?_ GE111.out) | exact HB.out))) : w.heap.size ≤ gb112)); have n5_ := Aside0.mk ((by rw [hg]; exact Nat.ne_of_lt (blk_lt (g := gb111) (o := .cells #[.int .i64 a0_0, .string a0_1, .string a0_2, .int .i64 a0_3] 99 (0, 0)) (by (with_reducible repeat (first | refine blk_drewN ?_ _ | refine blk_drew ?_ | refine blk_alloc ?_ _)); exact BK111.out)) : gb111 ≠ gb112)); have n6_ := Aside0.mk ((by rw [hg]; exact Nat.ne_of_gt (blk_lt (g := gb111) (o := .cells #[.int .i64 a0_0, .string a0_1, .string a0_2, .int .i64 a0_3] 99 (0, 0)) (by (with_reducible repeat (first | refine blk_drewN ?_ _ | refine blk_drew ?_ | refine blk_alloc ?_ _)); exact BK111.out)) : gb112 ≠ gb111)); clear BK111; clear HB; have BK111 := n0_; have HB := n1_; have BK112 := n2_; have GW112 := n3_; have GE112 := n4_; have NB111_112 := n5_; have NB112_111 := n6_; clear n0_ n1_ n2_ n3_ n4_ n5_ n6_; clear hb hbox hg) | ((with_reducible refine gate_dst (N := 5) rfl ?_); refine box_event ?hg (N := 5) ?hd (cs := #[.bool a2_0, .int .i64 a2_1, .string a2_2, .string a2_3, .bool a2_4, .int .u32 a2_5, .int .i64 a2_6]) (t := 31) ?hr ?_; (case hd => rfl); (case hg => rfl); (case hr => first | (go_simp; done) | (go_simp; rfl)); intro gb113 hg w24 hbox hb; have n0_ := Aside0.mk (blk_below (g := gb111) (o := .cells #[.int .i64 a0_0, .string a0_1, .string a0_2, .int .i64 a0_3] 99 (0, 0)) (by (with_reducible repeat (first | refine blk_drewN ?_ _ | refine blk_drew ?_ | refine blk_alloc ?_ _)); exact BK111.out) hb); have n1_ := Aside0.mk (blk_below (g := gb112) (o := .cells #[.bool false, .int .i64 a1_1, .string a1_2, .string a1_3, .bool a1_4, .int .u32 a1_5, .int .i64 a1_6] 31 (0, 0)) (by (with_reducible repeat (first | refine blk_drewN ?_ _ | refine blk_drew ?_ | refine blk_alloc ?_ _)); exact BK112.out) hb); have n2_ := Aside0.mk (below_step (by repeat (first | (with_reducible first | exact HB.out | apply below_alloc | apply pw_below_drewN | apply below_drew1 | refine below_set ?_ GE111.out | refine below_set ?_ GE112.out) | exact HB.out)) hb); have n3_ := Aside0.mk (hbox); have n4_ := Aside0.mk ((by rw [hg]; exact (below_size (by repeat (first | (with_reducible first | exact HB.out | apply below_alloc | apply pw_below_drewN | apply below_drew1 | refine below_set ?_ GE111.out | refine below_set ?_ GE112.out) | exact HB.out))) : w.heap.size ≤ gb113)); have n5_ := Aside0.mk ((by rw [hg]; exact (below_size (by repeat (first | (with_reducible first | exact HB.out | apply below_alloc | apply pw_below_drewN | apply below_drew1 | refine below_set ?_ GE111.out | refine below_set ?_ GE112.out) | exact HB.out))) : w.heap.size ≤ gb113)); have n6_ := Aside0.mk ((by rw [hg]; exact Nat.ne_of_lt (blk_lt (g := gb111) (o := .cells #[.int .i64 a0_0, .string a0_1, .string a0_2, .int .i64 a0_3] 99 (0, 0)) (by (with_reducible repeat (first | refine blk_drewN ?_ _ | refine blk_drew ?_ | refine blk_alloc ?_ _)); exact BK111.out)) : gb111 ≠ gb113)); have n7_ := Aside0.mk ((by rw [hg]; exact Nat.ne_of_gt (blk_lt (g := gb111) (o := .cells #[.int .i64 a0_0, .string a0_1, .string a0_2, .int .i64 a0_3] 99 (0, 0)) (by (with_reducible repeat (first | refine blk_drewN ?_ _ | refine blk_drew ?_ | refine blk_alloc ?_ _)); exact BK111.out)) : gb113 ≠ gb111)); have n8_ := Aside0.mk ((by rw [hg]; exact Nat.ne_of_lt (blk_lt (g := gb112) (o := .cells #[.bool false, .int .i64 a1_1, .string a1_2, .string a1_3, .bool a1_4, .int .u32 a1_5, .int .i64 a1_6] 31 (0, 0)) (by (with_reducible repeat (first | refine blk_drewN ?_ _ | refine blk_drew ?_ | refine blk_alloc ?_ _)); exact BK112.out)) : gb112 ≠ gb113)); have n9_ := Aside0.mk ((by rw [hg]; exact Nat.ne_of_gt (blk_lt (g := gb112) (o := .cells #[.bool false, .int .i64 a1_1, .string a1_2, .string a1_3, .bool a1_4, .int .u32 a1_5, .int .i64 a1_6] 31 (0, 0)) (by (with_reducible repeat (first | refine blk_drewN ?_ _ | refine blk_drew ?_ | refine blk_alloc ?_ _)); exact BK112.out)) : gb113 ≠ gb112)); clear BK111; clear BK112; clear HB; have BK111 := n0_; have BK112 := n1_; have HB := n2_; have BK113 := n3_; have GW113 := n4_; have GE113 := n5_; have NB111_113 := n6_; have NB113_111 := n7_; have NB112_113 := n8_; have NB113_112 := n9_; clear n0_ n1_ n2_ n3_ n4_ n5_ n6_ n7_ n8_ n9_; clear hb hbox hg; have hnb25 := NB112_111.out; have hnc25 := NB111_112.out; have hnb26 := NB112_113.out; have hnc26 := NB113_112.out; have hcz27_0 : w24.cell? ⟨gb112, 0, none⟩ = some (.bool false) := (blk_cell BK112.out 0).trans rfl; have hcz27_1 : w24.cell? ⟨gb112, 1, none⟩ = some (.int .i64 a1_1) := (blk_cell BK112.out 1).trans rfl; have hcz27_2 : w24.cell? ⟨gb112, 2, none⟩ = some (.string a1_2) := (blk_cell BK112.out 2).trans rfl; have hcz27_3 : w24.cell? ⟨gb112, 3, none⟩ = some (.string a1_3) := (blk_cell BK112.out 3).trans rfl; have hcz27_4 : w24.cell? ⟨gb112, 4, none⟩ = some (.bool a1_4) := (blk_cell BK112.out 4).trans rfl; have hcz27_5 : w24.cell? ⟨gb112, 5, none⟩ = some (.int .u32 a1_5) := (blk_cell BK112.out 5).trans rfl; have hcz27_6 : w24.cell? ⟨gb112, 6, none⟩ = some (.int .i64 a1_6) := (blk_cell BK112.out 6).trans rfl; have hfz27_0 := blk_frozen BK112.out 0; have hfz27_1 := blk_frozen BK112.out 1; have hfz27_2 := blk_frozen BK112.out 2; have hfz27_3 := blk_frozen BK112.out 3; have hfz27_4 := blk_frozen BK112.out 4; have hfz27_5 := blk_frozen BK112.out 5; have hfz27_6 := blk_frozen BK112.out 6; have hnb28 := NB111_113.out; have hnc28 := NB113_111.out; have hcz29_0 : w24.cell? ⟨gb111, 0, none⟩ = some (.int .i64 a0_0) := (blk_cell BK111.out 0).trans rfl; have hcz29_1 : w24.cell? ⟨gb111, 1, none⟩ = some (.string a0_1) := (blk_cell BK111.out 1).trans rfl; have hcz29_2 : w24.cell? ⟨gb111, 2, none⟩ = some (.string a0_2) := (blk_cell BK111.out 2).trans rfl; have hcz29_3 : w24.cell? ⟨gb111, 3, none⟩ = some (.int .i64 a0_3) := (blk_cell BK111.out 3).trans rfl; have hfz29_0 := blk_frozen BK111.out 0; have hfz29_1 := blk_frozen BK111.out 1; have hfz29_2 := blk_frozen BK111.out 2; have hfz29_3 := blk_frozen BK111.out 3) | ((with_reducible refine gate_callee (f := 83) rfl ?_); refine goesL_ (some 22) rfl rfl Tryz.func83 (by kernel_rfl) rfl #[.string a0_1, .string a1_2] rfl (by (try simp only [List.map_toArray, List.map_cons, List.map_nil]); first | done | rfl | (simp only [List.length_drop, List.length_take]; rfl)) ?_; (with_reducible refine (cspmatch_together.calls a0_1 a1_2 t114 _ A21.out).mono ?_); rintro e w' ⟨rfl, ⟨nd, rfl⟩⟩; refine ⟨_, rfl, ?_⟩))
        go_ret
        exact ⟨by first | rfl | (simp [errW_none, errW_some] <;> rfl) | (simp [*, errW_none, errW_some] <;> rfl), by repeat (first | (with_reducible first | exact HB.out | apply below_alloc | apply pw_below_drewN | apply below_drew1 | refine below_set ?_ GE111.out | refine below_set ?_ GE112.out | refine below_set ?_ GE113.out) | exact HB.out)⟩
      · rw [if_neg c20] at H
        have c20b0 : (a0_0 == 3) = false := beq_eq_false_iff_ne.mpr c20
        have c20b1 : (a0_0 != 3) = true := bne_iff_ne.mpr c20
        by_cases c30 : a0_0 = 1
        · rw [if_pos c30] at H
          have c30b0 : (a0_0 == 1) = true := beq_iff_eq.mpr c30
          have c30b1 : (a0_0 != 1) = false := bne_eq_false_iff_eq.mpr c30
          clear c30
          have HC31 := Aside0.mk H
          clear H
          go_enter Tryz.func66, Tryz.ntmps66
          go_upto_region 9 with (first | ((with_reducible refine gate_dst (N := 3) rfl ?_); refine box_event ?hg (N := 3) ?hd (cs := #[.int .i64 a0_0, .string a0_1, .string a0_2, .int .i64 a0_3]) (t := 99) ?hr ?_; (case hd => rfl); (case hg => rfl); (case hr => first | (go_simp; done) | (go_simp; rfl)); intro gb111 hg w32 hbox hb; have n0_ := Aside0.mk (below_step (by repeat (first | (with_reducible first | exact HB.out | apply below_alloc | apply pw_below_drewN | apply below_drew1) | exact HB.out)) hb); have n1_ := Aside0.mk (hbox); have n2_ := Aside0.mk ((by rw [hg]; exact (below_size (by repeat (first | (with_reducible first | exact HB.out | apply below_alloc | apply pw_below_drewN | apply below_drew1) | exact HB.out))) : w.heap.size ≤ gb111)); have n3_ := Aside0.mk ((by rw [hg]; exact (below_size (by repeat (first | (with_reducible first | exact HB.out | apply below_alloc | apply pw_below_drewN | apply below_drew1) | exact HB.out))) : w.heap.size ≤ gb111)); clear HB; have HB := n0_; have BK111 := n1_; have GW111 := n2_; have GE111 := n3_; clear n0_ n1_ n2_ n3_; clear hb hbox hg) | ((with_reducible refine gate_dst (N := 4) rfl ?_); refine box_event ?hg (N := 4) ?hd (cs := #[.bool false, .int .i64 a1_1, .string a1_2, .string a1_3, .bool a1_4, .int .u32 a1_5, .int .i64 a1_6]) (t := 31) ?hr ?_; (case hd => rfl); (case hg => rfl); (case hr => first | (go_simp; done) | (go_simp; rfl)); intro gb112 hg w33 hbox hb; have n0_ := Aside0.mk (blk_below (g := gb111) (o := .cells #[.int .i64 a0_0, .string a0_1, .string a0_2, .int .i64 a0_3] 99 (0, 0)) (by (with_reducible repeat (first | refine blk_drewN ?_ _ | refine blk_drew ?_ | refine blk_alloc ?_ _)); exact BK111.out) hb); have n1_ := Aside0.mk (below_step (by repeat (first | (with_reducible first | exact HB.out | apply below_alloc | apply pw_below_drewN | apply below_drew1 | refine below_set ?_ GE111.out) | exact HB.out)) hb); have n2_ := Aside0.mk (hbox); have n3_ := Aside0.mk ((by rw [hg]; exact (below_size (by repeat (first | (with_reducible first | exact HB.out | apply below_alloc | apply pw_below_drewN | apply below_drew1 | refine below_set ?_ GE111.out) | exact HB.out))) : w.heap.size ≤ gb112)); have n4_ := Aside0.mk ((by rw [hg]; exact (below_size (by repeat (first | (with_reducible first | exact HB.out | apply below_alloc | apply pw_below_drewN | apply below_drew1 | refine below_set ?_ GE111.out) | exact HB.out))) : w.heap.size ≤ gb112)); have n5_ := Aside0.mk ((by rw [hg]; exact Nat.ne_of_lt (blk_lt (g := gb111) (o := .cells #[.int .i64 a0_0, .string a0_1, .string a0_2, .int .i64 a0_3] 99 (0, 0)) (by (with_reducible repeat (first | refine blk_drewN ?_ _ | refine blk_drew ?_ | refine blk_alloc ?_ _)); exact BK111.out)) : gb111 ≠ gb112)); have n6_ := Aside0.mk ((by rw [hg]; exact Nat.ne_of_gt (blk_lt (g := gb111) (o := .cells #[.int .i64 a0_0, .string a0_1, .string a0_2, .int .i64 a0_3] 99 (0, 0)) (by (with_reducible repeat (first | refine blk_drewN ?_ _ | refine blk_drew ?_ | refine blk_alloc ?_ _)); exact BK111.out)) : gb112 ≠ gb111)); clear BK111; clear HB; have BK111 := n0_; have HB := n1_; have BK112 := n2_; have GW112 := n3_; have GE112 := n4_; have NB111_112 := n5_; have NB112_111 := n6_; clear n0_ n1_ n2_ n3_ n4_ n5_ n6_; clear hb hbox hg) | ((with_reducible refine gate_dst (N := 5) rfl ?_); refine box_event ?hg (N := 5) ?hd (cs := #[.bool a2_0, .int .i64 a2_1, .string a2_2, .string a2_3, .bool a2_4, .int .u32 a2_5, .int .i64 a2_6]) (t := 31) ?hr ?_; (case hd => rfl); (case hg => rfl); (case hr => first | (go_simp; done) | (go_simp; rfl)); intro gb113 hg w34 hbox hb; have n0_ := Aside0.mk (blk_below (g := gb111) (o := .cells #[.int .i64 a0_0, .string a0_1, .string a0_2, .int .i64 a0_3] 99 (0, 0)) (by (with_reducible repeat (first | refine blk_drewN ?_ _ | refine blk_drew ?_ | refine blk_alloc ?_ _)); exact BK111.out) hb); have n1_ := Aside0.mk (blk_below (g := gb112) (o := .cells #[.bool false, .int .i64 a1_1, .string a1_2, .string a1_3, .bool a1_4, .int .u32 a1_5, .int .i64 a1_6] 31 (0, 0)) (by (with_reducible repeat (first | refine blk_drewN ?_ _ | refine blk_drew ?_ | refine blk_alloc ?_ _)); exact BK112.out) hb); have n2_ := Aside0.mk (below_step (by repeat (first | (with_reducible first | exact HB.out | apply below_alloc | apply pw_below_drewN | apply below_drew1 | refine below_set ?_ GE111.out | refine below_set ?_ GE112.out) | exact HB.out)) hb); have n3_ := Aside0.mk (hbox); have n4_ := Aside0.mk ((by rw [hg]; exact (below_size (by repeat (first | (with_reducible first | exact HB.out | apply below_alloc | apply pw_below_drewN | apply below_drew1 | refine below_set ?_ GE111.out | refine below_set ?_ GE112.out) | exact HB.out))) : w.heap.size ≤ gb113)); have n5_ := Aside0.mk ((by rw [hg]; exact (below_size (by repeat (first | (with_reducible first | exact HB.out | apply below_alloc | apply pw_below_drewN | apply below_drew1 | refine below_set ?_ GE111.out | refine below_set ?_ GE112.out) | exact HB.out))) : w.heap.size ≤ gb113)); have n6_ := Aside0.mk ((by rw [hg]; exact Nat.ne_of_lt (blk_lt (g := gb111) (o := .cells #[.int .i64 a0_0, .string a0_1, .string a0_2, .int .i64 a0_3] 99 (0, 0)) (by (with_reducible repeat (first | refine blk_drewN ?_ _ | refine blk_drew ?_ | refine blk_alloc ?_ _)); exact BK111.out)) : gb111 ≠ gb113)); have n7_ := Aside0.mk ((by rw [hg]; exact Nat.ne_of_gt (blk_lt (g := gb111) (o := .cells #[.int .i64 a0_0, .string a0_1, .string a0_2, .int .i64 a0_3] 99 (0, 0)) (by (with_reducible repeat (first | refine blk_drewN ?_ _ | refine blk_drew ?_ | refine blk_alloc ?_ _)); exact BK111.out)) : gb113 ≠ gb111)); have n8_ := Aside0.mk ((by rw [hg]; exact Nat.ne_of_lt (blk_lt (g := gb112) (o := .cells #[.bool false, .int .i64 a1_1, .string a1_2, .string a1_3, .bool a1_4, .int .u32 a1_5, .int .i64 a1_6] 31 (0, 0)) (by (with_reducible repeat (first | refine blk_drewN ?_ _ | refine blk_drew ?_ | refine blk_alloc ?_ _)); exact BK112.out)) : gb112 ≠ gb113)); have n9_ := Aside0.mk ((by rw [hg]; exact Nat.ne_of_gt (blk_lt (g := gb112) (o := .cells #[.bool false, .int .i64 a1_1, .string a1_2, .string a1_3, .bool a1_4, .int .u32 a1_5, .int .i64 a1_6] 31 (0, 0)) (by (with_reducible repeat (first | refine blk_drewN ?_ _ | refine blk_drew ?_ | refine blk_alloc ?_ _)); exact BK112.out)) : gb113 ≠ gb112)); clear BK111; clear BK112; clear HB; have BK111 := n0_; have BK112 := n1_; have HB := n2_; have BK113 := n3_; have GW113 := n4_; have GE113 := n5_; have NB111_113 := n6_; have NB113_111 := n7_; have NB112_113 := n8_; have NB113_112 := n9_; clear n0_ n1_ n2_ n3_ n4_ n5_ n6_ n7_ n8_ n9_; clear hb hbox hg; have hnb35 := NB112_111.out; have hnc35 := NB111_112.out; have hnb36 := NB112_113.out; have hnc36 := NB113_112.out; have hcz37_0 : w34.cell? ⟨gb112, 0, none⟩ = some (.bool false) := (blk_cell BK112.out 0).trans rfl; have hcz37_1 : w34.cell? ⟨gb112, 1, none⟩ = some (.int .i64 a1_1) := (blk_cell BK112.out 1).trans rfl; have hcz37_2 : w34.cell? ⟨gb112, 2, none⟩ = some (.string a1_2) := (blk_cell BK112.out 2).trans rfl; have hcz37_3 : w34.cell? ⟨gb112, 3, none⟩ = some (.string a1_3) := (blk_cell BK112.out 3).trans rfl; have hcz37_4 : w34.cell? ⟨gb112, 4, none⟩ = some (.bool a1_4) := (blk_cell BK112.out 4).trans rfl; have hcz37_5 : w34.cell? ⟨gb112, 5, none⟩ = some (.int .u32 a1_5) := (blk_cell BK112.out 5).trans rfl; have hcz37_6 : w34.cell? ⟨gb112, 6, none⟩ = some (.int .i64 a1_6) := (blk_cell BK112.out 6).trans rfl; have hfz37_0 := blk_frozen BK112.out 0; have hfz37_1 := blk_frozen BK112.out 1; have hfz37_2 := blk_frozen BK112.out 2; have hfz37_3 := blk_frozen BK112.out 3; have hfz37_4 := blk_frozen BK112.out 4; have hfz37_5 := blk_frozen BK112.out 5; have hfz37_6 := blk_frozen BK112.out 6; have hnb38 := NB111_113.out; have hnc38 := NB113_111.out; have hcz39_0 : w34.cell? ⟨gb111, 0, none⟩ = some (.int .i64 a0_0) := (blk_cell BK111.out 0).trans rfl; have hcz39_1 : w34.cell? ⟨gb111, 1, none⟩ = some (.string a0_1) := (blk_cell BK111.out 1).trans rfl; have hcz39_2 : w34.cell? ⟨gb111, 2, none⟩ = some (.string a0_2) := (blk_cell BK111.out 2).trans rfl; have hcz39_3 : w34.cell? ⟨gb111, 3, none⟩ = some (.int .i64 a0_3) := (blk_cell BK111.out 3).trans rfl; have hfz39_0 := blk_frozen BK111.out 0; have hfz39_1 := blk_frozen BK111.out 1; have hfz39_2 := blk_frozen BK111.out 2; have hfz39_3 := blk_frozen BK111.out 3))
          (try simp only [Act.put, List.setIfInBounds_toArray, List.set_cons_zero, List.set_cons_succ])
          go_cut [7] (fun v7 wc => ∃ (kq : Nat) (x7_30 : Bool), v7 = .bool x7_30 ∧ Aside0 (cspmatch_Match.j0 kq x7_30 false a1_1 a1_2 a1_3 a1_4 a1_5 a1_6 a2_0 a2_1 a2_2 a2_3 a2_4 a2_5 a2_6 = some r) ∧ Aside0 (kq ≤ k) ∧ Aside0 (wc.heap[gb111]? = some (.cells #[.int .i64 a0_0, .string a0_1, .string a0_2, .int .i64 a0_3] 99 (0, 0))) ∧ Aside0 (wc.heap[gb112]? = some (.cells #[.bool false, .int .i64 a1_1, .string a1_2, .string a1_3, .bool a1_4, .int .u32 a1_5, .int .i64 a1_6] 31 (0, 0))) ∧ Aside0 (wc.heap[gb113]? = some (.cells #[.bool a2_0, .int .i64 a2_1, .string a2_2, .string a2_3, .bool a2_4, .int .u32 a2_5, .int .i64 a2_6] 31 (0, 0))) ∧ Aside0 (Below w.heap.size w wc))
          case first =>
            have H := HC31.out
            clear HC31
            by_cases c40 : a1_6 = a2_6
            · rw [if_pos c40] at H
              have c40b0 : (a1_6 == a2_6) = true := beq_iff_eq.mpr c40
              have c40b1 : (a1_6 != a2_6) = false := bne_eq_false_iff_eq.mpr c40
              clear c40
              (first | rw [c40b0] | (simp only [i64_w, i32_w]; rw [c40b0]) | skip)
              have H' := Aside0.mk H
              clear H
              have hnb41 := NB112_111.out
              have hnc41 := NB111_112.out
              have hnb42 := NB112_113.out
              have hnc42 := NB113_112.out
              have hcz43_0 : w34.cell? ⟨gb112, 0, none⟩ = some (.bool false) := (blk_cell BK112.out 0).trans rfl
              have hcz43_1 : w34.cell? ⟨gb112, 1, none⟩ = some (.int .i64 a1_1) := (blk_cell BK112.out 1).trans rfl
              have hcz43_2 : w34.cell? ⟨gb112, 2, none⟩ = some (.string a1_2) := (blk_cell BK112.out 2).trans rfl
              have hcz43_3 : w34.cell? ⟨gb112, 3, none⟩ = some (.string a1_3) := (blk_cell BK112.out 3).trans rfl
              have hcz43_4 : w34.cell? ⟨gb112, 4, none⟩ = some (.bool a1_4) := (blk_cell BK112.out 4).trans rfl
              have hcz43_5 : w34.cell? ⟨gb112, 5, none⟩ = some (.int .u32 a1_5) := (blk_cell BK112.out 5).trans rfl
              have hcz43_6 : w34.cell? ⟨gb112, 6, none⟩ = some (.int .i64 a1_6) := (blk_cell BK112.out 6).trans rfl
              have hfz43_0 := blk_frozen BK112.out 0
              have hfz43_1 := blk_frozen BK112.out 1
              have hfz43_2 := blk_frozen BK112.out 2
              have hfz43_3 := blk_frozen BK112.out 3
              have hfz43_4 := blk_frozen BK112.out 4
              have hfz43_5 := blk_frozen BK112.out 5
              have hfz43_6 := blk_frozen BK112.out 6
              have hnb44 := NB113_111.out
              have hnc44 := NB111_113.out
              have hcz45_0 : w34.cell? ⟨gb113, 0, none⟩ = some (.bool a2_0) := (blk_cell BK113.out 0).trans rfl
              have hcz45_1 : w34.cell? ⟨gb113, 1, none⟩ = some (.int .i64 a2_1) := (blk_cell BK113.out 1).trans rfl
              have hcz45_2 : w34.cell? ⟨gb113, 2, none⟩ = some (.string a2_2) := (blk_cell BK113.out 2).trans rfl
              have hcz45_3 : w34.cell? ⟨gb113, 3, none⟩ = some (.string a2_3) := (blk_cell BK113.out 3).trans rfl
              have hcz45_4 : w34.cell? ⟨gb113, 4, none⟩ = some (.bool a2_4) := (blk_cell BK113.out 4).trans rfl
              have hcz45_5 : w34.cell? ⟨gb113, 5, none⟩ = some (.int .u32 a2_5) := (blk_cell BK113.out 5).trans rfl
              have hcz45_6 : w34.cell? ⟨gb113, 6, none⟩ = some (.int .i64 a2_6) := (blk_cell BK113.out 6).trans rfl
              have hfz45_0 := blk_frozen BK113.out 0
              have hfz45_1 := blk_frozen BK113.out 1
              have hfz45_2 := blk_frozen BK113.out 2
              have hfz45_3 := blk_frozen BK113.out 3
              have hfz45_4 := blk_frozen BK113.out 4
              have hfz45_5 := blk_frozen BK113.out 5
              have hfz45_6 := blk_frozen BK113.out 6
              go_wp2
              go_meet
              case rel => exact ⟨_, (true), (by first | rfl | (simp; done) | (simp [*]; done) | (simp [ne_nil_bool]; done)), H', ⟨by first | omega | exact Nat.le_refl _⟩, ⟨by (with_reducible repeat (first | refine blk_drewN ?_ _ | refine blk_drew ?_ | refine blk_alloc ?_ _)); exact BK111.out⟩, ⟨by (with_reducible repeat (first | refine blk_drewN ?_ _ | refine blk_drew ?_ | refine blk_alloc ?_ _)); exact BK112.out⟩, ⟨by (with_reducible repeat (first | refine blk_drewN ?_ _ | refine blk_drew ?_ | refine blk_alloc ?_ _)); exact BK113.out⟩, ⟨by repeat (first | (with_reducible first | exact HB.out | apply below_alloc | apply pw_below_drewN | apply below_drew1 | refine below_set ?_ GE111.out | refine below_set ?_ GE112.out | refine below_set ?_ GE113.out) | exact HB.out)⟩⟩
            · rw [if_neg c40] at H
              have c40b0 : (a1_6 == a2_6) = false := beq_eq_false_iff_ne.mpr c40
              have c40b1 : (a1_6 != a2_6) = true := bne_iff_ne.mpr c40
              (first | rw [c40b0] | (simp only [i64_w, i32_w]; rw [c40b0]) | skip)
              replace H := Option.bind_eq_some_iff.mp H
              obtain ⟨t115, A460, H⟩ := H
              replace H : (if t115 = true then ((cspmatch_own.f a2_0 a2_1 a2_2 a2_3 a2_4 a2_5 a2_6).bind fun t116 => (cspmatch_Match.j0 k t116 false a1_1 a1_2 a1_3 a1_4 a1_5 a1_6 a2_0 a2_1 a2_2 a2_3 a2_4 a2_5 a2_6)) else (cspmatch_Match.j0 k false false a1_1 a1_2 a1_3 a1_4 a1_5 a1_6 a2_0 a2_1 a2_2 a2_3 a2_4 a2_5 a2_6)) = some r := H
              have A46 := Aside0.mk A460
              clear A460
              by_cases c47 : t115 = true
              · subst c47
                have H1 : ((cspmatch_own.f a2_0 a2_1 a2_2 a2_3 a2_4 a2_5 a2_6).bind fun t116 => (cspmatch_Match.j0 k t116 false a1_1 a1_2 a1_3 a1_4 a1_5 a1_6 a2_0 a2_1 a2_2 a2_3 a2_4 a2_5 a2_6)) = some r := by rw [if_pos rfl] at H; exact H
                clear H
                have H := H1
                clear H1
                replace H := Option.bind_eq_some_iff.mp H
                obtain ⟨t116, A480, H⟩ := H
                replace H : (cspmatch_Match.j0 k t116 false a1_1 a1_2 a1_3 a1_4 a1_5 a1_6 a2_0 a2_1 a2_2 a2_3 a2_4 a2_5 a2_6) = some r := H
                have A48 := Aside0.mk A480
                clear A480
                have H' := Aside0.mk H
                clear H
                have hnb49 := NB112_111.out
                have hnc49 := NB111_112.out
                have hnb50 := NB112_113.out
                have hnc50 := NB113_112.out
                have hcz51_0 : w34.cell? ⟨gb112, 0, none⟩ = some (.bool false) := (blk_cell BK112.out 0).trans rfl
                have hcz51_1 : w34.cell? ⟨gb112, 1, none⟩ = some (.int .i64 a1_1) := (blk_cell BK112.out 1).trans rfl
                have hcz51_2 : w34.cell? ⟨gb112, 2, none⟩ = some (.string a1_2) := (blk_cell BK112.out 2).trans rfl
                have hcz51_3 : w34.cell? ⟨gb112, 3, none⟩ = some (.string a1_3) := (blk_cell BK112.out 3).trans rfl
                have hcz51_4 : w34.cell? ⟨gb112, 4, none⟩ = some (.bool a1_4) := (blk_cell BK112.out 4).trans rfl
                have hcz51_5 : w34.cell? ⟨gb112, 5, none⟩ = some (.int .u32 a1_5) := (blk_cell BK112.out 5).trans rfl
                have hcz51_6 : w34.cell? ⟨gb112, 6, none⟩ = some (.int .i64 a1_6) := (blk_cell BK112.out 6).trans rfl
                have hfz51_0 := blk_frozen BK112.out 0
                have hfz51_1 := blk_frozen BK112.out 1
                have hfz51_2 := blk_frozen BK112.out 2
                have hfz51_3 := blk_frozen BK112.out 3
                have hfz51_4 := blk_frozen BK112.out 4
                have hfz51_5 := blk_frozen BK112.out 5
                have hfz51_6 := blk_frozen BK112.out 6
                have hnb52 := NB113_111.out
                have hnc52 := NB111_113.out
                have hcz53_0 : w34.cell? ⟨gb113, 0, none⟩ = some (.bool a2_0) := (blk_cell BK113.out 0).trans rfl
                have hcz53_1 : w34.cell? ⟨gb113, 1, none⟩ = some (.int .i64 a2_1) := (blk_cell BK113.out 1).trans rfl
                have hcz53_2 : w34.cell? ⟨gb113, 2, none⟩ = some (.string a2_2) := (blk_cell BK113.out 2).trans rfl
                have hcz53_3 : w34.cell? ⟨gb113, 3, none⟩ = some (.string a2_3) := (blk_cell BK113.out 3).trans rfl
                have hcz53_4 : w34.cell? ⟨gb113, 4, none⟩ = some (.bool a2_4) := (blk_cell BK113.out 4).trans rfl
                have hcz53_5 : w34.cell? ⟨gb113, 5, none⟩ = some (.int .u32 a2_5) := (blk_cell BK113.out 5).trans rfl
                have hcz53_6 : w34.cell? ⟨gb113, 6, none⟩ = some (.int .i64 a2_6) := (blk_cell BK113.out 6).trans rfl
                have hfz53_0 := blk_frozen BK113.out 0
                have hfz53_1 := blk_frozen BK113.out 1
                have hfz53_2 := blk_frozen BK113.out 2
                have hfz53_3 := blk_frozen BK113.out 3
                have hfz53_4 := blk_frozen BK113.out 4
                have hfz53_5 := blk_frozen BK113.out 5
                have hfz53_6 := blk_frozen BK113.out 6
                go_wp2_with (first | (go_at_call 84; (with_reducible refine (cspmatch_own.calls false a1_1 a1_2 a1_3 a1_4 a1_5 a1_6 true _ A46.out).mono ?_); rintro e w54 ⟨rfl, hb⟩; have n0_ := Aside0.mk (blk_below (g := gb111) (o := .cells #[.int .i64 a0_0, .string a0_1, .string a0_2, .int .i64 a0_3] 99 (0, 0)) (by (with_reducible repeat (first | refine blk_drewN ?_ _ | refine blk_drew ?_ | refine blk_alloc ?_ _)); exact BK111.out) hb); have n1_ := Aside0.mk (blk_below (g := gb112) (o := .cells #[.bool false, .int .i64 a1_1, .string a1_2, .string a1_3, .bool a1_4, .int .u32 a1_5, .int .i64 a1_6] 31 (0, 0)) (by (with_reducible repeat (first | refine blk_drewN ?_ _ | refine blk_drew ?_ | refine blk_alloc ?_ _)); exact BK112.out) hb); have n2_ := Aside0.mk (blk_below (g := gb113) (o := .cells #[.bool a2_0, .int .i64 a2_1, .string a2_2, .string a2_3, .bool a2_4, .int .u32 a2_5, .int .i64 a2_6] 31 (0, 0)) (by (with_reducible repeat (first | refine blk_drewN ?_ _ | refine blk_drew ?_ | refine blk_alloc ?_ _)); exact BK113.out) hb); have n3_ := Aside0.mk (below_step (by repeat (first | (with_reducible first | exact HB.out | apply below_alloc | apply pw_below_drewN | apply below_drew1 | refine below_set ?_ GE111.out | refine below_set ?_ GE112.out | refine below_set ?_ GE113.out) | exact HB.out)) hb); clear BK111; clear BK112; clear BK113; clear HB; have BK111 := n0_; have BK112 := n1_; have BK113 := n2_; have HB := n3_; clear n0_ n1_ n2_ n3_; (try clear hb); (try clear hb2); (try clear hk); (try clear hi); have hcz55_0 : w54.cell? ⟨gb113, 0, none⟩ = some (.bool a2_0) := (blk_cell BK113.out 0).trans rfl; have hcz55_1 : w54.cell? ⟨gb113, 1, none⟩ = some (.int .i64 a2_1) := (blk_cell BK113.out 1).trans rfl; have hcz55_2 : w54.cell? ⟨gb113, 2, none⟩ = some (.string a2_2) := (blk_cell BK113.out 2).trans rfl; have hcz55_3 : w54.cell? ⟨gb113, 3, none⟩ = some (.string a2_3) := (blk_cell BK113.out 3).trans rfl; have hcz55_4 : w54.cell? ⟨gb113, 4, none⟩ = some (.bool a2_4) := (blk_cell BK113.out 4).trans rfl; have hcz55_5 : w54.cell? ⟨gb113, 5, none⟩ = some (.int .u32 a2_5) := (blk_cell BK113.out 5).trans rfl; have hcz55_6 : w54.cell? ⟨gb113, 6, none⟩ = some (.int .i64 a2_6) := (blk_cell BK113.out 6).trans rfl; have hfz55_0 := blk_frozen BK113.out 0; have hfz55_1 := blk_frozen BK113.out 1; have hfz55_2 := blk_frozen BK113.out 2; have hfz55_3 := blk_frozen BK113.out 3; have hfz55_4 := blk_frozen BK113.out 4; have hfz55_5 := blk_frozen BK113.out 5; have hfz55_6 := blk_frozen BK113.out 6) | (go_at_call 84; (with_reducible refine (cspmatch_own.calls a2_0 a2_1 a2_2 a2_3 a2_4 a2_5 a2_6 t116 _ A48.out).mono ?_); rintro e w56 ⟨rfl, hb⟩; have n0_ := Aside0.mk (blk_below (g := gb111) (o := .cells #[.int .i64 a0_0, .string a0_1, .string a0_2, .int .i64 a0_3] 99 (0, 0)) (by (with_reducible repeat (first | refine blk_drewN ?_ _ | refine blk_drew ?_ | refine blk_alloc ?_ _)); exact BK111.out) hb); have n1_ := Aside0.mk (blk_below (g := gb112) (o := .cells #[.bool false, .int .i64 a1_1, .string a1_2, .string a1_3, .bool a1_4, .int .u32 a1_5, .int .i64 a1_6] 31 (0, 0)) (by (with_reducible repeat (first | refine blk_drewN ?_ _ | refine blk_drew ?_ | refine blk_alloc ?_ _)); exact BK112.out) hb); have n2_ := Aside0.mk (blk_below (g := gb113) (o := .cells #[.bool a2_0, .int .i64 a2_1, .string a2_2, .string a2_3, .bool a2_4, .int .u32 a2_5, .int .i64 a2_6] 31 (0, 0)) (by (with_reducible repeat (first | refine blk_drewN ?_ _ | refine blk_drew ?_ | refine blk_alloc ?_ _)); exact BK113.out) hb); have n3_ := Aside0.mk (below_step (by repeat (first | (with_reducible first | exact HB.out | apply below_alloc | apply pw_below_drewN | apply below_drew1 | refine below_set ?_ GE111.out | refine below_set ?_ GE112.out | refine below_set ?_ GE113.out) | exact HB.out)) hb); clear BK111; clear BK112; clear BK113; clear HB; have BK111 := n0_; have BK112 := n1_; have BK113 := n2_; have HB := n3_; clear n0_ n1_ n2_ n3_; (try clear hb); (try clear hb2); (try clear hk); (try clear hi)))
                go_meet
                case rel => exact ⟨_, (t116), (by first | rfl | (simp; done) | (simp [*]; done) | (simp [ne_nil_bool]; done)), H', ⟨by first | omega | exact Nat.le_refl _⟩, ⟨by (with_reducible repeat (first | refine blk_drewN ?_ _ | refine blk_drew ?_ | refine blk_alloc ?_ _)); exact BK111.out⟩, ⟨by (with_reducible repeat (first | refine blk_drewN ?_ _ | refine blk_drew ?_ | refine blk_alloc ?_ _)); exact BK112.out⟩, ⟨by (with_reducible repeat (first | refine blk_drewN ?_ _ | refine blk_drew ?_ | refine blk_alloc ?_ _)); exact BK113.out⟩, ⟨by repeat (first | (with_reducible first | exact HB.out | apply below_alloc | apply pw_below_drewN | apply below_drew1 | refine below_set ?_ GE111.out | refine below_set ?_ GE112.out | refine below_set ?_ GE113.out) | exact HB.out)⟩⟩
              · replace c47 := Bool.eq_false_iff.mpr c47
                subst c47
                have H1 : (cspmatch_Match.j0 k false false a1_1 a1_2 a1_3 a1_4 a1_5 a1_6 a2_0 a2_1 a2_2 a2_3 a2_4 a2_5 a2_6) = some r := by rw [if_neg (show ¬ (false = true) by decide)] at H; exact H
                clear H
                have H := H1
                clear H1
                have H' := Aside0.mk H
                clear H
                have hnb57 := NB112_111.out
                have hnc57 := NB111_112.out
                have hnb58 := NB112_113.out
                have hnc58 := NB113_112.out
                have hcz59_0 : w34.cell? ⟨gb112, 0, none⟩ = some (.bool false) := (blk_cell BK112.out 0).trans rfl
                have hcz59_1 : w34.cell? ⟨gb112, 1, none⟩ = some (.int .i64 a1_1) := (blk_cell BK112.out 1).trans rfl
                have hcz59_2 : w34.cell? ⟨gb112, 2, none⟩ = some (.string a1_2) := (blk_cell BK112.out 2).trans rfl
                have hcz59_3 : w34.cell? ⟨gb112, 3, none⟩ = some (.string a1_3) := (blk_cell BK112.out 3).trans rfl
                have hcz59_4 : w34.cell? ⟨gb112, 4, none⟩ = some (.bool a1_4) := (blk_cell BK112.out 4).trans rfl
                have hcz59_5 : w34.cell? ⟨gb112, 5, none⟩ = some (.int .u32 a1_5) := (blk_cell BK112.out 5).trans rfl
                have hcz59_6 : w34.cell? ⟨gb112, 6, none⟩ = some (.int .i64 a1_6) := (blk_cell BK112.out 6).trans rfl
                have hfz59_0 := blk_frozen BK112.out 0
                have hfz59_1 := blk_frozen BK112.out 1
                have hfz59_2 := blk_frozen BK112.out 2
                have hfz59_3 := blk_frozen BK112.out 3
                have hfz59_4 := blk_frozen BK112.out 4
                have hfz59_5 := blk_frozen BK112.out 5
                have hfz59_6 := blk_frozen BK112.out 6
                have hnb60 := NB113_111.out
                have hnc60 := NB111_113.out
                have hcz61_0 : w34.cell? ⟨gb113, 0, none⟩ = some (.bool a2_0) := (blk_cell BK113.out 0).trans rfl
                have hcz61_1 : w34.cell? ⟨gb113, 1, none⟩ = some (.int .i64 a2_1) := (blk_cell BK113.out 1).trans rfl
                have hcz61_2 : w34.cell? ⟨gb113, 2, none⟩ = some (.string a2_2) := (blk_cell BK113.out 2).trans rfl
                have hcz61_3 : w34.cell? ⟨gb113, 3, none⟩ = some (.string a2_3) := (blk_cell BK113.out 3).trans rfl
                have hcz61_4 : w34.cell? ⟨gb113, 4, none⟩ = some (.bool a2_4) := (blk_cell BK113.out 4).trans rfl
                have hcz61_5 : w34.cell? ⟨gb113, 5, none⟩ = some (.int .u32 a2_5) := (blk_cell BK113.out 5).trans rfl
                have hcz61_6 : w34.cell? ⟨gb113, 6, none⟩ = some (.int .i64 a2_6) := (blk_cell BK113.out 6).trans rfl
                have hfz61_0 := blk_frozen BK113.out 0
                have hfz61_1 := blk_frozen BK113.out 1
                have hfz61_2 := blk_frozen BK113.out 2
                have hfz61_3 := blk_frozen BK113.out 3
                have hfz61_4 := blk_frozen BK113.out 4
                have hfz61_5 := blk_frozen BK113.out 5
                have hfz61_6 := blk_frozen BK113.out 6
                go_wp2_with (first | (go_at_call 84; (with_reducible refine (cspmatch_own.calls false a1_1 a1_2 a1_3 a1_4 a1_5 a1_6 false _ A46.out).mono ?_); rintro e w62 ⟨rfl, hb⟩; have n0_ := Aside0.mk (blk_below (g := gb111) (o := .cells #[.int .i64 a0_0, .string a0_1, .string a0_2, .int .i64 a0_3] 99 (0, 0)) (by (with_reducible repeat (first | refine blk_drewN ?_ _ | refine blk_drew ?_ | refine blk_alloc ?_ _)); exact BK111.out) hb); have n1_ := Aside0.mk (blk_below (g := gb112) (o := .cells #[.bool false, .int .i64 a1_1, .string a1_2, .string a1_3, .bool a1_4, .int .u32 a1_5, .int .i64 a1_6] 31 (0, 0)) (by (with_reducible repeat (first | refine blk_drewN ?_ _ | refine blk_drew ?_ | refine blk_alloc ?_ _)); exact BK112.out) hb); have n2_ := Aside0.mk (blk_below (g := gb113) (o := .cells #[.bool a2_0, .int .i64 a2_1, .string a2_2, .string a2_3, .bool a2_4, .int .u32 a2_5, .int .i64 a2_6] 31 (0, 0)) (by (with_reducible repeat (first | refine blk_drewN ?_ _ | refine blk_drew ?_ | refine blk_alloc ?_ _)); exact BK113.out) hb); have n3_ := Aside0.mk (below_step (by repeat (first | (with_reducible first | exact HB.out | apply below_alloc | apply pw_below_drewN | apply below_drew1 | refine below_set ?_ GE111.out | refine below_set ?_ GE112.out | refine below_set ?_ GE113.out) | exact HB.out)) hb); clear BK111; clear BK112; clear BK113; clear HB; have BK111 := n0_; have BK112 := n1_; have BK113 := n2_; have HB := n3_; clear n0_ n1_ n2_ n3_; (try clear hb); (try clear hb2); (try clear hk); (try clear hi)))
                go_meet
                case rel => exact ⟨_, (false), (by first | rfl | (simp; done) | (simp [*]; done) | (simp [ne_nil_bool]; done)), H', ⟨by first | omega | exact Nat.le_refl _⟩, ⟨by (with_reducible repeat (first | refine blk_drewN ?_ _ | refine blk_drew ?_ | refine blk_alloc ?_ _)); exact BK111.out⟩, ⟨by (with_reducible repeat (first | refine blk_drewN ?_ _ | refine blk_drew ?_ | refine blk_alloc ?_ _)); exact BK112.out⟩, ⟨by (with_reducible repeat (first | refine blk_drewN ?_ _ | refine blk_drew ?_ | refine blk_alloc ?_ _)); exact BK113.out⟩, ⟨by repeat (first | (with_reducible first | exact HB.out | apply below_alloc | apply pw_below_drewN | apply below_drew1 | refine below_set ?_ GE111.out | refine below_set ?_ GE112.out | refine below_set ?_ GE113.out) | exact HB.out)⟩⟩
          case rest =>
            clear HC31
            try clear c1
            try clear c2
            try clear p2
            try clear c3
            try clear c4
            try clear c5
            try clear c6
            try clear c8
            try clear c9
            try clear c11
            try clear c11b0
            try clear c11b1
            try clear c15
            try clear c16
            try clear c18
            try clear c20
            try clear c20b0
            try clear c20b1
            try clear c25
            try clear c26
            try clear c28
            try clear c30
            try clear c30b0
            try clear c30b1
            try clear c35
            try clear c36
            try clear c38
            try clear c40
            try clear c40b0
            try clear c40b1
            try clear c41
            try clear c42
            try clear c44
            try clear c47
            try clear c49
            try clear c50
            try clear c52
            try clear c57
            try clear c58
            try clear c60
            try clear hcz10_0
            try clear hcz10_1
            try clear hcz10_2
            try clear hcz10_3
            try clear hcz10_4
            try clear hcz10_5
            try clear hcz10_6
            try clear hcz17_0
            try clear hcz17_1
            try clear hcz17_2
            try clear hcz17_3
            try clear hcz17_4
            try clear hcz17_5
            try clear hcz17_6
            try clear hcz19_0
            try clear hcz19_1
            try clear hcz19_2
            try clear hcz19_3
            try clear hcz27_0
            try clear hcz27_1
            try clear hcz27_2
            try clear hcz27_3
            try clear hcz27_4
            try clear hcz27_5
            try clear hcz27_6
            try clear hcz29_0
            try clear hcz29_1
            try clear hcz29_2
            try clear hcz29_3
            try clear hcz37_0
            try clear hcz37_1
            try clear hcz37_2
            try clear hcz37_3
            try clear hcz37_4
            try clear hcz37_5
            try clear hcz37_6
            try clear hcz39_0
            try clear hcz39_1
            try clear hcz39_2
            try clear hcz39_3
            try clear hcz43_0
            try clear hcz43_1
            try clear hcz43_2
            try clear hcz43_3
            try clear hcz43_4
            try clear hcz43_5
            try clear hcz43_6
            try clear hcz45_0
            try clear hcz45_1
            try clear hcz45_2
            try clear hcz45_3
            try clear hcz45_4
            try clear hcz45_5
            try clear hcz45_6
            try clear hcz51_0
            try clear hcz51_1
            try clear hcz51_2
            try clear hcz51_3
            try clear hcz51_4
            try clear hcz51_5
            try clear hcz51_6
            try clear hcz53_0
            try clear hcz53_1
            try clear hcz53_2
            try clear hcz53_3
            try clear hcz53_4
            try clear hcz53_5
            try clear hcz53_6
            try clear hcz55_0
            try clear hcz55_1
            try clear hcz55_2
            try clear hcz55_3
            try clear hcz55_4
            try clear hcz55_5
            try clear hcz55_6
            try clear hcz59_0
            try clear hcz59_1
            try clear hcz59_2
            try clear hcz59_3
            try clear hcz59_4
            try clear hcz59_5
            try clear hcz59_6
            try clear hcz61_0
            try clear hcz61_1
            try clear hcz61_2
            try clear hcz61_3
            try clear hcz61_4
            try clear hcz61_5
            try clear hcz61_6
            try clear hfz10_0
            try clear hfz10_1
            try clear hfz10_2
            try clear hfz10_3
            try clear hfz10_4
            try clear hfz10_5
            try clear hfz10_6
            try clear hfz17_0
            try clear hfz17_1
            try clear hfz17_2
            try clear hfz17_3
            try clear hfz17_4
            try clear hfz17_5
            try clear hfz17_6
            try clear hfz19_0
            try clear hfz19_1
            try clear hfz19_2
            try clear hfz19_3
            try clear hfz27_0
            try clear hfz27_1
            try clear hfz27_2
            try clear hfz27_3
            try clear hfz27_4
            try clear hfz27_5
            try clear hfz27_6
            try clear hfz29_0
            try clear hfz29_1
            try clear hfz29_2
            try clear hfz29_3
            try clear hfz37_0
            try clear hfz37_1
            try clear hfz37_2
            try clear hfz37_3
            try clear hfz37_4
            try clear hfz37_5
            try clear hfz37_6
            try clear hfz39_0
            try clear hfz39_1
            try clear hfz39_2
            try clear hfz39_3
            try clear hfz43_0
            try clear hfz43_1
            try clear hfz43_2
            try clear hfz43_3
            try clear hfz43_4
            try clear hfz43_5
            try clear hfz43_6
            try clear hfz45_0
            try clear hfz45_1
            try clear hfz45_2
            try clear hfz45_3
            try clear hfz45_4
            try clear hfz45_5
            try clear hfz45_6
            try clear hfz51_0
            try clear hfz51_1
            try clear hfz51_2
            try clear hfz51_3
            try clear hfz51_4
            try clear hfz51_5
            try clear hfz51_6
            try clear hfz53_0
            try clear hfz53_1
            try clear hfz53_2
            try clear hfz53_3
            try clear hfz53_4
            try clear hfz53_5
            try clear hfz53_6
            try clear hfz55_0
            try clear hfz55_1
            try clear hfz55_2
            try clear hfz55_3
            try clear hfz55_4
            try clear hfz55_5
            try clear hfz55_6
            try clear hfz59_0
            try clear hfz59_1
            try clear hfz59_2
            try clear hfz59_3
            try clear hfz59_4
            try clear hfz59_5
            try clear hfz59_6
            try clear hfz61_0
            try clear hfz61_1
            try clear hfz61_2
            try clear hfz61_3
            try clear hfz61_4
            try clear hfz61_5
            try clear hfz61_6
            obtain ⟨kq, x7_30, rfl, HA, HJ30, BK111, BK112, BK113, HB⟩ := hcut
            cases kq with
            | zero => exact absurd HA.out (by simp [cspmatch_Match.j0])
            | succ kj30 =>
              have H := HA.out
              clear HA
              simp only [cspmatch_Match.j0] at H
              replace H := Option.bind_eq_some_iff.mp H
              obtain ⟨t117, A630, H⟩ := H
              replace H : (if t117 = true then (some true) else (if a2_0 = true then (some false) else (if (a2_3.toList == a1_3.toList && (a2_4 == a1_4 && (a2_5 == a1_5))) = true then ((cspmatch_together.f a2_2 a1_2).bind fun t118 => (if t118 = true then (some x7_30) else (some false))) else (some false)))) = some r := H
              have A63 := Aside0.mk A630
              clear A630
              by_cases c64 : t117 = true
              · subst c64
                have H1 : (some true) = some r := by rw [if_pos rfl] at H; exact H
                clear H
                have H := H1
                clear H1
                obtain rfl := Option.some.inj H
                have hnb65 := NB112_111.out
                have hnc65 := NB111_112.out
                have hnb66 := NB112_113.out
                have hnc66 := NB113_112.out
                have hcz67_0 : wc.cell? ⟨gb112, 0, none⟩ = some (.bool false) := (blk_cell BK112.out 0).trans rfl
                have hcz67_1 : wc.cell? ⟨gb112, 1, none⟩ = some (.int .i64 a1_1) := (blk_cell BK112.out 1).trans rfl
                have hcz67_2 : wc.cell? ⟨gb112, 2, none⟩ = some (.string a1_2) := (blk_cell BK112.out 2).trans rfl
                have hcz67_3 : wc.cell? ⟨gb112, 3, none⟩ = some (.string a1_3) := (blk_cell BK112.out 3).trans rfl
                have hcz67_4 : wc.cell? ⟨gb112, 4, none⟩ = some (.bool a1_4) := (blk_cell BK112.out 4).trans rfl
                have hcz67_5 : wc.cell? ⟨gb112, 5, none⟩ = some (.int .u32 a1_5) := (blk_cell BK112.out 5).trans rfl
                have hcz67_6 : wc.cell? ⟨gb112, 6, none⟩ = some (.int .i64 a1_6) := (blk_cell BK112.out 6).trans rfl
                have hfz67_0 := blk_frozen BK112.out 0
                have hfz67_1 := blk_frozen BK112.out 1
                have hfz67_2 := blk_frozen BK112.out 2
                have hfz67_3 := blk_frozen BK112.out 3
                have hfz67_4 := blk_frozen BK112.out 4
                have hfz67_5 := blk_frozen BK112.out 5
                have hfz67_6 := blk_frozen BK112.out 6
                have hnb68 := NB113_111.out
                have hnc68 := NB111_113.out
                have hcz69_0 : wc.cell? ⟨gb113, 0, none⟩ = some (.bool a2_0) := (blk_cell BK113.out 0).trans rfl
                have hcz69_1 : wc.cell? ⟨gb113, 1, none⟩ = some (.int .i64 a2_1) := (blk_cell BK113.out 1).trans rfl
                have hcz69_2 : wc.cell? ⟨gb113, 2, none⟩ = some (.string a2_2) := (blk_cell BK113.out 2).trans rfl
                have hcz69_3 : wc.cell? ⟨gb113, 3, none⟩ = some (.string a2_3) := (blk_cell BK113.out 3).trans rfl
                have hcz69_4 : wc.cell? ⟨gb113, 4, none⟩ = some (.bool a2_4) := (blk_cell BK113.out 4).trans rfl
                have hcz69_5 : wc.cell? ⟨gb113, 5, none⟩ = some (.int .u32 a2_5) := (blk_cell BK113.out 5).trans rfl
                have hcz69_6 : wc.cell? ⟨gb113, 6, none⟩ = some (.int .i64 a2_6) := (blk_cell BK113.out 6).trans rfl
                have hfz69_0 := blk_frozen BK113.out 0
                have hfz69_1 := blk_frozen BK113.out 1
                have hfz69_2 := blk_frozen BK113.out 2
                have hfz69_3 := blk_frozen BK113.out 3
                have hfz69_4 := blk_frozen BK113.out 4
                have hfz69_5 := blk_frozen BK113.out 5
                have hfz69_6 := blk_frozen BK113.out 6
                go_wp2_with (first | ((with_reducible refine gate_callee (f := 28) rfl ?_); refine goesL_ (some 40) rfl rfl Tryz.func28 (by kernel_rfl) rfl #[.agg #[.bool false, .int .i64 a1_1, .string a1_2, .string a1_3, .bool a1_4, .int .u32 a1_5, .int .i64 a1_6], .agg #[.bool a2_0, .int .i64 a2_1, .string a2_2, .string a2_3, .bool a2_4, .int .u32 a2_5, .int .i64 a2_6]] rfl (by (try simp only [List.map_toArray, List.map_cons, List.map_nil]); first | done | rfl | (simp only [List.length_drop, List.length_take]; rfl)) ?_; (with_reducible refine (origin_Same.calls false a1_1 a1_2 a1_3 a1_4 a1_5 a1_6 a2_0 a2_1 a2_2 a2_3 a2_4 a2_5 a2_6 true _ A63.out).mono ?_); rintro e w70 ⟨rfl, hb⟩; refine ⟨_, rfl, ?_⟩; have n0_ := Aside0.mk (blk_below (g := gb111) (o := .cells #[.int .i64 a0_0, .string a0_1, .string a0_2, .int .i64 a0_3] 99 (0, 0)) (by (with_reducible repeat (first | refine blk_drewN ?_ _ | refine blk_drew ?_ | refine blk_alloc ?_ _)); exact BK111.out) hb); have n1_ := Aside0.mk (blk_below (g := gb112) (o := .cells #[.bool false, .int .i64 a1_1, .string a1_2, .string a1_3, .bool a1_4, .int .u32 a1_5, .int .i64 a1_6] 31 (0, 0)) (by (with_reducible repeat (first | refine blk_drewN ?_ _ | refine blk_drew ?_ | refine blk_alloc ?_ _)); exact BK112.out) hb); have n2_ := Aside0.mk (blk_below (g := gb113) (o := .cells #[.bool a2_0, .int .i64 a2_1, .string a2_2, .string a2_3, .bool a2_4, .int .u32 a2_5, .int .i64 a2_6] 31 (0, 0)) (by (with_reducible repeat (first | refine blk_drewN ?_ _ | refine blk_drew ?_ | refine blk_alloc ?_ _)); exact BK113.out) hb); have n3_ := Aside0.mk (below_step (by repeat (first | (with_reducible first | exact HB.out | apply below_alloc | apply pw_below_drewN | apply below_drew1 | refine below_set ?_ GE111.out | refine below_set ?_ GE112.out | refine below_set ?_ GE113.out) | exact HB.out)) hb); clear BK111; clear BK112; clear BK113; clear HB; have BK111 := n0_; have BK112 := n1_; have BK113 := n2_; have HB := n3_; clear n0_ n1_ n2_ n3_; (try clear hb); (try clear hb2); (try clear hk); (try clear hi)))
                go_ret
                exact ⟨by first | rfl | (simp [errW_none, errW_some] <;> rfl) | (simp [*, errW_none, errW_some] <;> rfl), by repeat (first | (with_reducible first | exact HB.out | apply below_alloc | apply pw_below_drewN | apply below_drew1 | refine below_set ?_ GE111.out | refine below_set ?_ GE112.out | refine below_set ?_ GE113.out) | exact HB.out)⟩
              · replace c64 := Bool.eq_false_iff.mpr c64
                subst c64
                have H1 : (if a2_0 = true then (some false) else (if (a2_3.toList == a1_3.toList && (a2_4 == a1_4 && (a2_5 == a1_5))) = true then ((cspmatch_together.f a2_2 a1_2).bind fun t118 => (if t118 = true then (some x7_30) else (some false))) else (some false))) = some r := by rw [if_neg (show ¬ (false = true) by decide)] at H; exact H
                clear H
                have H := H1
                clear H1
                by_cases c71 : a2_0 = true
                · subst c71
                  have H1 : (some false) = some r := by rw [if_pos rfl] at H; exact H
                  clear H
                  have H := H1
                  clear H1
                  obtain rfl := Option.some.inj H
                  have hnb72 := NB112_111.out
                  have hnc72 := NB111_112.out
                  have hnb73 := NB112_113.out
                  have hnc73 := NB113_112.out
                  have hcz74_0 : wc.cell? ⟨gb112, 0, none⟩ = some (.bool false) := (blk_cell BK112.out 0).trans rfl
                  have hcz74_1 : wc.cell? ⟨gb112, 1, none⟩ = some (.int .i64 a1_1) := (blk_cell BK112.out 1).trans rfl
                  have hcz74_2 : wc.cell? ⟨gb112, 2, none⟩ = some (.string a1_2) := (blk_cell BK112.out 2).trans rfl
                  have hcz74_3 : wc.cell? ⟨gb112, 3, none⟩ = some (.string a1_3) := (blk_cell BK112.out 3).trans rfl
                  have hcz74_4 : wc.cell? ⟨gb112, 4, none⟩ = some (.bool a1_4) := (blk_cell BK112.out 4).trans rfl
                  have hcz74_5 : wc.cell? ⟨gb112, 5, none⟩ = some (.int .u32 a1_5) := (blk_cell BK112.out 5).trans rfl
                  have hcz74_6 : wc.cell? ⟨gb112, 6, none⟩ = some (.int .i64 a1_6) := (blk_cell BK112.out 6).trans rfl
                  have hfz74_0 := blk_frozen BK112.out 0
                  have hfz74_1 := blk_frozen BK112.out 1
                  have hfz74_2 := blk_frozen BK112.out 2
                  have hfz74_3 := blk_frozen BK112.out 3
                  have hfz74_4 := blk_frozen BK112.out 4
                  have hfz74_5 := blk_frozen BK112.out 5
                  have hfz74_6 := blk_frozen BK112.out 6
                  have hnb75 := NB113_111.out
                  have hnc75 := NB111_113.out
                  have hcz76_0 : wc.cell? ⟨gb113, 0, none⟩ = some (.bool true) := (blk_cell BK113.out 0).trans rfl
                  have hcz76_1 : wc.cell? ⟨gb113, 1, none⟩ = some (.int .i64 a2_1) := (blk_cell BK113.out 1).trans rfl
                  have hcz76_2 : wc.cell? ⟨gb113, 2, none⟩ = some (.string a2_2) := (blk_cell BK113.out 2).trans rfl
                  have hcz76_3 : wc.cell? ⟨gb113, 3, none⟩ = some (.string a2_3) := (blk_cell BK113.out 3).trans rfl
                  have hcz76_4 : wc.cell? ⟨gb113, 4, none⟩ = some (.bool a2_4) := (blk_cell BK113.out 4).trans rfl
                  have hcz76_5 : wc.cell? ⟨gb113, 5, none⟩ = some (.int .u32 a2_5) := (blk_cell BK113.out 5).trans rfl
                  have hcz76_6 : wc.cell? ⟨gb113, 6, none⟩ = some (.int .i64 a2_6) := (blk_cell BK113.out 6).trans rfl
                  have hfz76_0 := blk_frozen BK113.out 0
                  have hfz76_1 := blk_frozen BK113.out 1
                  have hfz76_2 := blk_frozen BK113.out 2
                  have hfz76_3 := blk_frozen BK113.out 3
                  have hfz76_4 := blk_frozen BK113.out 4
                  have hfz76_5 := blk_frozen BK113.out 5
                  have hfz76_6 := blk_frozen BK113.out 6
                  go_wp2_with (first | ((with_reducible refine gate_callee (f := 28) rfl ?_); refine goesL_ (some 40) rfl rfl Tryz.func28 (by kernel_rfl) rfl #[.agg #[.bool false, .int .i64 a1_1, .string a1_2, .string a1_3, .bool a1_4, .int .u32 a1_5, .int .i64 a1_6], .agg #[.bool true, .int .i64 a2_1, .string a2_2, .string a2_3, .bool a2_4, .int .u32 a2_5, .int .i64 a2_6]] rfl (by (try simp only [List.map_toArray, List.map_cons, List.map_nil]); first | done | rfl | (simp only [List.length_drop, List.length_take]; rfl)) ?_; (with_reducible refine (origin_Same.calls false a1_1 a1_2 a1_3 a1_4 a1_5 a1_6 true a2_1 a2_2 a2_3 a2_4 a2_5 a2_6 false _ A63.out).mono ?_); rintro e w77 ⟨rfl, hb⟩; refine ⟨_, rfl, ?_⟩; have n0_ := Aside0.mk (blk_below (g := gb111) (o := .cells #[.int .i64 a0_0, .string a0_1, .string a0_2, .int .i64 a0_3] 99 (0, 0)) (by (with_reducible repeat (first | refine blk_drewN ?_ _ | refine blk_drew ?_ | refine blk_alloc ?_ _)); exact BK111.out) hb); have n1_ := Aside0.mk (blk_below (g := gb112) (o := .cells #[.bool false, .int .i64 a1_1, .string a1_2, .string a1_3, .bool a1_4, .int .u32 a1_5, .int .i64 a1_6] 31 (0, 0)) (by (with_reducible repeat (first | refine blk_drewN ?_ _ | refine blk_drew ?_ | refine blk_alloc ?_ _)); exact BK112.out) hb); have n2_ := Aside0.mk (blk_below (g := gb113) (o := .cells #[.bool true, .int .i64 a2_1, .string a2_2, .string a2_3, .bool a2_4, .int .u32 a2_5, .int .i64 a2_6] 31 (0, 0)) (by (with_reducible repeat (first | refine blk_drewN ?_ _ | refine blk_drew ?_ | refine blk_alloc ?_ _)); exact BK113.out) hb); have n3_ := Aside0.mk (below_step (by repeat (first | (with_reducible first | exact HB.out | apply below_alloc | apply pw_below_drewN | apply below_drew1 | refine below_set ?_ GE111.out | refine below_set ?_ GE112.out | refine below_set ?_ GE113.out) | exact HB.out)) hb); clear BK111; clear BK112; clear BK113; clear HB; have BK111 := n0_; have BK112 := n1_; have BK113 := n2_; have HB := n3_; clear n0_ n1_ n2_ n3_; (try clear hb); (try clear hb2); (try clear hk); (try clear hi); have hcz78_0 : w77.cell? ⟨gb113, 0, none⟩ = some (.bool true) := (blk_cell BK113.out 0).trans rfl; have hcz78_1 : w77.cell? ⟨gb113, 1, none⟩ = some (.int .i64 a2_1) := (blk_cell BK113.out 1).trans rfl; have hcz78_2 : w77.cell? ⟨gb113, 2, none⟩ = some (.string a2_2) := (blk_cell BK113.out 2).trans rfl; have hcz78_3 : w77.cell? ⟨gb113, 3, none⟩ = some (.string a2_3) := (blk_cell BK113.out 3).trans rfl; have hcz78_4 : w77.cell? ⟨gb113, 4, none⟩ = some (.bool a2_4) := (blk_cell BK113.out 4).trans rfl; have hcz78_5 : w77.cell? ⟨gb113, 5, none⟩ = some (.int .u32 a2_5) := (blk_cell BK113.out 5).trans rfl; have hcz78_6 : w77.cell? ⟨gb113, 6, none⟩ = some (.int .i64 a2_6) := (blk_cell BK113.out 6).trans rfl; have hfz78_0 := blk_frozen BK113.out 0; have hfz78_1 := blk_frozen BK113.out 1; have hfz78_2 := blk_frozen BK113.out 2; have hfz78_3 := blk_frozen BK113.out 3; have hfz78_4 := blk_frozen BK113.out 4; have hfz78_5 := blk_frozen BK113.out 5; have hfz78_6 := blk_frozen BK113.out 6))
                  go_ret
                  exact ⟨by first | rfl | (simp [errW_none, errW_some] <;> rfl) | (simp [*, errW_none, errW_some] <;> rfl), by repeat (first | (with_reducible first | exact HB.out | apply below_alloc | apply pw_below_drewN | apply below_drew1 | refine below_set ?_ GE111.out | refine below_set ?_ GE112.out | refine below_set ?_ GE113.out) | exact HB.out)⟩
                · replace c71 := Bool.eq_false_iff.mpr c71
                  subst c71
                  have H1 : (if (a2_3.toList == a1_3.toList && (a2_4 == a1_4 && (a2_5 == a1_5))) = true then ((cspmatch_together.f a2_2 a1_2).bind fun t118 => (if t118 = true then (some x7_30) else (some false))) else (some false)) = some r := by rw [if_neg (show ¬ (false = true) by decide)] at H; exact H
                  clear H
                  have H := H1
                  clear H1
                  by_cases c79 : (a2_3.toList == a1_3.toList && (a2_4 == a1_4 && (a2_5 == a1_5))) = true
                  · rw [if_pos c79] at H
                    have c79b0 : (a2_3.toList == a1_3.toList && (a2_4 == a1_4 && (a2_5 == a1_5))) = true := c79
                    (try (have c79b1 : decide (a2_3.toList = a1_3.toList && (a2_4 == a1_4 && (a2_5 == a1_5))) = true := by simpa using c79))
                    (try (have c79b2 : (a2_3.toList == a1_3.toList && (a2_4 == a1_4 && (a2_5 == a1_5))) = true := by simpa using c79))
                    clear c79
                    replace H := Option.bind_eq_some_iff.mp H
                    obtain ⟨t118, A800, H⟩ := H
                    replace H : (if t118 = true then (some x7_30) else (some false)) = some r := H
                    have A80 := Aside0.mk A800
                    clear A800
                    by_cases c81 : t118 = true
                    · subst c81
                      have H1 : (some x7_30) = some r := by rw [if_pos rfl] at H; exact H
                      clear H
                      have H := H1
                      clear H1
                      obtain rfl := Option.some.inj H
                      have hnb82 := NB112_111.out
                      have hnc82 := NB111_112.out
                      have hnb83 := NB112_113.out
                      have hnc83 := NB113_112.out
                      have hcz84_0 : wc.cell? ⟨gb112, 0, none⟩ = some (.bool false) := (blk_cell BK112.out 0).trans rfl
                      have hcz84_1 : wc.cell? ⟨gb112, 1, none⟩ = some (.int .i64 a1_1) := (blk_cell BK112.out 1).trans rfl
                      have hcz84_2 : wc.cell? ⟨gb112, 2, none⟩ = some (.string a1_2) := (blk_cell BK112.out 2).trans rfl
                      have hcz84_3 : wc.cell? ⟨gb112, 3, none⟩ = some (.string a1_3) := (blk_cell BK112.out 3).trans rfl
                      have hcz84_4 : wc.cell? ⟨gb112, 4, none⟩ = some (.bool a1_4) := (blk_cell BK112.out 4).trans rfl
                      have hcz84_5 : wc.cell? ⟨gb112, 5, none⟩ = some (.int .u32 a1_5) := (blk_cell BK112.out 5).trans rfl
                      have hcz84_6 : wc.cell? ⟨gb112, 6, none⟩ = some (.int .i64 a1_6) := (blk_cell BK112.out 6).trans rfl
                      have hfz84_0 := blk_frozen BK112.out 0
                      have hfz84_1 := blk_frozen BK112.out 1
                      have hfz84_2 := blk_frozen BK112.out 2
                      have hfz84_3 := blk_frozen BK112.out 3
                      have hfz84_4 := blk_frozen BK112.out 4
                      have hfz84_5 := blk_frozen BK112.out 5
                      have hfz84_6 := blk_frozen BK112.out 6
                      have hnb85 := NB113_111.out
                      have hnc85 := NB111_113.out
                      have hcz86_0 : wc.cell? ⟨gb113, 0, none⟩ = some (.bool false) := (blk_cell BK113.out 0).trans rfl
                      have hcz86_1 : wc.cell? ⟨gb113, 1, none⟩ = some (.int .i64 a2_1) := (blk_cell BK113.out 1).trans rfl
                      have hcz86_2 : wc.cell? ⟨gb113, 2, none⟩ = some (.string a2_2) := (blk_cell BK113.out 2).trans rfl
                      have hcz86_3 : wc.cell? ⟨gb113, 3, none⟩ = some (.string a2_3) := (blk_cell BK113.out 3).trans rfl
                      have hcz86_4 : wc.cell? ⟨gb113, 4, none⟩ = some (.bool a2_4) := (blk_cell BK113.out 4).trans rfl
                      have hcz86_5 : wc.cell? ⟨gb113, 5, none⟩ = some (.int .u32 a2_5) := (blk_cell BK113.out 5).trans rfl
                      have hcz86_6 : wc.cell? ⟨gb113, 6, none⟩ = some (.int .i64 a2_6) := (blk_cell BK113.out 6).trans rfl
                      have hfz86_0 := blk_frozen BK113.out 0
                      have hfz86_1 := blk_frozen BK113.out 1
                      have hfz86_2 := blk_frozen BK113.out 2
                      have hfz86_3 := blk_frozen BK113.out 3
                      have hfz86_4 := blk_frozen BK113.out 4
                      have hfz86_5 := blk_frozen BK113.out 5
                      have hfz86_6 := blk_frozen BK113.out 6
                      go_wp2_with (first | ((with_reducible refine gate_callee (f := 28) rfl ?_); refine goesL_ (some 40) rfl rfl Tryz.func28 (by kernel_rfl) rfl #[.agg #[.bool false, .int .i64 a1_1, .string a1_2, .string a1_3, .bool a1_4, .int .u32 a1_5, .int .i64 a1_6], .agg #[.bool false, .int .i64 a2_1, .string a2_2, .string a2_3, .bool a2_4, .int .u32 a2_5, .int .i64 a2_6]] rfl (by (try simp only [List.map_toArray, List.map_cons, List.map_nil]); first | done | rfl | (simp only [List.length_drop, List.length_take]; rfl)) ?_; (with_reducible refine (origin_Same.calls false a1_1 a1_2 a1_3 a1_4 a1_5 a1_6 false a2_1 a2_2 a2_3 a2_4 a2_5 a2_6 false _ A63.out).mono ?_); rintro e w87 ⟨rfl, hb⟩; refine ⟨_, rfl, ?_⟩; have n0_ := Aside0.mk (blk_below (g := gb111) (o := .cells #[.int .i64 a0_0, .string a0_1, .string a0_2, .int .i64 a0_3] 99 (0, 0)) (by (with_reducible repeat (first | refine blk_drewN ?_ _ | refine blk_drew ?_ | refine blk_alloc ?_ _)); exact BK111.out) hb); have n1_ := Aside0.mk (blk_below (g := gb112) (o := .cells #[.bool false, .int .i64 a1_1, .string a1_2, .string a1_3, .bool a1_4, .int .u32 a1_5, .int .i64 a1_6] 31 (0, 0)) (by (with_reducible repeat (first | refine blk_drewN ?_ _ | refine blk_drew ?_ | refine blk_alloc ?_ _)); exact BK112.out) hb); have n2_ := Aside0.mk (blk_below (g := gb113) (o := .cells #[.bool false, .int .i64 a2_1, .string a2_2, .string a2_3, .bool a2_4, .int .u32 a2_5, .int .i64 a2_6] 31 (0, 0)) (by (with_reducible repeat (first | refine blk_drewN ?_ _ | refine blk_drew ?_ | refine blk_alloc ?_ _)); exact BK113.out) hb); have n3_ := Aside0.mk (below_step (by repeat (first | (with_reducible first | exact HB.out | apply below_alloc | apply pw_below_drewN | apply below_drew1 | refine below_set ?_ GE111.out | refine below_set ?_ GE112.out | refine below_set ?_ GE113.out) | exact HB.out)) hb); clear BK111; clear BK112; clear BK113; clear HB; have BK111 := n0_; have BK112 := n1_; have BK113 := n2_; have HB := n3_; clear n0_ n1_ n2_ n3_; (try clear hb); (try clear hb2); (try clear hk); (try clear hi); have hcz88_0 : w87.cell? ⟨gb113, 0, none⟩ = some (.bool false) := (blk_cell BK113.out 0).trans rfl; have hcz88_1 : w87.cell? ⟨gb113, 1, none⟩ = some (.int .i64 a2_1) := (blk_cell BK113.out 1).trans rfl; have hcz88_2 : w87.cell? ⟨gb113, 2, none⟩ = some (.string a2_2) := (blk_cell BK113.out 2).trans rfl; have hcz88_3 : w87.cell? ⟨gb113, 3, none⟩ = some (.string a2_3) := (blk_cell BK113.out 3).trans rfl; have hcz88_4 : w87.cell? ⟨gb113, 4, none⟩ = some (.bool a2_4) := (blk_cell BK113.out 4).trans rfl; have hcz88_5 : w87.cell? ⟨gb113, 5, none⟩ = some (.int .u32 a2_5) := (blk_cell BK113.out 5).trans rfl; have hcz88_6 : w87.cell? ⟨gb113, 6, none⟩ = some (.int .i64 a2_6) := (blk_cell BK113.out 6).trans rfl; have hfz88_0 := blk_frozen BK113.out 0; have hfz88_1 := blk_frozen BK113.out 1; have hfz88_2 := blk_frozen BK113.out 2; have hfz88_3 := blk_frozen BK113.out 3; have hfz88_4 := blk_frozen BK113.out 4; have hfz88_5 := blk_frozen BK113.out 5; have hfz88_6 := blk_frozen BK113.out 6; have hcz89_0 : w87.cell? ⟨gb112, 0, none⟩ = some (.bool false) := (blk_cell BK112.out 0).trans rfl; have hcz89_1 : w87.cell? ⟨gb112, 1, none⟩ = some (.int .i64 a1_1) := (blk_cell BK112.out 1).trans rfl; have hcz89_2 : w87.cell? ⟨gb112, 2, none⟩ = some (.string a1_2) := (blk_cell BK112.out 2).trans rfl; have hcz89_3 : w87.cell? ⟨gb112, 3, none⟩ = some (.string a1_3) := (blk_cell BK112.out 3).trans rfl; have hcz89_4 : w87.cell? ⟨gb112, 4, none⟩ = some (.bool a1_4) := (blk_cell BK112.out 4).trans rfl; have hcz89_5 : w87.cell? ⟨gb112, 5, none⟩ = some (.int .u32 a1_5) := (blk_cell BK112.out 5).trans rfl; have hcz89_6 : w87.cell? ⟨gb112, 6, none⟩ = some (.int .i64 a1_6) := (blk_cell BK112.out 6).trans rfl; have hfz89_0 := blk_frozen BK112.out 0; have hfz89_1 := blk_frozen BK112.out 1; have hfz89_2 := blk_frozen BK112.out 2; have hfz89_3 := blk_frozen BK112.out 3; have hfz89_4 := blk_frozen BK112.out 4; have hfz89_5 := blk_frozen BK112.out 5; have hfz89_6 := blk_frozen BK112.out 6) | (go_at_call 83; (with_reducible refine (cspmatch_together.calls a2_2 a1_2 true _ A80.out).mono ?_); rintro e w' ⟨rfl, ⟨nd, rfl⟩⟩))
                      go_ret
                      exact ⟨by first | rfl | (simp [errW_none, errW_some] <;> rfl) | (simp [*, errW_none, errW_some] <;> rfl), by repeat (first | (with_reducible first | exact HB.out | apply below_alloc | apply pw_below_drewN | apply below_drew1 | refine below_set ?_ GE111.out | refine below_set ?_ GE112.out | refine below_set ?_ GE113.out) | exact HB.out)⟩
                    · replace c81 := Bool.eq_false_iff.mpr c81
                      subst c81
                      have H1 : (some false) = some r := by rw [if_neg (show ¬ (false = true) by decide)] at H; exact H
                      clear H
                      have H := H1
                      clear H1
                      obtain rfl := Option.some.inj H
                      have hnb90 := NB112_111.out
                      have hnc90 := NB111_112.out
                      have hnb91 := NB112_113.out
                      have hnc91 := NB113_112.out
                      have hcz92_0 : wc.cell? ⟨gb112, 0, none⟩ = some (.bool false) := (blk_cell BK112.out 0).trans rfl
                      have hcz92_1 : wc.cell? ⟨gb112, 1, none⟩ = some (.int .i64 a1_1) := (blk_cell BK112.out 1).trans rfl
                      have hcz92_2 : wc.cell? ⟨gb112, 2, none⟩ = some (.string a1_2) := (blk_cell BK112.out 2).trans rfl
                      have hcz92_3 : wc.cell? ⟨gb112, 3, none⟩ = some (.string a1_3) := (blk_cell BK112.out 3).trans rfl
                      have hcz92_4 : wc.cell? ⟨gb112, 4, none⟩ = some (.bool a1_4) := (blk_cell BK112.out 4).trans rfl
                      have hcz92_5 : wc.cell? ⟨gb112, 5, none⟩ = some (.int .u32 a1_5) := (blk_cell BK112.out 5).trans rfl
                      have hcz92_6 : wc.cell? ⟨gb112, 6, none⟩ = some (.int .i64 a1_6) := (blk_cell BK112.out 6).trans rfl
                      have hfz92_0 := blk_frozen BK112.out 0
                      have hfz92_1 := blk_frozen BK112.out 1
                      have hfz92_2 := blk_frozen BK112.out 2
                      have hfz92_3 := blk_frozen BK112.out 3
                      have hfz92_4 := blk_frozen BK112.out 4
                      have hfz92_5 := blk_frozen BK112.out 5
                      have hfz92_6 := blk_frozen BK112.out 6
                      have hnb93 := NB113_111.out
                      have hnc93 := NB111_113.out
                      have hcz94_0 : wc.cell? ⟨gb113, 0, none⟩ = some (.bool false) := (blk_cell BK113.out 0).trans rfl
                      have hcz94_1 : wc.cell? ⟨gb113, 1, none⟩ = some (.int .i64 a2_1) := (blk_cell BK113.out 1).trans rfl
                      have hcz94_2 : wc.cell? ⟨gb113, 2, none⟩ = some (.string a2_2) := (blk_cell BK113.out 2).trans rfl
                      have hcz94_3 : wc.cell? ⟨gb113, 3, none⟩ = some (.string a2_3) := (blk_cell BK113.out 3).trans rfl
                      have hcz94_4 : wc.cell? ⟨gb113, 4, none⟩ = some (.bool a2_4) := (blk_cell BK113.out 4).trans rfl
                      have hcz94_5 : wc.cell? ⟨gb113, 5, none⟩ = some (.int .u32 a2_5) := (blk_cell BK113.out 5).trans rfl
                      have hcz94_6 : wc.cell? ⟨gb113, 6, none⟩ = some (.int .i64 a2_6) := (blk_cell BK113.out 6).trans rfl
                      have hfz94_0 := blk_frozen BK113.out 0
                      have hfz94_1 := blk_frozen BK113.out 1
                      have hfz94_2 := blk_frozen BK113.out 2
                      have hfz94_3 := blk_frozen BK113.out 3
                      have hfz94_4 := blk_frozen BK113.out 4
                      have hfz94_5 := blk_frozen BK113.out 5
                      have hfz94_6 := blk_frozen BK113.out 6
                      go_wp2_with (first | ((with_reducible refine gate_callee (f := 28) rfl ?_); refine goesL_ (some 40) rfl rfl Tryz.func28 (by kernel_rfl) rfl #[.agg #[.bool false, .int .i64 a1_1, .string a1_2, .string a1_3, .bool a1_4, .int .u32 a1_5, .int .i64 a1_6], .agg #[.bool false, .int .i64 a2_1, .string a2_2, .string a2_3, .bool a2_4, .int .u32 a2_5, .int .i64 a2_6]] rfl (by (try simp only [List.map_toArray, List.map_cons, List.map_nil]); first | done | rfl | (simp only [List.length_drop, List.length_take]; rfl)) ?_; (with_reducible refine (origin_Same.calls false a1_1 a1_2 a1_3 a1_4 a1_5 a1_6 false a2_1 a2_2 a2_3 a2_4 a2_5 a2_6 false _ A63.out).mono ?_); rintro e w95 ⟨rfl, hb⟩; refine ⟨_, rfl, ?_⟩; have n0_ := Aside0.mk (blk_below (g := gb111) (o := .cells #[.int .i64 a0_0, .string a0_1, .string a0_2, .int .i64 a0_3] 99 (0, 0)) (by (with_reducible repeat (first | refine blk_drewN ?_ _ | refine blk_drew ?_ | refine blk_alloc ?_ _)); exact BK111.out) hb); have n1_ := Aside0.mk (blk_below (g := gb112) (o := .cells #[.bool false, .int .i64 a1_1, .string a1_2, .string a1_3, .bool a1_4, .int .u32 a1_5, .int .i64 a1_6] 31 (0, 0)) (by (with_reducible repeat (first | refine blk_drewN ?_ _ | refine blk_drew ?_ | refine blk_alloc ?_ _)); exact BK112.out) hb); have n2_ := Aside0.mk (blk_below (g := gb113) (o := .cells #[.bool false, .int .i64 a2_1, .string a2_2, .string a2_3, .bool a2_4, .int .u32 a2_5, .int .i64 a2_6] 31 (0, 0)) (by (with_reducible repeat (first | refine blk_drewN ?_ _ | refine blk_drew ?_ | refine blk_alloc ?_ _)); exact BK113.out) hb); have n3_ := Aside0.mk (below_step (by repeat (first | (with_reducible first | exact HB.out | apply below_alloc | apply pw_below_drewN | apply below_drew1 | refine below_set ?_ GE111.out | refine below_set ?_ GE112.out | refine below_set ?_ GE113.out) | exact HB.out)) hb); clear BK111; clear BK112; clear BK113; clear HB; have BK111 := n0_; have BK112 := n1_; have BK113 := n2_; have HB := n3_; clear n0_ n1_ n2_ n3_; (try clear hb); (try clear hb2); (try clear hk); (try clear hi); have hcz96_0 : w95.cell? ⟨gb113, 0, none⟩ = some (.bool false) := (blk_cell BK113.out 0).trans rfl; have hcz96_1 : w95.cell? ⟨gb113, 1, none⟩ = some (.int .i64 a2_1) := (blk_cell BK113.out 1).trans rfl; have hcz96_2 : w95.cell? ⟨gb113, 2, none⟩ = some (.string a2_2) := (blk_cell BK113.out 2).trans rfl; have hcz96_3 : w95.cell? ⟨gb113, 3, none⟩ = some (.string a2_3) := (blk_cell BK113.out 3).trans rfl; have hcz96_4 : w95.cell? ⟨gb113, 4, none⟩ = some (.bool a2_4) := (blk_cell BK113.out 4).trans rfl; have hcz96_5 : w95.cell? ⟨gb113, 5, none⟩ = some (.int .u32 a2_5) := (blk_cell BK113.out 5).trans rfl; have hcz96_6 : w95.cell? ⟨gb113, 6, none⟩ = some (.int .i64 a2_6) := (blk_cell BK113.out 6).trans rfl; have hfz96_0 := blk_frozen BK113.out 0; have hfz96_1 := blk_frozen BK113.out 1; have hfz96_2 := blk_frozen BK113.out 2; have hfz96_3 := blk_frozen BK113.out 3; have hfz96_4 := blk_frozen BK113.out 4; have hfz96_5 := blk_frozen BK113.out 5; have hfz96_6 := blk_frozen BK113.out 6; have hcz97_0 : w95.cell? ⟨gb112, 0, none⟩ = some (.bool false) := (blk_cell BK112.out 0).trans rfl; have hcz97_1 : w95.cell? ⟨gb112, 1, none⟩ = some (.int .i64 a1_1) := (blk_cell BK112.out 1).trans rfl; have hcz97_2 : w95.cell? ⟨gb112, 2, none⟩ = some (.string a1_2) := (blk_cell BK112.out 2).trans rfl; have hcz97_3 : w95.cell? ⟨gb112, 3, none⟩ = some (.string a1_3) := (blk_cell BK112.out 3).trans rfl; have hcz97_4 : w95.cell? ⟨gb112, 4, none⟩ = some (.bool a1_4) := (blk_cell BK112.out 4).trans rfl; have hcz97_5 : w95.cell? ⟨gb112, 5, none⟩ = some (.int .u32 a1_5) := (blk_cell BK112.out 5).trans rfl; have hcz97_6 : w95.cell? ⟨gb112, 6, none⟩ = some (.int .i64 a1_6) := (blk_cell BK112.out 6).trans rfl; have hfz97_0 := blk_frozen BK112.out 0; have hfz97_1 := blk_frozen BK112.out 1; have hfz97_2 := blk_frozen BK112.out 2; have hfz97_3 := blk_frozen BK112.out 3; have hfz97_4 := blk_frozen BK112.out 4; have hfz97_5 := blk_frozen BK112.out 5; have hfz97_6 := blk_frozen BK112.out 6) | (go_at_call 83; (with_reducible refine (cspmatch_together.calls a2_2 a1_2 false _ A80.out).mono ?_); rintro e w' ⟨rfl, ⟨nd, rfl⟩⟩))
                      go_ret
                      exact ⟨by first | rfl | (simp [errW_none, errW_some] <;> rfl) | (simp [*, errW_none, errW_some] <;> rfl), by repeat (first | (with_reducible first | exact HB.out | apply below_alloc | apply pw_below_drewN | apply below_drew1 | refine below_set ?_ GE111.out | refine below_set ?_ GE112.out | refine below_set ?_ GE113.out) | exact HB.out)⟩
                  · rw [if_neg c79] at H
                    have c79b0 : (a2_3.toList == a1_3.toList && (a2_4 == a1_4 && (a2_5 == a1_5))) = false := by simpa using c79
                    (try (have c79b1 : decide (a2_3.toList = a1_3.toList && (a2_4 == a1_4 && (a2_5 == a1_5))) = false := by simpa using c79))
                    (try (have c79b2 : (a2_3.toList == a1_3.toList && (a2_4 == a1_4 && (a2_5 == a1_5))) = false := by simpa using c79))
                    (try (have c79b3 : ¬ (a2_3.toList = a1_3.toList && (a2_4 == a1_4 && (a2_5 == a1_5))) := by simpa using c79))
                    clear c79
                    obtain rfl := Option.some.inj H
                    have hnb98 := NB112_111.out
                    have hnc98 := NB111_112.out
                    have hnb99 := NB112_113.out
                    have hnc99 := NB113_112.out
                    have hcz100_0 : wc.cell? ⟨gb112, 0, none⟩ = some (.bool false) := (blk_cell BK112.out 0).trans rfl
                    have hcz100_1 : wc.cell? ⟨gb112, 1, none⟩ = some (.int .i64 a1_1) := (blk_cell BK112.out 1).trans rfl
                    have hcz100_2 : wc.cell? ⟨gb112, 2, none⟩ = some (.string a1_2) := (blk_cell BK112.out 2).trans rfl
                    have hcz100_3 : wc.cell? ⟨gb112, 3, none⟩ = some (.string a1_3) := (blk_cell BK112.out 3).trans rfl
                    have hcz100_4 : wc.cell? ⟨gb112, 4, none⟩ = some (.bool a1_4) := (blk_cell BK112.out 4).trans rfl
                    have hcz100_5 : wc.cell? ⟨gb112, 5, none⟩ = some (.int .u32 a1_5) := (blk_cell BK112.out 5).trans rfl
                    have hcz100_6 : wc.cell? ⟨gb112, 6, none⟩ = some (.int .i64 a1_6) := (blk_cell BK112.out 6).trans rfl
                    have hfz100_0 := blk_frozen BK112.out 0
                    have hfz100_1 := blk_frozen BK112.out 1
                    have hfz100_2 := blk_frozen BK112.out 2
                    have hfz100_3 := blk_frozen BK112.out 3
                    have hfz100_4 := blk_frozen BK112.out 4
                    have hfz100_5 := blk_frozen BK112.out 5
                    have hfz100_6 := blk_frozen BK112.out 6
                    have hnb101 := NB113_111.out
                    have hnc101 := NB111_113.out
                    have hcz102_0 : wc.cell? ⟨gb113, 0, none⟩ = some (.bool false) := (blk_cell BK113.out 0).trans rfl
                    have hcz102_1 : wc.cell? ⟨gb113, 1, none⟩ = some (.int .i64 a2_1) := (blk_cell BK113.out 1).trans rfl
                    have hcz102_2 : wc.cell? ⟨gb113, 2, none⟩ = some (.string a2_2) := (blk_cell BK113.out 2).trans rfl
                    have hcz102_3 : wc.cell? ⟨gb113, 3, none⟩ = some (.string a2_3) := (blk_cell BK113.out 3).trans rfl
                    have hcz102_4 : wc.cell? ⟨gb113, 4, none⟩ = some (.bool a2_4) := (blk_cell BK113.out 4).trans rfl
                    have hcz102_5 : wc.cell? ⟨gb113, 5, none⟩ = some (.int .u32 a2_5) := (blk_cell BK113.out 5).trans rfl
                    have hcz102_6 : wc.cell? ⟨gb113, 6, none⟩ = some (.int .i64 a2_6) := (blk_cell BK113.out 6).trans rfl
                    have hfz102_0 := blk_frozen BK113.out 0
                    have hfz102_1 := blk_frozen BK113.out 1
                    have hfz102_2 := blk_frozen BK113.out 2
                    have hfz102_3 := blk_frozen BK113.out 3
                    have hfz102_4 := blk_frozen BK113.out 4
                    have hfz102_5 := blk_frozen BK113.out 5
                    have hfz102_6 := blk_frozen BK113.out 6
                    go_wp2_with (first | ((with_reducible refine gate_callee (f := 28) rfl ?_); refine goesL_ (some 40) rfl rfl Tryz.func28 (by kernel_rfl) rfl #[.agg #[.bool false, .int .i64 a1_1, .string a1_2, .string a1_3, .bool a1_4, .int .u32 a1_5, .int .i64 a1_6], .agg #[.bool false, .int .i64 a2_1, .string a2_2, .string a2_3, .bool a2_4, .int .u32 a2_5, .int .i64 a2_6]] rfl (by (try simp only [List.map_toArray, List.map_cons, List.map_nil]); first | done | rfl | (simp only [List.length_drop, List.length_take]; rfl)) ?_; (with_reducible refine (origin_Same.calls false a1_1 a1_2 a1_3 a1_4 a1_5 a1_6 false a2_1 a2_2 a2_3 a2_4 a2_5 a2_6 false _ A63.out).mono ?_); rintro e w103 ⟨rfl, hb⟩; refine ⟨_, rfl, ?_⟩; have n0_ := Aside0.mk (blk_below (g := gb111) (o := .cells #[.int .i64 a0_0, .string a0_1, .string a0_2, .int .i64 a0_3] 99 (0, 0)) (by (with_reducible repeat (first | refine blk_drewN ?_ _ | refine blk_drew ?_ | refine blk_alloc ?_ _)); exact BK111.out) hb); have n1_ := Aside0.mk (blk_below (g := gb112) (o := .cells #[.bool false, .int .i64 a1_1, .string a1_2, .string a1_3, .bool a1_4, .int .u32 a1_5, .int .i64 a1_6] 31 (0, 0)) (by (with_reducible repeat (first | refine blk_drewN ?_ _ | refine blk_drew ?_ | refine blk_alloc ?_ _)); exact BK112.out) hb); have n2_ := Aside0.mk (blk_below (g := gb113) (o := .cells #[.bool false, .int .i64 a2_1, .string a2_2, .string a2_3, .bool a2_4, .int .u32 a2_5, .int .i64 a2_6] 31 (0, 0)) (by (with_reducible repeat (first | refine blk_drewN ?_ _ | refine blk_drew ?_ | refine blk_alloc ?_ _)); exact BK113.out) hb); have n3_ := Aside0.mk (below_step (by repeat (first | (with_reducible first | exact HB.out | apply below_alloc | apply pw_below_drewN | apply below_drew1 | refine below_set ?_ GE111.out | refine below_set ?_ GE112.out | refine below_set ?_ GE113.out) | exact HB.out)) hb); clear BK111; clear BK112; clear BK113; clear HB; have BK111 := n0_; have BK112 := n1_; have BK113 := n2_; have HB := n3_; clear n0_ n1_ n2_ n3_; (try clear hb); (try clear hb2); (try clear hk); (try clear hi); have hcz104_0 : w103.cell? ⟨gb113, 0, none⟩ = some (.bool false) := (blk_cell BK113.out 0).trans rfl; have hcz104_1 : w103.cell? ⟨gb113, 1, none⟩ = some (.int .i64 a2_1) := (blk_cell BK113.out 1).trans rfl; have hcz104_2 : w103.cell? ⟨gb113, 2, none⟩ = some (.string a2_2) := (blk_cell BK113.out 2).trans rfl; have hcz104_3 : w103.cell? ⟨gb113, 3, none⟩ = some (.string a2_3) := (blk_cell BK113.out 3).trans rfl; have hcz104_4 : w103.cell? ⟨gb113, 4, none⟩ = some (.bool a2_4) := (blk_cell BK113.out 4).trans rfl; have hcz104_5 : w103.cell? ⟨gb113, 5, none⟩ = some (.int .u32 a2_5) := (blk_cell BK113.out 5).trans rfl; have hcz104_6 : w103.cell? ⟨gb113, 6, none⟩ = some (.int .i64 a2_6) := (blk_cell BK113.out 6).trans rfl; have hfz104_0 := blk_frozen BK113.out 0; have hfz104_1 := blk_frozen BK113.out 1; have hfz104_2 := blk_frozen BK113.out 2; have hfz104_3 := blk_frozen BK113.out 3; have hfz104_4 := blk_frozen BK113.out 4; have hfz104_5 := blk_frozen BK113.out 5; have hfz104_6 := blk_frozen BK113.out 6; have hcz105_0 : w103.cell? ⟨gb112, 0, none⟩ = some (.bool false) := (blk_cell BK112.out 0).trans rfl; have hcz105_1 : w103.cell? ⟨gb112, 1, none⟩ = some (.int .i64 a1_1) := (blk_cell BK112.out 1).trans rfl; have hcz105_2 : w103.cell? ⟨gb112, 2, none⟩ = some (.string a1_2) := (blk_cell BK112.out 2).trans rfl; have hcz105_3 : w103.cell? ⟨gb112, 3, none⟩ = some (.string a1_3) := (blk_cell BK112.out 3).trans rfl; have hcz105_4 : w103.cell? ⟨gb112, 4, none⟩ = some (.bool a1_4) := (blk_cell BK112.out 4).trans rfl; have hcz105_5 : w103.cell? ⟨gb112, 5, none⟩ = some (.int .u32 a1_5) := (blk_cell BK112.out 5).trans rfl; have hcz105_6 : w103.cell? ⟨gb112, 6, none⟩ = some (.int .i64 a1_6) := (blk_cell BK112.out 6).trans rfl; have hfz105_0 := blk_frozen BK112.out 0; have hfz105_1 := blk_frozen BK112.out 1; have hfz105_2 := blk_frozen BK112.out 2; have hfz105_3 := blk_frozen BK112.out 3; have hfz105_4 := blk_frozen BK112.out 4; have hfz105_5 := blk_frozen BK112.out 5; have hfz105_6 := blk_frozen BK112.out 6))
                    go_ret
                    exact ⟨by first | rfl | (simp [errW_none, errW_some] <;> rfl) | (simp [*, errW_none, errW_some] <;> rfl), by repeat (first | (with_reducible first | exact HB.out | apply below_alloc | apply pw_below_drewN | apply below_drew1 | refine below_set ?_ GE111.out | refine below_set ?_ GE112.out | refine below_set ?_ GE113.out) | exact HB.out)⟩
        · rw [if_neg c30] at H
          have c30b0 : (a0_0 == 1) = false := beq_eq_false_iff_ne.mpr c30
          have c30b1 : (a0_0 != 1) = true := bne_iff_ne.mpr c30
          by_cases c106 : a0_0 = 4
          · rw [if_pos c106] at H
            have c106b0 : (a0_0 == 4) = true := beq_iff_eq.mpr c106
            have c106b1 : (a0_0 != 4) = false := bne_eq_false_iff_eq.mpr c106
            clear c106
            have HC107 := Aside0.mk H
            clear H
            go_enter Tryz.func66, Tryz.ntmps66
            go_upto_region 12 with (first | ((with_reducible refine gate_dst (N := 3) rfl ?_); refine box_event ?hg (N := 3) ?hd (cs := #[.int .i64 a0_0, .string a0_1, .string a0_2, .int .i64 a0_3]) (t := 99) ?hr ?_; (case hd => rfl); (case hg => rfl); (case hr => first | (go_simp; done) | (go_simp; rfl)); intro gb111 hg w108 hbox hb; have n0_ := Aside0.mk (below_step (by repeat (first | (with_reducible first | exact HB.out | apply below_alloc | apply pw_below_drewN | apply below_drew1) | exact HB.out)) hb); have n1_ := Aside0.mk (hbox); have n2_ := Aside0.mk ((by rw [hg]; exact (below_size (by repeat (first | (with_reducible first | exact HB.out | apply below_alloc | apply pw_below_drewN | apply below_drew1) | exact HB.out))) : w.heap.size ≤ gb111)); have n3_ := Aside0.mk ((by rw [hg]; exact (below_size (by repeat (first | (with_reducible first | exact HB.out | apply below_alloc | apply pw_below_drewN | apply below_drew1) | exact HB.out))) : w.heap.size ≤ gb111)); clear HB; have HB := n0_; have BK111 := n1_; have GW111 := n2_; have GE111 := n3_; clear n0_ n1_ n2_ n3_; clear hb hbox hg) | ((with_reducible refine gate_dst (N := 4) rfl ?_); refine box_event ?hg (N := 4) ?hd (cs := #[.bool false, .int .i64 a1_1, .string a1_2, .string a1_3, .bool a1_4, .int .u32 a1_5, .int .i64 a1_6]) (t := 31) ?hr ?_; (case hd => rfl); (case hg => rfl); (case hr => first | (go_simp; done) | (go_simp; rfl)); intro gb112 hg w109 hbox hb; have n0_ := Aside0.mk (blk_below (g := gb111) (o := .cells #[.int .i64 a0_0, .string a0_1, .string a0_2, .int .i64 a0_3] 99 (0, 0)) (by (with_reducible repeat (first | refine blk_drewN ?_ _ | refine blk_drew ?_ | refine blk_alloc ?_ _)); exact BK111.out) hb); have n1_ := Aside0.mk (below_step (by repeat (first | (with_reducible first | exact HB.out | apply below_alloc | apply pw_below_drewN | apply below_drew1 | refine below_set ?_ GE111.out) | exact HB.out)) hb); have n2_ := Aside0.mk (hbox); have n3_ := Aside0.mk ((by rw [hg]; exact (below_size (by repeat (first | (with_reducible first | exact HB.out | apply below_alloc | apply pw_below_drewN | apply below_drew1 | refine below_set ?_ GE111.out) | exact HB.out))) : w.heap.size ≤ gb112)); have n4_ := Aside0.mk ((by rw [hg]; exact (below_size (by repeat (first | (with_reducible first | exact HB.out | apply below_alloc | apply pw_below_drewN | apply below_drew1 | refine below_set ?_ GE111.out) | exact HB.out))) : w.heap.size ≤ gb112)); have n5_ := Aside0.mk ((by rw [hg]; exact Nat.ne_of_lt (blk_lt (g := gb111) (o := .cells #[.int .i64 a0_0, .string a0_1, .string a0_2, .int .i64 a0_3] 99 (0, 0)) (by (with_reducible repeat (first | refine blk_drewN ?_ _ | refine blk_drew ?_ | refine blk_alloc ?_ _)); exact BK111.out)) : gb111 ≠ gb112)); have n6_ := Aside0.mk ((by rw [hg]; exact Nat.ne_of_gt (blk_lt (g := gb111) (o := .cells #[.int .i64 a0_0, .string a0_1, .string a0_2, .int .i64 a0_3] 99 (0, 0)) (by (with_reducible repeat (first | refine blk_drewN ?_ _ | refine blk_drew ?_ | refine blk_alloc ?_ _)); exact BK111.out)) : gb112 ≠ gb111)); clear BK111; clear HB; have BK111 := n0_; have HB := n1_; have BK112 := n2_; have GW112 := n3_; have GE112 := n4_; have NB111_112 := n5_; have NB112_111 := n6_; clear n0_ n1_ n2_ n3_ n4_ n5_ n6_; clear hb hbox hg) | ((with_reducible refine gate_dst (N := 5) rfl ?_); refine box_event ?hg (N := 5) ?hd (cs := #[.bool a2_0, .int .i64 a2_1, .string a2_2, .string a2_3, .bool a2_4, .int .u32 a2_5, .int .i64 a2_6]) (t := 31) ?hr ?_; (case hd => rfl); (case hg => rfl); (case hr => first | (go_simp; done) | (go_simp; rfl)); intro gb113 hg w110 hbox hb; have n0_ := Aside0.mk (blk_below (g := gb111) (o := .cells #[.int .i64 a0_0, .string a0_1, .string a0_2, .int .i64 a0_3] 99 (0, 0)) (by (with_reducible repeat (first | refine blk_drewN ?_ _ | refine blk_drew ?_ | refine blk_alloc ?_ _)); exact BK111.out) hb); have n1_ := Aside0.mk (blk_below (g := gb112) (o := .cells #[.bool false, .int .i64 a1_1, .string a1_2, .string a1_3, .bool a1_4, .int .u32 a1_5, .int .i64 a1_6] 31 (0, 0)) (by (with_reducible repeat (first | refine blk_drewN ?_ _ | refine blk_drew ?_ | refine blk_alloc ?_ _)); exact BK112.out) hb); have n2_ := Aside0.mk (below_step (by repeat (first | (with_reducible first | exact HB.out | apply below_alloc | apply pw_below_drewN | apply below_drew1 | refine below_set ?_ GE111.out | refine below_set ?_ GE112.out) | exact HB.out)) hb); have n3_ := Aside0.mk (hbox); have n4_ := Aside0.mk ((by rw [hg]; exact (below_size (by repeat (first | (with_reducible first | exact HB.out | apply below_alloc | apply pw_below_drewN | apply below_drew1 | refine below_set ?_ GE111.out | refine below_set ?_ GE112.out) | exact HB.out))) : w.heap.size ≤ gb113)); have n5_ := Aside0.mk ((by rw [hg]; exact (below_size (by repeat (first | (with_reducible first | exact HB.out | apply below_alloc | apply pw_below_drewN | apply below_drew1 | refine below_set ?_ GE111.out | refine below_set ?_ GE112.out) | exact HB.out))) : w.heap.size ≤ gb113)); have n6_ := Aside0.mk ((by rw [hg]; exact Nat.ne_of_lt (blk_lt (g := gb111) (o := .cells #[.int .i64 a0_0, .string a0_1, .string a0_2, .int .i64 a0_3] 99 (0, 0)) (by (with_reducible repeat (first | refine blk_drewN ?_ _ | refine blk_drew ?_ | refine blk_alloc ?_ _)); exact BK111.out)) : gb111 ≠ gb113)); have n7_ := Aside0.mk ((by rw [hg]; exact Nat.ne_of_gt (blk_lt (g := gb111) (o := .cells #[.int .i64 a0_0, .string a0_1, .string a0_2, .int .i64 a0_3] 99 (0, 0)) (by (with_reducible repeat (first | refine blk_drewN ?_ _ | refine blk_drew ?_ | refine blk_alloc ?_ _)); exact BK111.out)) : gb113 ≠ gb111)); have n8_ := Aside0.mk ((by rw [hg]; exact Nat.ne_of_lt (blk_lt (g := gb112) (o := .cells #[.bool false, .int .i64 a1_1, .string a1_2, .string a1_3, .bool a1_4, .int .u32 a1_5, .int .i64 a1_6] 31 (0, 0)) (by (with_reducible repeat (first | refine blk_drewN ?_ _ | refine blk_drew ?_ | refine blk_alloc ?_ _)); exact BK112.out)) : gb112 ≠ gb113)); have n9_ := Aside0.mk ((by rw [hg]; exact Nat.ne_of_gt (blk_lt (g := gb112) (o := .cells #[.bool false, .int .i64 a1_1, .string a1_2, .string a1_3, .bool a1_4, .int .u32 a1_5, .int .i64 a1_6] 31 (0, 0)) (by (with_reducible repeat (first | refine blk_drewN ?_ _ | refine blk_drew ?_ | refine blk_alloc ?_ _)); exact BK112.out)) : gb113 ≠ gb112)); clear BK111; clear BK112; clear HB; have BK111 := n0_; have BK112 := n1_; have HB := n2_; have BK113 := n3_; have GW113 := n4_; have GE113 := n5_; have NB111_113 := n6_; have NB113_111 := n7_; have NB112_113 := n8_; have NB113_112 := n9_; clear n0_ n1_ n2_ n3_ n4_ n5_ n6_ n7_ n8_ n9_; clear hb hbox hg; have hnb111 := NB112_111.out; have hnc111 := NB111_112.out; have hnb112 := NB112_113.out; have hnc112 := NB113_112.out; have hcz113_0 : w110.cell? ⟨gb112, 0, none⟩ = some (.bool false) := (blk_cell BK112.out 0).trans rfl; have hcz113_1 : w110.cell? ⟨gb112, 1, none⟩ = some (.int .i64 a1_1) := (blk_cell BK112.out 1).trans rfl; have hcz113_2 : w110.cell? ⟨gb112, 2, none⟩ = some (.string a1_2) := (blk_cell BK112.out 2).trans rfl; have hcz113_3 : w110.cell? ⟨gb112, 3, none⟩ = some (.string a1_3) := (blk_cell BK112.out 3).trans rfl; have hcz113_4 : w110.cell? ⟨gb112, 4, none⟩ = some (.bool a1_4) := (blk_cell BK112.out 4).trans rfl; have hcz113_5 : w110.cell? ⟨gb112, 5, none⟩ = some (.int .u32 a1_5) := (blk_cell BK112.out 5).trans rfl; have hcz113_6 : w110.cell? ⟨gb112, 6, none⟩ = some (.int .i64 a1_6) := (blk_cell BK112.out 6).trans rfl; have hfz113_0 := blk_frozen BK112.out 0; have hfz113_1 := blk_frozen BK112.out 1; have hfz113_2 := blk_frozen BK112.out 2; have hfz113_3 := blk_frozen BK112.out 3; have hfz113_4 := blk_frozen BK112.out 4; have hfz113_5 := blk_frozen BK112.out 5; have hfz113_6 := blk_frozen BK112.out 6; have hnb114 := NB111_113.out; have hnc114 := NB113_111.out; have hcz115_0 : w110.cell? ⟨gb111, 0, none⟩ = some (.int .i64 a0_0) := (blk_cell BK111.out 0).trans rfl; have hcz115_1 : w110.cell? ⟨gb111, 1, none⟩ = some (.string a0_1) := (blk_cell BK111.out 1).trans rfl; have hcz115_2 : w110.cell? ⟨gb111, 2, none⟩ = some (.string a0_2) := (blk_cell BK111.out 2).trans rfl; have hcz115_3 : w110.cell? ⟨gb111, 3, none⟩ = some (.int .i64 a0_3) := (blk_cell BK111.out 3).trans rfl; have hfz115_0 := blk_frozen BK111.out 0; have hfz115_1 := blk_frozen BK111.out 1; have hfz115_2 := blk_frozen BK111.out 2; have hfz115_3 := blk_frozen BK111.out 3))
            (try simp only [Act.put, List.setIfInBounds_toArray, List.set_cons_zero, List.set_cons_succ])
            go_cut [8] (fun v8 wc => ∃ (kq : Nat) (x8_106 : Bool), v8 = .bool x8_106 ∧ Aside0 (cspmatch_Match.j1 kq x8_106 a0_0 a0_1 a0_2 a0_3 false a1_1 a1_2 a1_3 a1_4 a1_5 a1_6 a2_0 a2_1 a2_2 a2_3 a2_4 a2_5 a2_6 = some r) ∧ Aside0 (kq ≤ k) ∧ Aside0 (wc.heap[gb111]? = some (.cells #[.int .i64 a0_0, .string a0_1, .string a0_2, .int .i64 a0_3] 99 (0, 0))) ∧ Aside0 (wc.heap[gb112]? = some (.cells #[.bool false, .int .i64 a1_1, .string a1_2, .string a1_3, .bool a1_4, .int .u32 a1_5, .int .i64 a1_6] 31 (0, 0))) ∧ Aside0 (wc.heap[gb113]? = some (.cells #[.bool a2_0, .int .i64 a2_1, .string a2_2, .string a2_3, .bool a2_4, .int .u32 a2_5, .int .i64 a2_6] 31 (0, 0))) ∧ Aside0 (Below w.heap.size w wc))
            case first =>
              have H := HC107.out
              clear HC107
              by_cases c116 : a1_2.toList = ([104, 116, 116, 112] : List UInt8)
              · rw [if_pos c116] at H
                have c116b0 : (a1_2.toList == ([104, 116, 116, 112] : List UInt8)) = true := beq_iff_eq.mpr c116
                have c116b1 : (a1_2.toList != ([104, 116, 116, 112] : List UInt8)) = false := bne_eq_false_iff_eq.mpr c116
                clear c116
                (first | rw [c116b0] | (simp only [i64_w, i32_w]; rw [c116b0]) | skip)
                have H' := Aside0.mk H
                clear H
                have hnb117 := NB112_111.out
                have hnc117 := NB111_112.out
                have hnb118 := NB112_113.out
                have hnc118 := NB113_112.out
                have hcz119_0 : w110.cell? ⟨gb112, 0, none⟩ = some (.bool false) := (blk_cell BK112.out 0).trans rfl
                have hcz119_1 : w110.cell? ⟨gb112, 1, none⟩ = some (.int .i64 a1_1) := (blk_cell BK112.out 1).trans rfl
                have hcz119_2 : w110.cell? ⟨gb112, 2, none⟩ = some (.string a1_2) := (blk_cell BK112.out 2).trans rfl
                have hcz119_3 : w110.cell? ⟨gb112, 3, none⟩ = some (.string a1_3) := (blk_cell BK112.out 3).trans rfl
                have hcz119_4 : w110.cell? ⟨gb112, 4, none⟩ = some (.bool a1_4) := (blk_cell BK112.out 4).trans rfl
                have hcz119_5 : w110.cell? ⟨gb112, 5, none⟩ = some (.int .u32 a1_5) := (blk_cell BK112.out 5).trans rfl
                have hcz119_6 : w110.cell? ⟨gb112, 6, none⟩ = some (.int .i64 a1_6) := (blk_cell BK112.out 6).trans rfl
                have hfz119_0 := blk_frozen BK112.out 0
                have hfz119_1 := blk_frozen BK112.out 1
                have hfz119_2 := blk_frozen BK112.out 2
                have hfz119_3 := blk_frozen BK112.out 3
                have hfz119_4 := blk_frozen BK112.out 4
                have hfz119_5 := blk_frozen BK112.out 5
                have hfz119_6 := blk_frozen BK112.out 6
                go_wp2
                go_meet
                case rel => exact ⟨_, (true), (by first | rfl | (simp; done) | (simp [*]; done) | (simp [ne_nil_bool]; done)), H', ⟨by first | omega | exact Nat.le_refl _⟩, ⟨by (with_reducible repeat (first | refine blk_drewN ?_ _ | refine blk_drew ?_ | refine blk_alloc ?_ _)); exact BK111.out⟩, ⟨by (with_reducible repeat (first | refine blk_drewN ?_ _ | refine blk_drew ?_ | refine blk_alloc ?_ _)); exact BK112.out⟩, ⟨by (with_reducible repeat (first | refine blk_drewN ?_ _ | refine blk_drew ?_ | refine blk_alloc ?_ _)); exact BK113.out⟩, ⟨by repeat (first | (with_reducible first | exact HB.out | apply below_alloc | apply pw_below_drewN | apply below_drew1 | refine below_set ?_ GE111.out | refine below_set ?_ GE112.out | refine below_set ?_ GE113.out) | exact HB.out)⟩⟩
              · rw [if_neg c116] at H
                have c116b0 : (a1_2.toList == ([104, 116, 116, 112] : List UInt8)) = false := beq_eq_false_iff_ne.mpr c116
                have c116b1 : (a1_2.toList != ([104, 116, 116, 112] : List UInt8)) = true := bne_iff_ne.mpr c116
                (first | rw [c116b0] | (simp only [i64_w, i32_w]; rw [c116b0]) | skip)
                have H' := Aside0.mk H
                clear H
                have hnb120 := NB112_111.out
                have hnc120 := NB111_112.out
                have hnb121 := NB112_113.out
                have hnc121 := NB113_112.out
                have hcz122_0 : w110.cell? ⟨gb112, 0, none⟩ = some (.bool false) := (blk_cell BK112.out 0).trans rfl
                have hcz122_1 : w110.cell? ⟨gb112, 1, none⟩ = some (.int .i64 a1_1) := (blk_cell BK112.out 1).trans rfl
                have hcz122_2 : w110.cell? ⟨gb112, 2, none⟩ = some (.string a1_2) := (blk_cell BK112.out 2).trans rfl
                have hcz122_3 : w110.cell? ⟨gb112, 3, none⟩ = some (.string a1_3) := (blk_cell BK112.out 3).trans rfl
                have hcz122_4 : w110.cell? ⟨gb112, 4, none⟩ = some (.bool a1_4) := (blk_cell BK112.out 4).trans rfl
                have hcz122_5 : w110.cell? ⟨gb112, 5, none⟩ = some (.int .u32 a1_5) := (blk_cell BK112.out 5).trans rfl
                have hcz122_6 : w110.cell? ⟨gb112, 6, none⟩ = some (.int .i64 a1_6) := (blk_cell BK112.out 6).trans rfl
                have hfz122_0 := blk_frozen BK112.out 0
                have hfz122_1 := blk_frozen BK112.out 1
                have hfz122_2 := blk_frozen BK112.out 2
                have hfz122_3 := blk_frozen BK112.out 3
                have hfz122_4 := blk_frozen BK112.out 4
                have hfz122_5 := blk_frozen BK112.out 5
                have hfz122_6 := blk_frozen BK112.out 6
                go_wp2
                go_meet
                case rel => exact ⟨_, ((a1_2.toList == ([104, 116, 116, 112, 115] : List UInt8))), (by first | rfl | (simp; done) | (simp [*]; done) | (simp [ne_nil_bool]; done)), H', ⟨by first | omega | exact Nat.le_refl _⟩, ⟨by (with_reducible repeat (first | refine blk_drewN ?_ _ | refine blk_drew ?_ | refine blk_alloc ?_ _)); exact BK111.out⟩, ⟨by (with_reducible repeat (first | refine blk_drewN ?_ _ | refine blk_drew ?_ | refine blk_alloc ?_ _)); exact BK112.out⟩, ⟨by (with_reducible repeat (first | refine blk_drewN ?_ _ | refine blk_drew ?_ | refine blk_alloc ?_ _)); exact BK113.out⟩, ⟨by repeat (first | (with_reducible first | exact HB.out | apply below_alloc | apply pw_below_drewN | apply below_drew1 | refine below_set ?_ GE111.out | refine below_set ?_ GE112.out | refine below_set ?_ GE113.out) | exact HB.out)⟩⟩
            case rest =>
              clear HC107
              try clear c1
              try clear c2
              try clear p2
              try clear c3
              try clear c4
              try clear c5
              try clear c6
              try clear c7
              try clear c8
              try clear c9
              try clear c10
              try clear c11
              try clear c11b0
              try clear c11b1
              try clear c12
              try clear c15
              try clear c16
              try clear c18
              try clear c20
              try clear c20b0
              try clear c20b1
              try clear c25
              try clear c26
              try clear c28
              try clear c30
              try clear c30b0
              try clear c30b1
              try clear c35
              try clear c36
              try clear c38
              try clear c40
              try clear c40b0
              try clear c40b1
              try clear c41
              try clear c42
              try clear c44
              try clear c47
              try clear c49
              try clear c50
              try clear c52
              try clear c57
              try clear c58
              try clear c60
              try clear c64
              try clear c65
              try clear c66
              try clear c68
              try clear c71
              try clear c72
              try clear c73
              try clear c75
              try clear c79
              try clear c79b0
              try clear c79b1
              try clear c79b2
              try clear c81
              try clear c82
              try clear c83
              try clear c85
              try clear c90
              try clear c91
              try clear c93
              try clear c98
              try clear c99
              try clear c101
              try clear c106
              try clear c106b0
              try clear c106b1
              try clear c111
              try clear c112
              try clear c114
              try clear c116
              try clear c116b0
              try clear c116b1
              try clear c117
              try clear c118
              try clear c120
              try clear c121
              try clear hcz100_0
              try clear hcz100_1
              try clear hcz100_2
              try clear hcz100_3
              try clear hcz100_4
              try clear hcz100_5
              try clear hcz100_6
              try clear hcz102_0
              try clear hcz102_1
              try clear hcz102_2
              try clear hcz102_3
              try clear hcz102_4
              try clear hcz102_5
              try clear hcz102_6
              try clear hcz104_0
              try clear hcz104_1
              try clear hcz104_2
              try clear hcz104_3
              try clear hcz104_4
              try clear hcz104_5
              try clear hcz104_6
              try clear hcz105_0
              try clear hcz105_1
              try clear hcz105_2
              try clear hcz105_3
              try clear hcz105_4
              try clear hcz105_5
              try clear hcz105_6
              try clear hcz10_0
              try clear hcz10_1
              try clear hcz10_2
              try clear hcz10_3
              try clear hcz10_4
              try clear hcz10_5
              try clear hcz10_6
              try clear hcz113_0
              try clear hcz113_1
              try clear hcz113_2
              try clear hcz113_3
              try clear hcz113_4
              try clear hcz113_5
              try clear hcz113_6
              try clear hcz115_0
              try clear hcz115_1
              try clear hcz115_2
              try clear hcz115_3
              try clear hcz119_0
              try clear hcz119_1
              try clear hcz119_2
              try clear hcz119_3
              try clear hcz119_4
              try clear hcz119_5
              try clear hcz119_6
              try clear hcz122_0
              try clear hcz122_1
              try clear hcz122_2
              try clear hcz122_3
              try clear hcz122_4
              try clear hcz122_5
              try clear hcz122_6
              try clear hcz17_0
              try clear hcz17_1
              try clear hcz17_2
              try clear hcz17_3
              try clear hcz17_4
              try clear hcz17_5
              try clear hcz17_6
              try clear hcz19_0
              try clear hcz19_1
              try clear hcz19_2
              try clear hcz19_3
              try clear hcz27_0
              try clear hcz27_1
              try clear hcz27_2
              try clear hcz27_3
              try clear hcz27_4
              try clear hcz27_5
              try clear hcz27_6
              try clear hcz29_0
              try clear hcz29_1
              try clear hcz29_2
              try clear hcz29_3
              try clear hcz37_0
              try clear hcz37_1
              try clear hcz37_2
              try clear hcz37_3
              try clear hcz37_4
              try clear hcz37_5
              try clear hcz37_6
              try clear hcz39_0
              try clear hcz39_1
              try clear hcz39_2
              try clear hcz39_3
              try clear hcz43_0
              try clear hcz43_1
              try clear hcz43_2
              try clear hcz43_3
              try clear hcz43_4
              try clear hcz43_5
              try clear hcz43_6
              try clear hcz45_0
              try clear hcz45_1
              try clear hcz45_2
              try clear hcz45_3
              try clear hcz45_4
              try clear hcz45_5
              try clear hcz45_6
              try clear hcz51_0
              try clear hcz51_1
              try clear hcz51_2
              try clear hcz51_3
              try clear hcz51_4
              try clear hcz51_5
              try clear hcz51_6
              try clear hcz53_0
              try clear hcz53_1
              try clear hcz53_2
              try clear hcz53_3
              try clear hcz53_4
              try clear hcz53_5
              try clear hcz53_6
              try clear hcz55_0
              try clear hcz55_1
              try clear hcz55_2
              try clear hcz55_3
              try clear hcz55_4
              try clear hcz55_5
              try clear hcz55_6
              try clear hcz59_0
              try clear hcz59_1
              try clear hcz59_2
              try clear hcz59_3
              try clear hcz59_4
              try clear hcz59_5
              try clear hcz59_6
              try clear hcz61_0
              try clear hcz61_1
              try clear hcz61_2
              try clear hcz61_3
              try clear hcz61_4
              try clear hcz61_5
              try clear hcz61_6
              try clear hcz67_0
              try clear hcz67_1
              try clear hcz67_2
              try clear hcz67_3
              try clear hcz67_4
              try clear hcz67_5
              try clear hcz67_6
              try clear hcz69_0
              try clear hcz69_1
              try clear hcz69_2
              try clear hcz69_3
              try clear hcz69_4
              try clear hcz69_5
              try clear hcz69_6
              try clear hcz74_0
              try clear hcz74_1
              try clear hcz74_2
              try clear hcz74_3
              try clear hcz74_4
              try clear hcz74_5
              try clear hcz74_6
              try clear hcz76_0
              try clear hcz76_1
              try clear hcz76_2
              try clear hcz76_3
              try clear hcz76_4
              try clear hcz76_5
              try clear hcz76_6
              try clear hcz78_0
              try clear hcz78_1
              try clear hcz78_2
              try clear hcz78_3
              try clear hcz78_4
              try clear hcz78_5
              try clear hcz78_6
              try clear hcz84_0
              try clear hcz84_1
              try clear hcz84_2
              try clear hcz84_3
              try clear hcz84_4
              try clear hcz84_5
              try clear hcz84_6
              try clear hcz86_0
              try clear hcz86_1
              try clear hcz86_2
              try clear hcz86_3
              try clear hcz86_4
              try clear hcz86_5
              try clear hcz86_6
              try clear hcz88_0
              try clear hcz88_1
              try clear hcz88_2
              try clear hcz88_3
              try clear hcz88_4
              try clear hcz88_5
              try clear hcz88_6
              try clear hcz89_0
              try clear hcz89_1
              try clear hcz89_2
              try clear hcz89_3
              try clear hcz89_4
              try clear hcz89_5
              try clear hcz89_6
              try clear hcz92_0
              try clear hcz92_1
              try clear hcz92_2
              try clear hcz92_3
              try clear hcz92_4
              try clear hcz92_5
              try clear hcz92_6
              try clear hcz94_0
              try clear hcz94_1
              try clear hcz94_2
              try clear hcz94_3
              try clear hcz94_4
              try clear hcz94_5
              try clear hcz94_6
              try clear hcz96_0
              try clear hcz96_1
              try clear hcz96_2
              try clear hcz96_3
              try clear hcz96_4
              try clear hcz96_5
              try clear hcz96_6
              try clear hcz97_0
              try clear hcz97_1
              try clear hcz97_2
              try clear hcz97_3
              try clear hcz97_4
              try clear hcz97_5
              try clear hcz97_6
              try clear hfz100_0
              try clear hfz100_1
              try clear hfz100_2
              try clear hfz100_3
              try clear hfz100_4
              try clear hfz100_5
              try clear hfz100_6
              try clear hfz102_0
              try clear hfz102_1
              try clear hfz102_2
              try clear hfz102_3
              try clear hfz102_4
              try clear hfz102_5
              try clear hfz102_6
              try clear hfz104_0
              try clear hfz104_1
              try clear hfz104_2
              try clear hfz104_3
              try clear hfz104_4
              try clear hfz104_5
              try clear hfz104_6
              try clear hfz105_0
              try clear hfz105_1
              try clear hfz105_2
              try clear hfz105_3
              try clear hfz105_4
              try clear hfz105_5
              try clear hfz105_6
              try clear hfz10_0
              try clear hfz10_1
              try clear hfz10_2
              try clear hfz10_3
              try clear hfz10_4
              try clear hfz10_5
              try clear hfz10_6
              try clear hfz113_0
              try clear hfz113_1
              try clear hfz113_2
              try clear hfz113_3
              try clear hfz113_4
              try clear hfz113_5
              try clear hfz113_6
              try clear hfz115_0
              try clear hfz115_1
              try clear hfz115_2
              try clear hfz115_3
              try clear hfz119_0
              try clear hfz119_1
              try clear hfz119_2
              try clear hfz119_3
              try clear hfz119_4
              try clear hfz119_5
              try clear hfz119_6
              try clear hfz122_0
              try clear hfz122_1
              try clear hfz122_2
              try clear hfz122_3
              try clear hfz122_4
              try clear hfz122_5
              try clear hfz122_6
              try clear hfz17_0
              try clear hfz17_1
              try clear hfz17_2
              try clear hfz17_3
              try clear hfz17_4
              try clear hfz17_5
              try clear hfz17_6
              try clear hfz19_0
              try clear hfz19_1
              try clear hfz19_2
              try clear hfz19_3
              try clear hfz27_0
              try clear hfz27_1
              try clear hfz27_2
              try clear hfz27_3
              try clear hfz27_4
              try clear hfz27_5
              try clear hfz27_6
              try clear hfz29_0
              try clear hfz29_1
              try clear hfz29_2
              try clear hfz29_3
              try clear hfz37_0
              try clear hfz37_1
              try clear hfz37_2
              try clear hfz37_3
              try clear hfz37_4
              try clear hfz37_5
              try clear hfz37_6
              try clear hfz39_0
              try clear hfz39_1
              try clear hfz39_2
              try clear hfz39_3
              try clear hfz43_0
              try clear hfz43_1
              try clear hfz43_2
              try clear hfz43_3
              try clear hfz43_4
              try clear hfz43_5
              try clear hfz43_6
              try clear hfz45_0
              try clear hfz45_1
              try clear hfz45_2
              try clear hfz45_3
              try clear hfz45_4
              try clear hfz45_5
              try clear hfz45_6
              try clear hfz51_0
              try clear hfz51_1
              try clear hfz51_2
              try clear hfz51_3
              try clear hfz51_4
              try clear hfz51_5
              try clear hfz51_6
              try clear hfz53_0
              try clear hfz53_1
              try clear hfz53_2
              try clear hfz53_3
              try clear hfz53_4
              try clear hfz53_5
              try clear hfz53_6
              try clear hfz55_0
              try clear hfz55_1
              try clear hfz55_2
              try clear hfz55_3
              try clear hfz55_4
              try clear hfz55_5
              try clear hfz55_6
              try clear hfz59_0
              try clear hfz59_1
              try clear hfz59_2
              try clear hfz59_3
              try clear hfz59_4
              try clear hfz59_5
              try clear hfz59_6
              try clear hfz61_0
              try clear hfz61_1
              try clear hfz61_2
              try clear hfz61_3
              try clear hfz61_4
              try clear hfz61_5
              try clear hfz61_6
              try clear hfz67_0
              try clear hfz67_1
              try clear hfz67_2
              try clear hfz67_3
              try clear hfz67_4
              try clear hfz67_5
              try clear hfz67_6
              try clear hfz69_0
              try clear hfz69_1
              try clear hfz69_2
              try clear hfz69_3
              try clear hfz69_4
              try clear hfz69_5
              try clear hfz69_6
              try clear hfz74_0
              try clear hfz74_1
              try clear hfz74_2
              try clear hfz74_3
              try clear hfz74_4
              try clear hfz74_5
              try clear hfz74_6
              try clear hfz76_0
              try clear hfz76_1
              try clear hfz76_2
              try clear hfz76_3
              try clear hfz76_4
              try clear hfz76_5
              try clear hfz76_6
              try clear hfz78_0
              try clear hfz78_1
              try clear hfz78_2
              try clear hfz78_3
              try clear hfz78_4
              try clear hfz78_5
              try clear hfz78_6
              try clear hfz84_0
              try clear hfz84_1
              try clear hfz84_2
              try clear hfz84_3
              try clear hfz84_4
              try clear hfz84_5
              try clear hfz84_6
              try clear hfz86_0
              try clear hfz86_1
              try clear hfz86_2
              try clear hfz86_3
              try clear hfz86_4
              try clear hfz86_5
              try clear hfz86_6
              try clear hfz88_0
              try clear hfz88_1
              try clear hfz88_2
              try clear hfz88_3
              try clear hfz88_4
              try clear hfz88_5
              try clear hfz88_6
              try clear hfz89_0
              try clear hfz89_1
              try clear hfz89_2
              try clear hfz89_3
              try clear hfz89_4
              try clear hfz89_5
              try clear hfz89_6
              try clear hfz92_0
              try clear hfz92_1
              try clear hfz92_2
              try clear hfz92_3
              try clear hfz92_4
              try clear hfz92_5
              try clear hfz92_6
              try clear hfz94_0
              try clear hfz94_1
              try clear hfz94_2
              try clear hfz94_3
              try clear hfz94_4
              try clear hfz94_5
              try clear hfz94_6
              try clear hfz96_0
              try clear hfz96_1
              try clear hfz96_2
              try clear hfz96_3
              try clear hfz96_4
              try clear hfz96_5
              try clear hfz96_6
              try clear hfz97_0
              try clear hfz97_1
              try clear hfz97_2
              try clear hfz97_3
              try clear hfz97_4
              try clear hfz97_5
              try clear hfz97_6
              try clear p2
              obtain ⟨kq, x8_106, rfl, HA, HJ106, BK111, BK112, BK113, HB⟩ := hcut
              cases kq with
              | zero => exact absurd HA.out (by simp [cspmatch_Match.j1])
              | succ kj106 =>
                have H := HA.out
                clear HA
                simp only [cspmatch_Match.j1] at H
                have HC123 := Aside0.mk H
                clear H
                go_upto_block 1 with (fail)
                go_cut [8] (fun v8 wc => ∃ (kq : Nat) (x8_122 : Bool), v8 = .bool x8_122 ∧ Aside0 (cspmatch_Match.j2 kq x8_122 a0_0 a0_1 a0_2 a0_3 false a1_1 a1_2 a1_3 a1_4 a1_5 a1_6 = some r) ∧ Aside0 (kq ≤ kj106) ∧ Aside0 (wc.heap[gb111]? = some (.cells #[.int .i64 a0_0, .string a0_1, .string a0_2, .int .i64 a0_3] 99 (0, 0))) ∧ Aside0 (wc.heap[gb112]? = some (.cells #[.bool false, .int .i64 a1_1, .string a1_2, .string a1_3, .bool a1_4, .int .u32 a1_5, .int .i64 a1_6] 31 (0, 0))) ∧ Aside0 (wc.heap[gb113]? = some (.cells #[.bool a2_0, .int .i64 a2_1, .string a2_2, .string a2_3, .bool a2_4, .int .u32 a2_5, .int .i64 a2_6] 31 (0, 0))) ∧ Aside0 (Below w.heap.size w wc))
                case first =>
                  have H := HC123.out
                  clear HC123
                  by_cases c124 : a0_1.toList = ([] : List UInt8)
                  · rw [if_pos c124] at H
                    have c124b0 : (a0_1.toList == ([] : List UInt8)) = true := beq_iff_eq.mpr c124
                    have c124b1 : (a0_1.toList != ([] : List UInt8)) = false := bne_eq_false_iff_eq.mpr c124
                    clear c124
                    (first | rw [c124b0] | (simp only [i64_w, i32_w]; rw [c124b0]) | skip)
                    by_cases c125 : a2_0 = true
                    · subst c125
                      have H1 : (cspmatch_Match.j2 kj106 x8_106 a0_0 a0_1 a0_2 a0_3 false a1_1 a1_2 a1_3 a1_4 a1_5 a1_6) = some r := by rw [if_pos rfl] at H; exact H
                      clear H
                      have H := H1
                      clear H1
                      have H' := Aside0.mk H
                      clear H
                      have hnb126 := NB111_112.out
                      have hnc126 := NB112_111.out
                      have hnb127 := NB111_113.out
                      have hnc127 := NB113_111.out
                      have hcz128_0 : wc.cell? ⟨gb111, 0, none⟩ = some (.int .i64 a0_0) := (blk_cell BK111.out 0).trans rfl
                      have hcz128_1 : wc.cell? ⟨gb111, 1, none⟩ = some (.string a0_1) := (blk_cell BK111.out 1).trans rfl
                      have hcz128_2 : wc.cell? ⟨gb111, 2, none⟩ = some (.string a0_2) := (blk_cell BK111.out 2).trans rfl
                      have hcz128_3 : wc.cell? ⟨gb111, 3, none⟩ = some (.int .i64 a0_3) := (blk_cell BK111.out 3).trans rfl
                      have hfz128_0 := blk_frozen BK111.out 0
                      have hfz128_1 := blk_frozen BK111.out 1
                      have hfz128_2 := blk_frozen BK111.out 2
                      have hfz128_3 := blk_frozen BK111.out 3
                      have hnb129 := NB113_112.out
                      have hnc129 := NB112_113.out
                      have hcz130_0 : wc.cell? ⟨gb113, 0, none⟩ = some (.bool true) := (blk_cell BK113.out 0).trans rfl
                      have hcz130_1 : wc.cell? ⟨gb113, 1, none⟩ = some (.int .i64 a2_1) := (blk_cell BK113.out 1).trans rfl
                      have hcz130_2 : wc.cell? ⟨gb113, 2, none⟩ = some (.string a2_2) := (blk_cell BK113.out 2).trans rfl
                      have hcz130_3 : wc.cell? ⟨gb113, 3, none⟩ = some (.string a2_3) := (blk_cell BK113.out 3).trans rfl
                      have hcz130_4 : wc.cell? ⟨gb113, 4, none⟩ = some (.bool a2_4) := (blk_cell BK113.out 4).trans rfl
                      have hcz130_5 : wc.cell? ⟨gb113, 5, none⟩ = some (.int .u32 a2_5) := (blk_cell BK113.out 5).trans rfl
                      have hcz130_6 : wc.cell? ⟨gb113, 6, none⟩ = some (.int .i64 a2_6) := (blk_cell BK113.out 6).trans rfl
                      have hfz130_0 := blk_frozen BK113.out 0
                      have hfz130_1 := blk_frozen BK113.out 1
                      have hfz130_2 := blk_frozen BK113.out 2
                      have hfz130_3 := blk_frozen BK113.out 3
                      have hfz130_4 := blk_frozen BK113.out 4
                      have hfz130_5 := blk_frozen BK113.out 5
                      have hfz130_6 := blk_frozen BK113.out 6
                      go_wp2
                      go_meet
                      case rel => exact ⟨_, (x8_106), (by first | rfl | (simp; done) | (simp [*]; done) | (simp [ne_nil_bool]; done)), H', ⟨by have := HJ106.out; first | omega | exact Nat.le_refl _⟩, ⟨by (with_reducible repeat (first | refine blk_drewN ?_ _ | refine blk_drew ?_ | refine blk_alloc ?_ _)); exact BK111.out⟩, ⟨by (with_reducible repeat (first | refine blk_drewN ?_ _ | refine blk_drew ?_ | refine blk_alloc ?_ _)); exact BK112.out⟩, ⟨by (with_reducible repeat (first | refine blk_drewN ?_ _ | refine blk_drew ?_ | refine blk_alloc ?_ _)); exact BK113.out⟩, ⟨by repeat (first | (with_reducible first | exact HB.out | apply below_alloc | apply pw_below_drewN | apply below_drew1 | refine below_set ?_ GE111.out | refine below_set ?_ GE112.out | refine below_set ?_ GE113.out) | exact HB.out)⟩⟩
                    · replace c125 := Bool.eq_false_iff.mpr c125
                      subst c125
                      have H1 : ((cspmatch_together.f a2_2 a1_2).bind fun t119 => (cspmatch_Match.j2 kj106 t119 a0_0 a0_1 a0_2 a0_3 false a1_1 a1_2 a1_3 a1_4 a1_5 a1_6)) = some r := by rw [if_neg (show ¬ (false = true) by decide)] at H; exact H
                      clear H
                      have H := H1
                      clear H1
                      replace H := Option.bind_eq_some_iff.mp H
                      obtain ⟨t119, A1310, H⟩ := H
                      replace H : (cspmatch_Match.j2 kj106 t119 a0_0 a0_1 a0_2 a0_3 false a1_1 a1_2 a1_3 a1_4 a1_5 a1_6) = some r := H
                      have A131 := Aside0.mk A1310
                      clear A1310
                      have H' := Aside0.mk H
                      clear H
                      have hnb132 := NB111_112.out
                      have hnc132 := NB112_111.out
                      have hnb133 := NB111_113.out
                      have hnc133 := NB113_111.out
                      have hcz134_0 : wc.cell? ⟨gb111, 0, none⟩ = some (.int .i64 a0_0) := (blk_cell BK111.out 0).trans rfl
                      have hcz134_1 : wc.cell? ⟨gb111, 1, none⟩ = some (.string a0_1) := (blk_cell BK111.out 1).trans rfl
                      have hcz134_2 : wc.cell? ⟨gb111, 2, none⟩ = some (.string a0_2) := (blk_cell BK111.out 2).trans rfl
                      have hcz134_3 : wc.cell? ⟨gb111, 3, none⟩ = some (.int .i64 a0_3) := (blk_cell BK111.out 3).trans rfl
                      have hfz134_0 := blk_frozen BK111.out 0
                      have hfz134_1 := blk_frozen BK111.out 1
                      have hfz134_2 := blk_frozen BK111.out 2
                      have hfz134_3 := blk_frozen BK111.out 3
                      have hnb135 := NB113_112.out
                      have hnc135 := NB112_113.out
                      have hcz136_0 : wc.cell? ⟨gb113, 0, none⟩ = some (.bool false) := (blk_cell BK113.out 0).trans rfl
                      have hcz136_1 : wc.cell? ⟨gb113, 1, none⟩ = some (.int .i64 a2_1) := (blk_cell BK113.out 1).trans rfl
                      have hcz136_2 : wc.cell? ⟨gb113, 2, none⟩ = some (.string a2_2) := (blk_cell BK113.out 2).trans rfl
                      have hcz136_3 : wc.cell? ⟨gb113, 3, none⟩ = some (.string a2_3) := (blk_cell BK113.out 3).trans rfl
                      have hcz136_4 : wc.cell? ⟨gb113, 4, none⟩ = some (.bool a2_4) := (blk_cell BK113.out 4).trans rfl
                      have hcz136_5 : wc.cell? ⟨gb113, 5, none⟩ = some (.int .u32 a2_5) := (blk_cell BK113.out 5).trans rfl
                      have hcz136_6 : wc.cell? ⟨gb113, 6, none⟩ = some (.int .i64 a2_6) := (blk_cell BK113.out 6).trans rfl
                      have hfz136_0 := blk_frozen BK113.out 0
                      have hfz136_1 := blk_frozen BK113.out 1
                      have hfz136_2 := blk_frozen BK113.out 2
                      have hfz136_3 := blk_frozen BK113.out 3
                      have hfz136_4 := blk_frozen BK113.out 4
                      have hfz136_5 := blk_frozen BK113.out 5
                      have hfz136_6 := blk_frozen BK113.out 6
                      have hcz137_0 : wc.cell? ⟨gb112, 0, none⟩ = some (.bool false) := (blk_cell BK112.out 0).trans rfl
                      have hcz137_1 : wc.cell? ⟨gb112, 1, none⟩ = some (.int .i64 a1_1) := (blk_cell BK112.out 1).trans rfl
                      have hcz137_2 : wc.cell? ⟨gb112, 2, none⟩ = some (.string a1_2) := (blk_cell BK112.out 2).trans rfl
                      have hcz137_3 : wc.cell? ⟨gb112, 3, none⟩ = some (.string a1_3) := (blk_cell BK112.out 3).trans rfl
                      have hcz137_4 : wc.cell? ⟨gb112, 4, none⟩ = some (.bool a1_4) := (blk_cell BK112.out 4).trans rfl
                      have hcz137_5 : wc.cell? ⟨gb112, 5, none⟩ = some (.int .u32 a1_5) := (blk_cell BK112.out 5).trans rfl
                      have hcz137_6 : wc.cell? ⟨gb112, 6, none⟩ = some (.int .i64 a1_6) := (blk_cell BK112.out 6).trans rfl
                      have hfz137_0 := blk_frozen BK112.out 0
                      have hfz137_1 := blk_frozen BK112.out 1
                      have hfz137_2 := blk_frozen BK112.out 2
                      have hfz137_3 := blk_frozen BK112.out 3
                      have hfz137_4 := blk_frozen BK112.out 4
                      have hfz137_5 := blk_frozen BK112.out 5
                      have hfz137_6 := blk_frozen BK112.out 6
                      go_wp2_with (first | ((with_reducible refine gate_callee (f := 83) rfl ?_); refine goesL_ (some 90) rfl rfl Tryz.func83 (by kernel_rfl) rfl #[.string a2_2, .string a1_2] rfl (by (try simp only [List.map_toArray, List.map_cons, List.map_nil]); first | done | rfl | (simp only [List.length_drop, List.length_take]; rfl)) ?_; (with_reducible refine (cspmatch_together.calls a2_2 a1_2 t119 _ A131.out).mono ?_); rintro e w' ⟨rfl, ⟨nd, rfl⟩⟩; refine ⟨_, rfl, ?_⟩))
                      go_meet
                      case rel => exact ⟨_, (t119), (by first | rfl | (simp; done) | (simp [*]; done) | (simp [ne_nil_bool]; done)), H', ⟨by have := HJ106.out; first | omega | exact Nat.le_refl _⟩, ⟨by (with_reducible repeat (first | refine blk_drewN ?_ _ | refine blk_drew ?_ | refine blk_alloc ?_ _)); exact BK111.out⟩, ⟨by (with_reducible repeat (first | refine blk_drewN ?_ _ | refine blk_drew ?_ | refine blk_alloc ?_ _)); exact BK112.out⟩, ⟨by (with_reducible repeat (first | refine blk_drewN ?_ _ | refine blk_drew ?_ | refine blk_alloc ?_ _)); exact BK113.out⟩, ⟨by repeat (first | (with_reducible first | exact HB.out | apply below_alloc | apply pw_below_drewN | apply below_drew1 | refine below_set ?_ GE111.out | refine below_set ?_ GE112.out | refine below_set ?_ GE113.out) | exact HB.out)⟩⟩
                  · rw [if_neg c124] at H
                    have c124b0 : (a0_1.toList == ([] : List UInt8)) = false := beq_eq_false_iff_ne.mpr c124
                    have c124b1 : (a0_1.toList != ([] : List UInt8)) = true := bne_iff_ne.mpr c124
                    (first | rw [c124b0] | (simp only [i64_w, i32_w]; rw [c124b0]) | skip)
                    replace H := Option.bind_eq_some_iff.mp H
                    obtain ⟨t120, A1380, H⟩ := H
                    replace H : (cspmatch_Match.j2 kj106 t120 a0_0 a0_1 a0_2 a0_3 false a1_1 a1_2 a1_3 a1_4 a1_5 a1_6) = some r := H
                    have A138 := Aside0.mk A1380
                    clear A1380
                    have H' := Aside0.mk H
                    clear H
                    have hnb139 := NB111_112.out
                    have hnc139 := NB112_111.out
                    have hnb140 := NB111_113.out
                    have hnc140 := NB113_111.out
                    have hcz141_0 : wc.cell? ⟨gb111, 0, none⟩ = some (.int .i64 a0_0) := (blk_cell BK111.out 0).trans rfl
                    have hcz141_1 : wc.cell? ⟨gb111, 1, none⟩ = some (.string a0_1) := (blk_cell BK111.out 1).trans rfl
                    have hcz141_2 : wc.cell? ⟨gb111, 2, none⟩ = some (.string a0_2) := (blk_cell BK111.out 2).trans rfl
                    have hcz141_3 : wc.cell? ⟨gb111, 3, none⟩ = some (.int .i64 a0_3) := (blk_cell BK111.out 3).trans rfl
                    have hfz141_0 := blk_frozen BK111.out 0
                    have hfz141_1 := blk_frozen BK111.out 1
                    have hfz141_2 := blk_frozen BK111.out 2
                    have hfz141_3 := blk_frozen BK111.out 3
                    have hnb142 := NB112_113.out
                    have hnc142 := NB113_112.out
                    have hcz143_0 : wc.cell? ⟨gb112, 0, none⟩ = some (.bool false) := (blk_cell BK112.out 0).trans rfl
                    have hcz143_1 : wc.cell? ⟨gb112, 1, none⟩ = some (.int .i64 a1_1) := (blk_cell BK112.out 1).trans rfl
                    have hcz143_2 : wc.cell? ⟨gb112, 2, none⟩ = some (.string a1_2) := (blk_cell BK112.out 2).trans rfl
                    have hcz143_3 : wc.cell? ⟨gb112, 3, none⟩ = some (.string a1_3) := (blk_cell BK112.out 3).trans rfl
                    have hcz143_4 : wc.cell? ⟨gb112, 4, none⟩ = some (.bool a1_4) := (blk_cell BK112.out 4).trans rfl
                    have hcz143_5 : wc.cell? ⟨gb112, 5, none⟩ = some (.int .u32 a1_5) := (blk_cell BK112.out 5).trans rfl
                    have hcz143_6 : wc.cell? ⟨gb112, 6, none⟩ = some (.int .i64 a1_6) := (blk_cell BK112.out 6).trans rfl
                    have hfz143_0 := blk_frozen BK112.out 0
                    have hfz143_1 := blk_frozen BK112.out 1
                    have hfz143_2 := blk_frozen BK112.out 2
                    have hfz143_3 := blk_frozen BK112.out 3
                    have hfz143_4 := blk_frozen BK112.out 4
                    have hfz143_5 := blk_frozen BK112.out 5
                    have hfz143_6 := blk_frozen BK112.out 6
                    go_wp2_with (first | ((with_reducible refine gate_callee (f := 83) rfl ?_); refine goesL_ (some 81) rfl rfl Tryz.func83 (by kernel_rfl) rfl #[.string a0_1, .string a1_2] rfl (by (try simp only [List.map_toArray, List.map_cons, List.map_nil]); first | done | rfl | (simp only [List.length_drop, List.length_take]; rfl)) ?_; (with_reducible refine (cspmatch_together.calls a0_1 a1_2 t120 _ A138.out).mono ?_); rintro e w' ⟨rfl, ⟨nd, rfl⟩⟩; refine ⟨_, rfl, ?_⟩))
                    go_meet
                    case rel => exact ⟨_, (t120), (by first | rfl | (simp; done) | (simp [*]; done) | (simp [ne_nil_bool]; done)), H', ⟨by have := HJ106.out; first | omega | exact Nat.le_refl _⟩, ⟨by (with_reducible repeat (first | refine blk_drewN ?_ _ | refine blk_drew ?_ | refine blk_alloc ?_ _)); exact BK111.out⟩, ⟨by (with_reducible repeat (first | refine blk_drewN ?_ _ | refine blk_drew ?_ | refine blk_alloc ?_ _)); exact BK112.out⟩, ⟨by (with_reducible repeat (first | refine blk_drewN ?_ _ | refine blk_drew ?_ | refine blk_alloc ?_ _)); exact BK113.out⟩, ⟨by repeat (first | (with_reducible first | exact HB.out | apply below_alloc | apply pw_below_drewN | apply below_drew1 | refine below_set ?_ GE111.out | refine below_set ?_ GE112.out | refine below_set ?_ GE113.out) | exact HB.out)⟩⟩
                case rest =>
                  clear HC123
                  try clear c1
                  try clear p2
                  try clear c8
                  try clear c12
                  try clear c13
                  try clear c14
                  try clear c83
                  try clear c124
                  try clear c124b0
                  try clear c124b1
                  try clear c125
                  try clear c126
                  try clear c127
                  try clear c129
                  try clear c132
                  try clear c133
                  try clear c135
                  try clear c139
                  try clear c140
                  try clear c142
                  try clear hcz10_0
                  try clear hcz10_1
                  try clear hcz10_2
                  try clear hcz10_3
                  try clear hcz10_4
                  try clear hcz10_5
                  try clear hcz10_6
                  try clear hcz113_0
                  try clear hcz113_1
                  try clear hcz113_2
                  try clear hcz113_3
                  try clear hcz113_4
                  try clear hcz113_5
                  try clear hcz113_6
                  try clear hcz115_0
                  try clear hcz115_1
                  try clear hcz115_2
                  try clear hcz115_3
                  try clear hcz119_0
                  try clear hcz119_1
                  try clear hcz119_2
                  try clear hcz119_3
                  try clear hcz119_4
                  try clear hcz119_5
                  try clear hcz119_6
                  try clear hcz122_0
                  try clear hcz122_1
                  try clear hcz122_2
                  try clear hcz122_3
                  try clear hcz122_4
                  try clear hcz122_5
                  try clear hcz122_6
                  try clear hcz128_0
                  try clear hcz128_1
                  try clear hcz128_2
                  try clear hcz128_3
                  try clear hcz130_0
                  try clear hcz130_1
                  try clear hcz130_2
                  try clear hcz130_3
                  try clear hcz130_4
                  try clear hcz130_5
                  try clear hcz130_6
                  try clear hcz134_0
                  try clear hcz134_1
                  try clear hcz134_2
                  try clear hcz134_3
                  try clear hcz136_0
                  try clear hcz136_1
                  try clear hcz136_2
                  try clear hcz136_3
                  try clear hcz136_4
                  try clear hcz136_5
                  try clear hcz136_6
                  try clear hcz137_0
                  try clear hcz137_1
                  try clear hcz137_2
                  try clear hcz137_3
                  try clear hcz137_4
                  try clear hcz137_5
                  try clear hcz137_6
                  try clear hcz141_0
                  try clear hcz141_1
                  try clear hcz141_2
                  try clear hcz141_3
                  try clear hcz143_0
                  try clear hcz143_1
                  try clear hcz143_2
                  try clear hcz143_3
                  try clear hcz143_4
                  try clear hcz143_5
                  try clear hcz143_6
                  try clear hcz17_0
                  try clear hcz17_1
                  try clear hcz17_2
                  try clear hcz17_3
                  try clear hcz17_4
                  try clear hcz17_5
                  try clear hcz17_6
                  try clear hcz19_0
                  try clear hcz19_1
                  try clear hcz19_2
                  try clear hcz19_3
                  try clear hcz27_0
                  try clear hcz27_1
                  try clear hcz27_2
                  try clear hcz27_3
                  try clear hcz27_4
                  try clear hcz27_5
                  try clear hcz27_6
                  try clear hcz29_0
                  try clear hcz29_1
                  try clear hcz29_2
                  try clear hcz29_3
                  try clear hcz37_0
                  try clear hcz37_1
                  try clear hcz37_2
                  try clear hcz37_3
                  try clear hcz37_4
                  try clear hcz37_5
                  try clear hcz37_6
                  try clear hcz39_0
                  try clear hcz39_1
                  try clear hcz39_2
                  try clear hcz39_3
                  try clear hcz43_0
                  try clear hcz43_1
                  try clear hcz43_2
                  try clear hcz43_3
                  try clear hcz43_4
                  try clear hcz43_5
                  try clear hcz43_6
                  try clear hcz45_0
                  try clear hcz45_1
                  try clear hcz45_2
                  try clear hcz45_3
                  try clear hcz45_4
                  try clear hcz45_5
                  try clear hcz45_6
                  try clear hcz51_0
                  try clear hcz51_1
                  try clear hcz51_2
                  try clear hcz51_3
                  try clear hcz51_4
                  try clear hcz51_5
                  try clear hcz51_6
                  try clear hcz53_0
                  try clear hcz53_1
                  try clear hcz53_2
                  try clear hcz53_3
                  try clear hcz53_4
                  try clear hcz53_5
                  try clear hcz53_6
                  try clear hcz55_0
                  try clear hcz55_1
                  try clear hcz55_2
                  try clear hcz55_3
                  try clear hcz55_4
                  try clear hcz55_5
                  try clear hcz55_6
                  try clear hcz59_0
                  try clear hcz59_1
                  try clear hcz59_2
                  try clear hcz59_3
                  try clear hcz59_4
                  try clear hcz59_5
                  try clear hcz59_6
                  try clear hcz61_0
                  try clear hcz61_1
                  try clear hcz61_2
                  try clear hcz61_3
                  try clear hcz61_4
                  try clear hcz61_5
                  try clear hcz61_6
                  try clear hcz67_0
                  try clear hcz67_1
                  try clear hcz67_2
                  try clear hcz67_3
                  try clear hcz67_4
                  try clear hcz67_5
                  try clear hcz67_6
                  try clear hcz69_0
                  try clear hcz69_1
                  try clear hcz69_2
                  try clear hcz69_3
                  try clear hcz69_4
                  try clear hcz69_5
                  try clear hcz69_6
                  try clear hcz74_0
                  try clear hcz74_1
                  try clear hcz74_2
                  try clear hcz74_3
                  try clear hcz74_4
                  try clear hcz74_5
                  try clear hcz74_6
                  try clear hcz76_0
                  try clear hcz76_1
                  try clear hcz76_2
                  try clear hcz76_3
                  try clear hcz76_4
                  try clear hcz76_5
                  try clear hcz76_6
                  try clear hcz78_0
                  try clear hcz78_1
                  try clear hcz78_2
                  try clear hcz78_3
                  try clear hcz78_4
                  try clear hcz78_5
                  try clear hcz78_6
                  try clear hcz84_0
                  try clear hcz84_1
                  try clear hcz84_2
                  try clear hcz84_3
                  try clear hcz84_4
                  try clear hcz84_5
                  try clear hcz84_6
                  try clear hcz86_0
                  try clear hcz86_1
                  try clear hcz86_2
                  try clear hcz86_3
                  try clear hcz86_4
                  try clear hcz86_5
                  try clear hcz86_6
                  try clear hcz88_0
                  try clear hcz88_1
                  try clear hcz88_2
                  try clear hcz88_3
                  try clear hcz88_4
                  try clear hcz88_5
                  try clear hcz88_6
                  try clear hcz89_0
                  try clear hcz89_1
                  try clear hcz89_2
                  try clear hcz89_3
                  try clear hcz89_4
                  try clear hcz89_5
                  try clear hcz89_6
                  try clear hcz92_0
                  try clear hcz92_1
                  try clear hcz92_2
                  try clear hcz92_3
                  try clear hcz92_4
                  try clear hcz92_5
                  try clear hcz92_6
                  try clear hcz94_0
                  try clear hcz94_1
                  try clear hcz94_2
                  try clear hcz94_3
                  try clear hcz94_4
                  try clear hcz94_5
                  try clear hcz94_6
                  try clear hcz96_0
                  try clear hcz96_1
                  try clear hcz96_2
                  try clear hcz96_3
                  try clear hcz96_4
                  try clear hcz96_5
                  try clear hcz96_6
                  try clear hcz97_0
                  try clear hcz97_1
                  try clear hcz97_2
                  try clear hcz97_3
                  try clear hcz97_4
                  try clear hcz97_5
                  try clear hcz97_6
                  try clear hfz100_0
                  try clear hfz100_1
                  try clear hfz100_2
                  try clear hfz100_3
                  try clear hfz100_4
                  try clear hfz100_5
                  try clear hfz100_6
                  try clear hfz102_0
                  try clear hfz102_1
                  try clear hfz102_2
                  try clear hfz102_3
                  try clear hfz102_4
                  try clear hfz102_5
                  try clear hfz102_6
                  try clear hfz104_0
                  try clear hfz104_1
                  try clear hfz104_2
                  try clear hfz104_3
                  try clear hfz104_4
                  try clear hfz104_5
                  try clear hfz104_6
                  try clear hfz105_0
                  try clear hfz105_1
                  try clear hfz105_2
                  try clear hfz105_3
                  try clear hfz105_4
                  try clear hfz105_5
                  try clear hfz105_6
                  try clear hfz10_0
                  try clear hfz10_1
                  try clear hfz10_2
                  try clear hfz10_3
                  try clear hfz10_4
                  try clear hfz10_5
                  try clear hfz10_6
                  try clear hfz113_0
                  try clear hfz113_1
                  try clear hfz113_2
                  try clear hfz113_3
                  try clear hfz113_4
                  try clear hfz113_5
                  try clear hfz113_6
                  try clear hfz115_0
                  try clear hfz115_1
                  try clear hfz115_2
                  try clear hfz115_3
                  try clear hfz119_0
                  try clear hfz119_1
                  try clear hfz119_2
                  try clear hfz119_3
                  try clear hfz119_4
                  try clear hfz119_5
                  try clear hfz119_6
                  try clear hfz122_0
                  try clear hfz122_1
                  try clear hfz122_2
                  try clear hfz122_3
                  try clear hfz122_4
                  try clear hfz122_5
                  try clear hfz122_6
                  try clear hfz128_0
                  try clear hfz128_1
                  try clear hfz128_2
                  try clear hfz128_3
                  try clear hfz130_0
                  try clear hfz130_1
                  try clear hfz130_2
                  try clear hfz130_3
                  try clear hfz130_4
                  try clear hfz130_5
                  try clear hfz130_6
                  try clear hfz134_0
                  try clear hfz134_1
                  try clear hfz134_2
                  try clear hfz134_3
                  try clear hfz136_0
                  try clear hfz136_1
                  try clear hfz136_2
                  try clear hfz136_3
                  try clear hfz136_4
                  try clear hfz136_5
                  try clear hfz136_6
                  try clear hfz137_0
                  try clear hfz137_1
                  try clear hfz137_2
                  try clear hfz137_3
                  try clear hfz137_4
                  try clear hfz137_5
                  try clear hfz137_6
                  try clear hfz141_0
                  try clear hfz141_1
                  try clear hfz141_2
                  try clear hfz141_3
                  try clear hfz143_0
                  try clear hfz143_1
                  try clear hfz143_2
                  try clear hfz143_3
                  try clear hfz143_4
                  try clear hfz143_5
                  try clear hfz143_6
                  try clear hfz17_0
                  try clear hfz17_1
                  try clear hfz17_2
                  try clear hfz17_3
                  try clear hfz17_4
                  try clear hfz17_5
                  try clear hfz17_6
                  try clear hfz19_0
                  try clear hfz19_1
                  try clear hfz19_2
                  try clear hfz19_3
                  try clear hfz27_0
                  try clear hfz27_1
                  try clear hfz27_2
                  try clear hfz27_3
                  try clear hfz27_4
                  try clear hfz27_5
                  try clear hfz27_6
                  try clear hfz29_0
                  try clear hfz29_1
                  try clear hfz29_2
                  try clear hfz29_3
                  try clear hfz37_0
                  try clear hfz37_1
                  try clear hfz37_2
                  try clear hfz37_3
                  try clear hfz37_4
                  try clear hfz37_5
                  try clear hfz37_6
                  try clear hfz39_0
                  try clear hfz39_1
                  try clear hfz39_2
                  try clear hfz39_3
                  try clear hfz43_0
                  try clear hfz43_1
                  try clear hfz43_2
                  try clear hfz43_3
                  try clear hfz43_4
                  try clear hfz43_5
                  try clear hfz43_6
                  try clear hfz45_0
                  try clear hfz45_1
                  try clear hfz45_2
                  try clear hfz45_3
                  try clear hfz45_4
                  try clear hfz45_5
                  try clear hfz45_6
                  try clear hfz51_0
                  try clear hfz51_1
                  try clear hfz51_2
                  try clear hfz51_3
                  try clear hfz51_4
                  try clear hfz51_5
                  try clear hfz51_6
                  try clear hfz53_0
                  try clear hfz53_1
                  try clear hfz53_2
                  try clear hfz53_3
                  try clear hfz53_4
                  try clear hfz53_5
                  try clear hfz53_6
                  try clear hfz55_0
                  try clear hfz55_1
                  try clear hfz55_2
                  try clear hfz55_3
                  try clear hfz55_4
                  try clear hfz55_5
                  try clear hfz55_6
                  try clear hfz59_0
                  try clear hfz59_1
                  try clear hfz59_2
                  try clear hfz59_3
                  try clear hfz59_4
                  try clear hfz59_5
                  try clear hfz59_6
                  try clear hfz61_0
                  try clear hfz61_1
                  try clear hfz61_2
                  try clear hfz61_3
                  try clear hfz61_4
                  try clear hfz61_5
                  try clear hfz61_6
                  try clear hfz67_0
                  try clear hfz67_1
                  try clear hfz67_2
                  try clear hfz67_3
                  try clear hfz67_4
                  try clear hfz67_5
                  try clear hfz67_6
                  try clear hfz69_0
                  try clear hfz69_1
                  try clear hfz69_2
                  try clear hfz69_3
                  try clear hfz69_4
                  try clear hfz69_5
                  try clear hfz69_6
                  try clear hfz74_0
                  try clear hfz74_1
                  try clear hfz74_2
                  try clear hfz74_3
                  try clear hfz74_4
                  try clear hfz74_5
                  try clear hfz74_6
                  try clear hfz76_0
                  try clear hfz76_1
                  try clear hfz76_2
                  try clear hfz76_3
                  try clear hfz76_4
                  try clear hfz76_5
                  try clear hfz76_6
                  try clear hfz78_0
                  try clear hfz78_1
                  try clear hfz78_2
                  try clear hfz78_3
                  try clear hfz78_4
                  try clear hfz78_5
                  try clear hfz78_6
                  try clear hfz84_0
                  try clear hfz84_1
                  try clear hfz84_2
                  try clear hfz84_3
                  try clear hfz84_4
                  try clear hfz84_5
                  try clear hfz84_6
                  try clear hfz86_0
                  try clear hfz86_1
                  try clear hfz86_2
                  try clear hfz86_3
                  try clear hfz86_4
                  try clear hfz86_5
                  try clear hfz86_6
                  try clear hfz88_0
                  try clear hfz88_1
                  try clear hfz88_2
                  try clear hfz88_3
                  try clear hfz88_4
                  try clear hfz88_5
                  try clear hfz88_6
                  try clear hfz89_0
                  try clear hfz89_1
                  try clear hfz89_2
                  try clear hfz89_3
                  try clear hfz89_4
                  try clear hfz89_5
                  try clear hfz89_6
                  try clear hfz92_0
                  try clear hfz92_1
                  try clear hfz92_2
                  try clear hfz92_3
                  try clear hfz92_4
                  try clear hfz92_5
                  try clear hfz92_6
                  try clear hfz94_0
                  try clear hfz94_1
                  try clear hfz94_2
                  try clear hfz94_3
                  try clear hfz94_4
                  try clear hfz94_5
                  try clear hfz94_6
                  try clear hfz96_0
                  try clear hfz96_1
                  try clear hfz96_2
                  try clear hfz96_3
                  try clear hfz96_4
                  try clear hfz96_5
                  try clear hfz96_6
                  try clear hfz97_0
                  try clear hfz97_1
                  try clear hfz97_2
                  try clear hfz97_3
                  try clear hfz97_4
                  try clear hfz97_5
                  try clear hfz97_6
                  try clear p2
                  obtain ⟨kq, x8_122, rfl, HA, HJ122, BK111, BK112, BK113, HB⟩ := hcut
                  cases kq with
                  | zero => exact absurd HA.out (by simp [cspmatch_Match.j2])
                  | succ kj122 =>
                    have H := HA.out
                    clear HA
                    simp only [cspmatch_Match.j2] at H
                    have HC144 := Aside0.mk H
                    clear H
                    go_upto_region 17 with (fail)
                    go_cut [9] (fun v9 wc => ∃ (kq : Nat) (x9_143 : Bool), v9 = .bool x9_143 ∧ Aside0 (cspmatch_Match.j3 kq x8_122 x9_143 a0_0 a0_1 a0_2 a0_3 false a1_1 a1_2 a1_3 a1_4 a1_5 a1_6 = some r) ∧ Aside0 (kq ≤ kj122) ∧ Aside0 (wc.heap[gb111]? = some (.cells #[.int .i64 a0_0, .string a0_1, .string a0_2, .int .i64 a0_3] 99 (0, 0))) ∧ Aside0 (wc.heap[gb112]? = some (.cells #[.bool false, .int .i64 a1_1, .string a1_2, .string a1_3, .bool a1_4, .int .u32 a1_5, .int .i64 a1_6] 31 (0, 0))) ∧ Aside0 (wc.heap[gb113]? = some (.cells #[.bool a2_0, .int .i64 a2_1, .string a2_2, .string a2_3, .bool a2_4, .int .u32 a2_5, .int .i64 a2_6] 31 (0, 0))) ∧ Aside0 (Below w.heap.size w wc))
                    case first =>
                      have H := HC144.out
                      clear HC144
                      by_cases c145 : a0_3 = (-2)
                      · rw [if_pos c145] at H
                        have c145b0 : (a0_3 == (-2)) = true := beq_iff_eq.mpr c145
                        have c145b1 : (a0_3 != (-2)) = false := bne_eq_false_iff_eq.mpr c145
                        clear c145
                        (first | rw [c145b0] | (simp only [i64_w, i32_w]; rw [c145b0]) | skip)
                        have H' := Aside0.mk H
                        clear H
                        have hnb146 := NB111_112.out
                        have hnc146 := NB112_111.out
                        have hnb147 := NB111_113.out
                        have hnc147 := NB113_111.out
                        have hcz148_0 : wc.cell? ⟨gb111, 0, none⟩ = some (.int .i64 a0_0) := (blk_cell BK111.out 0).trans rfl
                        have hcz148_1 : wc.cell? ⟨gb111, 1, none⟩ = some (.string a0_1) := (blk_cell BK111.out 1).trans rfl
                        have hcz148_2 : wc.cell? ⟨gb111, 2, none⟩ = some (.string a0_2) := (blk_cell BK111.out 2).trans rfl
                        have hcz148_3 : wc.cell? ⟨gb111, 3, none⟩ = some (.int .i64 a0_3) := (blk_cell BK111.out 3).trans rfl
                        have hfz148_0 := blk_frozen BK111.out 0
                        have hfz148_1 := blk_frozen BK111.out 1
                        have hfz148_2 := blk_frozen BK111.out 2
                        have hfz148_3 := blk_frozen BK111.out 3
                        go_wp2
                        go_meet
                        case rel => exact ⟨_, (true), (by first | rfl | (simp; done) | (simp [*]; done) | (simp [ne_nil_bool]; done)), H', ⟨by have := HJ106.out; have := HJ122.out; first | omega | exact Nat.le_refl _⟩, ⟨by (with_reducible repeat (first | refine blk_drewN ?_ _ | refine blk_drew ?_ | refine blk_alloc ?_ _)); exact BK111.out⟩, ⟨by (with_reducible repeat (first | refine blk_drewN ?_ _ | refine blk_drew ?_ | refine blk_alloc ?_ _)); exact BK112.out⟩, ⟨by (with_reducible repeat (first | refine blk_drewN ?_ _ | refine blk_drew ?_ | refine blk_alloc ?_ _)); exact BK113.out⟩, ⟨by repeat (first | (with_reducible first | exact HB.out | apply below_alloc | apply pw_below_drewN | apply below_drew1 | refine below_set ?_ GE111.out | refine below_set ?_ GE112.out | refine below_set ?_ GE113.out) | exact HB.out)⟩⟩
                      · rw [if_neg c145] at H
                        have c145b0 : (a0_3 == (-2)) = false := beq_eq_false_iff_ne.mpr c145
                        have c145b1 : (a0_3 != (-2)) = true := bne_iff_ne.mpr c145
                        (first | rw [c145b0] | (simp only [i64_w, i32_w]; rw [c145b0]) | skip)
                        by_cases c149 : a0_3 = a1_6
                        · rw [if_pos c149] at H
                          have c149b0 : (a0_3 == a1_6) = true := beq_iff_eq.mpr c149
                          have c149b1 : (a0_3 != a1_6) = false := bne_eq_false_iff_eq.mpr c149
                          clear c149
                          have H' := Aside0.mk H
                          clear H
                          have hnb150 := NB111_112.out
                          have hnc150 := NB112_111.out
                          have hnb151 := NB111_113.out
                          have hnc151 := NB113_111.out
                          have hcz152_0 : wc.cell? ⟨gb111, 0, none⟩ = some (.int .i64 a0_0) := (blk_cell BK111.out 0).trans rfl
                          have hcz152_1 : wc.cell? ⟨gb111, 1, none⟩ = some (.string a0_1) := (blk_cell BK111.out 1).trans rfl
                          have hcz152_2 : wc.cell? ⟨gb111, 2, none⟩ = some (.string a0_2) := (blk_cell BK111.out 2).trans rfl
                          have hcz152_3 : wc.cell? ⟨gb111, 3, none⟩ = some (.int .i64 a0_3) := (blk_cell BK111.out 3).trans rfl
                          have hfz152_0 := blk_frozen BK111.out 0
                          have hfz152_1 := blk_frozen BK111.out 1
                          have hfz152_2 := blk_frozen BK111.out 2
                          have hfz152_3 := blk_frozen BK111.out 3
                          have hnb153 := NB112_113.out
                          have hnc153 := NB113_112.out
                          have hcz154_0 : wc.cell? ⟨gb112, 0, none⟩ = some (.bool false) := (blk_cell BK112.out 0).trans rfl
                          have hcz154_1 : wc.cell? ⟨gb112, 1, none⟩ = some (.int .i64 a1_1) := (blk_cell BK112.out 1).trans rfl
                          have hcz154_2 : wc.cell? ⟨gb112, 2, none⟩ = some (.string a1_2) := (blk_cell BK112.out 2).trans rfl
                          have hcz154_3 : wc.cell? ⟨gb112, 3, none⟩ = some (.string a1_3) := (blk_cell BK112.out 3).trans rfl
                          have hcz154_4 : wc.cell? ⟨gb112, 4, none⟩ = some (.bool a1_4) := (blk_cell BK112.out 4).trans rfl
                          have hcz154_5 : wc.cell? ⟨gb112, 5, none⟩ = some (.int .u32 a1_5) := (blk_cell BK112.out 5).trans rfl
                          have hcz154_6 : wc.cell? ⟨gb112, 6, none⟩ = some (.int .i64 a1_6) := (blk_cell BK112.out 6).trans rfl
                          have hfz154_0 := blk_frozen BK112.out 0
                          have hfz154_1 := blk_frozen BK112.out 1
                          have hfz154_2 := blk_frozen BK112.out 2
                          have hfz154_3 := blk_frozen BK112.out 3
                          have hfz154_4 := blk_frozen BK112.out 4
                          have hfz154_5 := blk_frozen BK112.out 5
                          have hfz154_6 := blk_frozen BK112.out 6
                          go_wp2
                          go_meet
                          case rel => exact ⟨_, (true), (by first | rfl | (simp; done) | (simp [*]; done) | (simp [ne_nil_bool]; done)), H', ⟨by have := HJ106.out; have := HJ122.out; first | omega | exact Nat.le_refl _⟩, ⟨by (with_reducible repeat (first | refine blk_drewN ?_ _ | refine blk_drew ?_ | refine blk_alloc ?_ _)); exact BK111.out⟩, ⟨by (with_reducible repeat (first | refine blk_drewN ?_ _ | refine blk_drew ?_ | refine blk_alloc ?_ _)); exact BK112.out⟩, ⟨by (with_reducible repeat (first | refine blk_drewN ?_ _ | refine blk_drew ?_ | refine blk_alloc ?_ _)); exact BK113.out⟩, ⟨by repeat (first | (with_reducible first | exact HB.out | apply below_alloc | apply pw_below_drewN | apply below_drew1 | refine below_set ?_ GE111.out | refine below_set ?_ GE112.out | refine below_set ?_ GE113.out) | exact HB.out)⟩⟩
                        · rw [if_neg c149] at H
                          have c149b0 : (a0_3 == a1_6) = false := beq_eq_false_iff_ne.mpr c149
                          have c149b1 : (a0_3 != a1_6) = true := bne_iff_ne.mpr c149
                          by_cases c155 : a0_3 = (-1)
                          · rw [if_pos c155] at H
                            have c155b0 : (a0_3 == (-1)) = true := beq_iff_eq.mpr c155
                            have c155b1 : (a0_3 != (-1)) = false := bne_eq_false_iff_eq.mpr c155
                            clear c155
                            replace H := Option.bind_eq_some_iff.mp H
                            obtain ⟨t121, A1560, H⟩ := H
                            replace H : (if t121 = true then (cspmatch_Match.j3 kj122 x8_122 true a0_0 a0_1 a0_2 a0_3 false a1_1 a1_2 a1_3 a1_4 a1_5 a1_6) else (if a0_3 = 80 then (if a1_2.toList = ([104, 116, 116, 112, 115] : List UInt8) then (cspmatch_Match.j3 kj122 x8_122 (a1_6 == 443) a0_0 a0_1 a0_2 a0_3 false a1_1 a1_2 a1_3 a1_4 a1_5 a1_6) else (cspmatch_Match.j3 kj122 x8_122 false a0_0 a0_1 a0_2 a0_3 false a1_1 a1_2 a1_3 a1_4 a1_5 a1_6)) else (cspmatch_Match.j3 kj122 x8_122 false a0_0 a0_1 a0_2 a0_3 false a1_1 a1_2 a1_3 a1_4 a1_5 a1_6))) = some r := H
                            have A156 := Aside0.mk A1560
                            clear A1560
                            by_cases c157 : t121 = true
                            · subst c157
                              have H1 : (cspmatch_Match.j3 kj122 x8_122 true a0_0 a0_1 a0_2 a0_3 false a1_1 a1_2 a1_3 a1_4 a1_5 a1_6) = some r := by rw [if_pos rfl] at H; exact H
                              clear H
                              have H := H1
                              clear H1
                              have H' := Aside0.mk H
                              clear H
                              have hnb158 := NB111_112.out
                              have hnc158 := NB112_111.out
                              have hnb159 := NB111_113.out
                              have hnc159 := NB113_111.out
                              have hcz160_0 : wc.cell? ⟨gb111, 0, none⟩ = some (.int .i64 a0_0) := (blk_cell BK111.out 0).trans rfl
                              have hcz160_1 : wc.cell? ⟨gb111, 1, none⟩ = some (.string a0_1) := (blk_cell BK111.out 1).trans rfl
                              have hcz160_2 : wc.cell? ⟨gb111, 2, none⟩ = some (.string a0_2) := (blk_cell BK111.out 2).trans rfl
                              have hcz160_3 : wc.cell? ⟨gb111, 3, none⟩ = some (.int .i64 a0_3) := (blk_cell BK111.out 3).trans rfl
                              have hfz160_0 := blk_frozen BK111.out 0
                              have hfz160_1 := blk_frozen BK111.out 1
                              have hfz160_2 := blk_frozen BK111.out 2
                              have hfz160_3 := blk_frozen BK111.out 3
                              have hnb161 := NB112_113.out
                              have hnc161 := NB113_112.out
                              have hcz162_0 : wc.cell? ⟨gb112, 0, none⟩ = some (.bool false) := (blk_cell BK112.out 0).trans rfl
                              have hcz162_1 : wc.cell? ⟨gb112, 1, none⟩ = some (.int .i64 a1_1) := (blk_cell BK112.out 1).trans rfl
                              have hcz162_2 : wc.cell? ⟨gb112, 2, none⟩ = some (.string a1_2) := (blk_cell BK112.out 2).trans rfl
                              have hcz162_3 : wc.cell? ⟨gb112, 3, none⟩ = some (.string a1_3) := (blk_cell BK112.out 3).trans rfl
                              have hcz162_4 : wc.cell? ⟨gb112, 4, none⟩ = some (.bool a1_4) := (blk_cell BK112.out 4).trans rfl
                              have hcz162_5 : wc.cell? ⟨gb112, 5, none⟩ = some (.int .u32 a1_5) := (blk_cell BK112.out 5).trans rfl
                              have hcz162_6 : wc.cell? ⟨gb112, 6, none⟩ = some (.int .i64 a1_6) := (blk_cell BK112.out 6).trans rfl
                              have hfz162_0 := blk_frozen BK112.out 0
                              have hfz162_1 := blk_frozen BK112.out 1
                              have hfz162_2 := blk_frozen BK112.out 2
                              have hfz162_3 := blk_frozen BK112.out 3
                              have hfz162_4 := blk_frozen BK112.out 4
                              have hfz162_5 := blk_frozen BK112.out 5
                              have hfz162_6 := blk_frozen BK112.out 6
                              go_wp2_with (first | (go_at_call 84; (with_reducible refine (cspmatch_own.calls false a1_1 a1_2 a1_3 a1_4 a1_5 a1_6 true _ A156.out).mono ?_); rintro e w163 ⟨rfl, hb⟩; have n0_ := Aside0.mk (blk_below (g := gb111) (o := .cells #[.int .i64 a0_0, .string a0_1, .string a0_2, .int .i64 a0_3] 99 (0, 0)) (by (with_reducible repeat (first | refine blk_drewN ?_ _ | refine blk_drew ?_ | refine blk_alloc ?_ _)); exact BK111.out) hb); have n1_ := Aside0.mk (blk_below (g := gb112) (o := .cells #[.bool false, .int .i64 a1_1, .string a1_2, .string a1_3, .bool a1_4, .int .u32 a1_5, .int .i64 a1_6] 31 (0, 0)) (by (with_reducible repeat (first | refine blk_drewN ?_ _ | refine blk_drew ?_ | refine blk_alloc ?_ _)); exact BK112.out) hb); have n2_ := Aside0.mk (blk_below (g := gb113) (o := .cells #[.bool a2_0, .int .i64 a2_1, .string a2_2, .string a2_3, .bool a2_4, .int .u32 a2_5, .int .i64 a2_6] 31 (0, 0)) (by (with_reducible repeat (first | refine blk_drewN ?_ _ | refine blk_drew ?_ | refine blk_alloc ?_ _)); exact BK113.out) hb); have n3_ := Aside0.mk (below_step (by repeat (first | (with_reducible first | exact HB.out | apply below_alloc | apply pw_below_drewN | apply below_drew1 | refine below_set ?_ GE111.out | refine below_set ?_ GE112.out | refine below_set ?_ GE113.out) | exact HB.out)) hb); clear BK111; clear BK112; clear BK113; clear HB; have BK111 := n0_; have BK112 := n1_; have BK113 := n2_; have HB := n3_; clear n0_ n1_ n2_ n3_; (try clear hb); (try clear hb2); (try clear hk); (try clear hi)))
                              go_meet
                              case rel => exact ⟨_, (true), (by first | rfl | (simp; done) | (simp [*]; done) | (simp [ne_nil_bool]; done)), H', ⟨by have := HJ106.out; have := HJ122.out; first | omega | exact Nat.le_refl _⟩, ⟨by (with_reducible repeat (first | refine blk_drewN ?_ _ | refine blk_drew ?_ | refine blk_alloc ?_ _)); exact BK111.out⟩, ⟨by (with_reducible repeat (first | refine blk_drewN ?_ _ | refine blk_drew ?_ | refine blk_alloc ?_ _)); exact BK112.out⟩, ⟨by (with_reducible repeat (first | refine blk_drewN ?_ _ | refine blk_drew ?_ | refine blk_alloc ?_ _)); exact BK113.out⟩, ⟨by repeat (first | (with_reducible first | exact HB.out | apply below_alloc | apply pw_below_drewN | apply below_drew1 | refine below_set ?_ GE111.out | refine below_set ?_ GE112.out | refine below_set ?_ GE113.out) | exact HB.out)⟩⟩
                            · replace c157 := Bool.eq_false_iff.mpr c157
                              subst c157
                              have H1 : (if a0_3 = 80 then (if a1_2.toList = ([104, 116, 116, 112, 115] : List UInt8) then (cspmatch_Match.j3 kj122 x8_122 (a1_6 == 443) a0_0 a0_1 a0_2 a0_3 false a1_1 a1_2 a1_3 a1_4 a1_5 a1_6) else (cspmatch_Match.j3 kj122 x8_122 false a0_0 a0_1 a0_2 a0_3 false a1_1 a1_2 a1_3 a1_4 a1_5 a1_6)) else (cspmatch_Match.j3 kj122 x8_122 false a0_0 a0_1 a0_2 a0_3 false a1_1 a1_2 a1_3 a1_4 a1_5 a1_6)) = some r := by rw [if_neg (show ¬ (false = true) by decide)] at H; exact H
                              clear H
                              have H := H1
                              clear H1
                              by_cases c164 : a0_3 = 80
                              · rw [if_pos c164] at H
                                have c164b0 : (a0_3 == 80) = true := beq_iff_eq.mpr c164
                                have c164b1 : (a0_3 != 80) = false := bne_eq_false_iff_eq.mpr c164
                                clear c164
                                by_cases c165 : a1_2.toList = ([104, 116, 116, 112, 115] : List UInt8)
                                · rw [if_pos c165] at H
                                  have c165b0 : (a1_2.toList == ([104, 116, 116, 112, 115] : List UInt8)) = true := beq_iff_eq.mpr c165
                                  have c165b1 : (a1_2.toList != ([104, 116, 116, 112, 115] : List UInt8)) = false := bne_eq_false_iff_eq.mpr c165
                                  clear c165
                                  have H' := Aside0.mk H
                                  clear H
                                  have hnb166 := NB111_112.out
                                  have hnc166 := NB112_111.out
                                  have hnb167 := NB111_113.out
                                  have hnc167 := NB113_111.out
                                  have hcz168_0 : wc.cell? ⟨gb111, 0, none⟩ = some (.int .i64 a0_0) := (blk_cell BK111.out 0).trans rfl
                                  have hcz168_1 : wc.cell? ⟨gb111, 1, none⟩ = some (.string a0_1) := (blk_cell BK111.out 1).trans rfl
                                  have hcz168_2 : wc.cell? ⟨gb111, 2, none⟩ = some (.string a0_2) := (blk_cell BK111.out 2).trans rfl
                                  have hcz168_3 : wc.cell? ⟨gb111, 3, none⟩ = some (.int .i64 a0_3) := (blk_cell BK111.out 3).trans rfl
                                  have hfz168_0 := blk_frozen BK111.out 0
                                  have hfz168_1 := blk_frozen BK111.out 1
                                  have hfz168_2 := blk_frozen BK111.out 2
                                  have hfz168_3 := blk_frozen BK111.out 3
                                  have hnb169 := NB112_113.out
                                  have hnc169 := NB113_112.out
                                  have hcz170_0 : wc.cell? ⟨gb112, 0, none⟩ = some (.bool false) := (blk_cell BK112.out 0).trans rfl
                                  have hcz170_1 : wc.cell? ⟨gb112, 1, none⟩ = some (.int .i64 a1_1) := (blk_cell BK112.out 1).trans rfl
                                  have hcz170_2 : wc.cell? ⟨gb112, 2, none⟩ = some (.string a1_2) := (blk_cell BK112.out 2).trans rfl
                                  have hcz170_3 : wc.cell? ⟨gb112, 3, none⟩ = some (.string a1_3) := (blk_cell BK112.out 3).trans rfl
                                  have hcz170_4 : wc.cell? ⟨gb112, 4, none⟩ = some (.bool a1_4) := (blk_cell BK112.out 4).trans rfl
                                  have hcz170_5 : wc.cell? ⟨gb112, 5, none⟩ = some (.int .u32 a1_5) := (blk_cell BK112.out 5).trans rfl
                                  have hcz170_6 : wc.cell? ⟨gb112, 6, none⟩ = some (.int .i64 a1_6) := (blk_cell BK112.out 6).trans rfl
                                  have hfz170_0 := blk_frozen BK112.out 0
                                  have hfz170_1 := blk_frozen BK112.out 1
                                  have hfz170_2 := blk_frozen BK112.out 2
                                  have hfz170_3 := blk_frozen BK112.out 3
                                  have hfz170_4 := blk_frozen BK112.out 4
                                  have hfz170_5 := blk_frozen BK112.out 5
                                  have hfz170_6 := blk_frozen BK112.out 6
                                  go_wp2_with (first | (go_at_call 84; (with_reducible refine (cspmatch_own.calls false a1_1 a1_2 a1_3 a1_4 a1_5 a1_6 false _ A156.out).mono ?_); rintro e w171 ⟨rfl, hb⟩; have n0_ := Aside0.mk (blk_below (g := gb111) (o := .cells #[.int .i64 a0_0, .string a0_1, .string a0_2, .int .i64 a0_3] 99 (0, 0)) (by (with_reducible repeat (first | refine blk_drewN ?_ _ | refine blk_drew ?_ | refine blk_alloc ?_ _)); exact BK111.out) hb); have n1_ := Aside0.mk (blk_below (g := gb112) (o := .cells #[.bool false, .int .i64 a1_1, .string a1_2, .string a1_3, .bool a1_4, .int .u32 a1_5, .int .i64 a1_6] 31 (0, 0)) (by (with_reducible repeat (first | refine blk_drewN ?_ _ | refine blk_drew ?_ | refine blk_alloc ?_ _)); exact BK112.out) hb); have n2_ := Aside0.mk (blk_below (g := gb113) (o := .cells #[.bool a2_0, .int .i64 a2_1, .string a2_2, .string a2_3, .bool a2_4, .int .u32 a2_5, .int .i64 a2_6] 31 (0, 0)) (by (with_reducible repeat (first | refine blk_drewN ?_ _ | refine blk_drew ?_ | refine blk_alloc ?_ _)); exact BK113.out) hb); have n3_ := Aside0.mk (below_step (by repeat (first | (with_reducible first | exact HB.out | apply below_alloc | apply pw_below_drewN | apply below_drew1 | refine below_set ?_ GE111.out | refine below_set ?_ GE112.out | refine below_set ?_ GE113.out) | exact HB.out)) hb); clear BK111; clear BK112; clear BK113; clear HB; have BK111 := n0_; have BK112 := n1_; have BK113 := n2_; have HB := n3_; clear n0_ n1_ n2_ n3_; (try clear hb); (try clear hb2); (try clear hk); (try clear hi); have hcz172_0 : w171.cell? ⟨gb111, 0, none⟩ = some (.int .i64 a0_0) := (blk_cell BK111.out 0).trans rfl; have hcz172_1 : w171.cell? ⟨gb111, 1, none⟩ = some (.string a0_1) := (blk_cell BK111.out 1).trans rfl; have hcz172_2 : w171.cell? ⟨gb111, 2, none⟩ = some (.string a0_2) := (blk_cell BK111.out 2).trans rfl; have hcz172_3 : w171.cell? ⟨gb111, 3, none⟩ = some (.int .i64 a0_3) := (blk_cell BK111.out 3).trans rfl; have hfz172_0 := blk_frozen BK111.out 0; have hfz172_1 := blk_frozen BK111.out 1; have hfz172_2 := blk_frozen BK111.out 2; have hfz172_3 := blk_frozen BK111.out 3; have hcz173_0 : w171.cell? ⟨gb112, 0, none⟩ = some (.bool false) := (blk_cell BK112.out 0).trans rfl; have hcz173_1 : w171.cell? ⟨gb112, 1, none⟩ = some (.int .i64 a1_1) := (blk_cell BK112.out 1).trans rfl; have hcz173_2 : w171.cell? ⟨gb112, 2, none⟩ = some (.string a1_2) := (blk_cell BK112.out 2).trans rfl; have hcz173_3 : w171.cell? ⟨gb112, 3, none⟩ = some (.string a1_3) := (blk_cell BK112.out 3).trans rfl; have hcz173_4 : w171.cell? ⟨gb112, 4, none⟩ = some (.bool a1_4) := (blk_cell BK112.out 4).trans rfl; have hcz173_5 : w171.cell? ⟨gb112, 5, none⟩ = some (.int .u32 a1_5) := (blk_cell BK112.out 5).trans rfl; have hcz173_6 : w171.cell? ⟨gb112, 6, none⟩ = some (.int .i64 a1_6) := (blk_cell BK112.out 6).trans rfl; have hfz173_0 := blk_frozen BK112.out 0; have hfz173_1 := blk_frozen BK112.out 1; have hfz173_2 := blk_frozen BK112.out 2; have hfz173_3 := blk_frozen BK112.out 3; have hfz173_4 := blk_frozen BK112.out 4; have hfz173_5 := blk_frozen BK112.out 5; have hfz173_6 := blk_frozen BK112.out 6))
                                  go_meet
                                  case rel => exact ⟨_, ((a1_6 == 443)), (by first | rfl | (simp; done) | (simp [*]; done) | (simp [ne_nil_bool]; done)), H', ⟨by have := HJ106.out; have := HJ122.out; first | omega | exact Nat.le_refl _⟩, ⟨by (with_reducible repeat (first | refine blk_drewN ?_ _ | refine blk_drew ?_ | refine blk_alloc ?_ _)); exact BK111.out⟩, ⟨by (with_reducible repeat (first | refine blk_drewN ?_ _ | refine blk_drew ?_ | refine blk_alloc ?_ _)); exact BK112.out⟩, ⟨by (with_reducible repeat (first | refine blk_drewN ?_ _ | refine blk_drew ?_ | refine blk_alloc ?_ _)); exact BK113.out⟩, ⟨by repeat (first | (with_reducible first | exact HB.out | apply below_alloc | apply pw_below_drewN | apply below_drew1 | refine below_set ?_ GE111.out | refine below_set ?_ GE112.out | refine below_set ?_ GE113.out) | exact HB.out)⟩⟩
                                · rw [if_neg c165] at H
                                  have c165b0 : (a1_2.toList == ([104, 116, 116, 112, 115] : List UInt8)) = false := beq_eq_false_iff_ne.mpr c165
                                  have c165b1 : (a1_2.toList != ([104, 116, 116, 112, 115] : List UInt8)) = true := bne_iff_ne.mpr c165
                                  have H' := Aside0.mk H
                                  clear H
                                  have hnb174 := NB111_112.out
                                  have hnc174 := NB112_111.out
                                  have hnb175 := NB111_113.out
                                  have hnc175 := NB113_111.out
                                  have hcz176_0 : wc.cell? ⟨gb111, 0, none⟩ = some (.int .i64 a0_0) := (blk_cell BK111.out 0).trans rfl
                                  have hcz176_1 : wc.cell? ⟨gb111, 1, none⟩ = some (.string a0_1) := (blk_cell BK111.out 1).trans rfl
                                  have hcz176_2 : wc.cell? ⟨gb111, 2, none⟩ = some (.string a0_2) := (blk_cell BK111.out 2).trans rfl
                                  have hcz176_3 : wc.cell? ⟨gb111, 3, none⟩ = some (.int .i64 a0_3) := (blk_cell BK111.out 3).trans rfl
                                  have hfz176_0 := blk_frozen BK111.out 0
                                  have hfz176_1 := blk_frozen BK111.out 1
                                  have hfz176_2 := blk_frozen BK111.out 2
                                  have hfz176_3 := blk_frozen BK111.out 3
                                  have hnb177 := NB112_113.out
                                  have hnc177 := NB113_112.out
                                  have hcz178_0 : wc.cell? ⟨gb112, 0, none⟩ = some (.bool false) := (blk_cell BK112.out 0).trans rfl
                                  have hcz178_1 : wc.cell? ⟨gb112, 1, none⟩ = some (.int .i64 a1_1) := (blk_cell BK112.out 1).trans rfl
                                  have hcz178_2 : wc.cell? ⟨gb112, 2, none⟩ = some (.string a1_2) := (blk_cell BK112.out 2).trans rfl
                                  have hcz178_3 : wc.cell? ⟨gb112, 3, none⟩ = some (.string a1_3) := (blk_cell BK112.out 3).trans rfl
                                  have hcz178_4 : wc.cell? ⟨gb112, 4, none⟩ = some (.bool a1_4) := (blk_cell BK112.out 4).trans rfl
                                  have hcz178_5 : wc.cell? ⟨gb112, 5, none⟩ = some (.int .u32 a1_5) := (blk_cell BK112.out 5).trans rfl
                                  have hcz178_6 : wc.cell? ⟨gb112, 6, none⟩ = some (.int .i64 a1_6) := (blk_cell BK112.out 6).trans rfl
                                  have hfz178_0 := blk_frozen BK112.out 0
                                  have hfz178_1 := blk_frozen BK112.out 1
                                  have hfz178_2 := blk_frozen BK112.out 2
                                  have hfz178_3 := blk_frozen BK112.out 3
                                  have hfz178_4 := blk_frozen BK112.out 4
                                  have hfz178_5 := blk_frozen BK112.out 5
                                  have hfz178_6 := blk_frozen BK112.out 6
                                  go_wp2_with (first | (go_at_call 84; (with_reducible refine (cspmatch_own.calls false a1_1 a1_2 a1_3 a1_4 a1_5 a1_6 false _ A156.out).mono ?_); rintro e w179 ⟨rfl, hb⟩; have n0_ := Aside0.mk (blk_below (g := gb111) (o := .cells #[.int .i64 a0_0, .string a0_1, .string a0_2, .int .i64 a0_3] 99 (0, 0)) (by (with_reducible repeat (first | refine blk_drewN ?_ _ | refine blk_drew ?_ | refine blk_alloc ?_ _)); exact BK111.out) hb); have n1_ := Aside0.mk (blk_below (g := gb112) (o := .cells #[.bool false, .int .i64 a1_1, .string a1_2, .string a1_3, .bool a1_4, .int .u32 a1_5, .int .i64 a1_6] 31 (0, 0)) (by (with_reducible repeat (first | refine blk_drewN ?_ _ | refine blk_drew ?_ | refine blk_alloc ?_ _)); exact BK112.out) hb); have n2_ := Aside0.mk (blk_below (g := gb113) (o := .cells #[.bool a2_0, .int .i64 a2_1, .string a2_2, .string a2_3, .bool a2_4, .int .u32 a2_5, .int .i64 a2_6] 31 (0, 0)) (by (with_reducible repeat (first | refine blk_drewN ?_ _ | refine blk_drew ?_ | refine blk_alloc ?_ _)); exact BK113.out) hb); have n3_ := Aside0.mk (below_step (by repeat (first | (with_reducible first | exact HB.out | apply below_alloc | apply pw_below_drewN | apply below_drew1 | refine below_set ?_ GE111.out | refine below_set ?_ GE112.out | refine below_set ?_ GE113.out) | exact HB.out)) hb); clear BK111; clear BK112; clear BK113; clear HB; have BK111 := n0_; have BK112 := n1_; have BK113 := n2_; have HB := n3_; clear n0_ n1_ n2_ n3_; (try clear hb); (try clear hb2); (try clear hk); (try clear hi); have hcz180_0 : w179.cell? ⟨gb111, 0, none⟩ = some (.int .i64 a0_0) := (blk_cell BK111.out 0).trans rfl; have hcz180_1 : w179.cell? ⟨gb111, 1, none⟩ = some (.string a0_1) := (blk_cell BK111.out 1).trans rfl; have hcz180_2 : w179.cell? ⟨gb111, 2, none⟩ = some (.string a0_2) := (blk_cell BK111.out 2).trans rfl; have hcz180_3 : w179.cell? ⟨gb111, 3, none⟩ = some (.int .i64 a0_3) := (blk_cell BK111.out 3).trans rfl; have hfz180_0 := blk_frozen BK111.out 0; have hfz180_1 := blk_frozen BK111.out 1; have hfz180_2 := blk_frozen BK111.out 2; have hfz180_3 := blk_frozen BK111.out 3; have hcz181_0 : w179.cell? ⟨gb112, 0, none⟩ = some (.bool false) := (blk_cell BK112.out 0).trans rfl; have hcz181_1 : w179.cell? ⟨gb112, 1, none⟩ = some (.int .i64 a1_1) := (blk_cell BK112.out 1).trans rfl; have hcz181_2 : w179.cell? ⟨gb112, 2, none⟩ = some (.string a1_2) := (blk_cell BK112.out 2).trans rfl; have hcz181_3 : w179.cell? ⟨gb112, 3, none⟩ = some (.string a1_3) := (blk_cell BK112.out 3).trans rfl; have hcz181_4 : w179.cell? ⟨gb112, 4, none⟩ = some (.bool a1_4) := (blk_cell BK112.out 4).trans rfl; have hcz181_5 : w179.cell? ⟨gb112, 5, none⟩ = some (.int .u32 a1_5) := (blk_cell BK112.out 5).trans rfl; have hcz181_6 : w179.cell? ⟨gb112, 6, none⟩ = some (.int .i64 a1_6) := (blk_cell BK112.out 6).trans rfl; have hfz181_0 := blk_frozen BK112.out 0; have hfz181_1 := blk_frozen BK112.out 1; have hfz181_2 := blk_frozen BK112.out 2; have hfz181_3 := blk_frozen BK112.out 3; have hfz181_4 := blk_frozen BK112.out 4; have hfz181_5 := blk_frozen BK112.out 5; have hfz181_6 := blk_frozen BK112.out 6))
                                  go_meet
                                  case rel => exact ⟨_, (false), (by first | rfl | (simp; done) | (simp [*]; done) | (simp [ne_nil_bool]; done)), H', ⟨by have := HJ106.out; have := HJ122.out; first | omega | exact Nat.le_refl _⟩, ⟨by (with_reducible repeat (first | refine blk_drewN ?_ _ | refine blk_drew ?_ | refine blk_alloc ?_ _)); exact BK111.out⟩, ⟨by (with_reducible repeat (first | refine blk_drewN ?_ _ | refine blk_drew ?_ | refine blk_alloc ?_ _)); exact BK112.out⟩, ⟨by (with_reducible repeat (first | refine blk_drewN ?_ _ | refine blk_drew ?_ | refine blk_alloc ?_ _)); exact BK113.out⟩, ⟨by repeat (first | (with_reducible first | exact HB.out | apply below_alloc | apply pw_below_drewN | apply below_drew1 | refine below_set ?_ GE111.out | refine below_set ?_ GE112.out | refine below_set ?_ GE113.out) | exact HB.out)⟩⟩
                              · rw [if_neg c164] at H
                                have c164b0 : (a0_3 == 80) = false := beq_eq_false_iff_ne.mpr c164
                                have c164b1 : (a0_3 != 80) = true := bne_iff_ne.mpr c164
                                have H' := Aside0.mk H
                                clear H
                                have hnb182 := NB111_112.out
                                have hnc182 := NB112_111.out
                                have hnb183 := NB111_113.out
                                have hnc183 := NB113_111.out
                                have hcz184_0 : wc.cell? ⟨gb111, 0, none⟩ = some (.int .i64 a0_0) := (blk_cell BK111.out 0).trans rfl
                                have hcz184_1 : wc.cell? ⟨gb111, 1, none⟩ = some (.string a0_1) := (blk_cell BK111.out 1).trans rfl
                                have hcz184_2 : wc.cell? ⟨gb111, 2, none⟩ = some (.string a0_2) := (blk_cell BK111.out 2).trans rfl
                                have hcz184_3 : wc.cell? ⟨gb111, 3, none⟩ = some (.int .i64 a0_3) := (blk_cell BK111.out 3).trans rfl
                                have hfz184_0 := blk_frozen BK111.out 0
                                have hfz184_1 := blk_frozen BK111.out 1
                                have hfz184_2 := blk_frozen BK111.out 2
                                have hfz184_3 := blk_frozen BK111.out 3
                                have hnb185 := NB112_113.out
                                have hnc185 := NB113_112.out
                                have hcz186_0 : wc.cell? ⟨gb112, 0, none⟩ = some (.bool false) := (blk_cell BK112.out 0).trans rfl
                                have hcz186_1 : wc.cell? ⟨gb112, 1, none⟩ = some (.int .i64 a1_1) := (blk_cell BK112.out 1).trans rfl
                                have hcz186_2 : wc.cell? ⟨gb112, 2, none⟩ = some (.string a1_2) := (blk_cell BK112.out 2).trans rfl
                                have hcz186_3 : wc.cell? ⟨gb112, 3, none⟩ = some (.string a1_3) := (blk_cell BK112.out 3).trans rfl
                                have hcz186_4 : wc.cell? ⟨gb112, 4, none⟩ = some (.bool a1_4) := (blk_cell BK112.out 4).trans rfl
                                have hcz186_5 : wc.cell? ⟨gb112, 5, none⟩ = some (.int .u32 a1_5) := (blk_cell BK112.out 5).trans rfl
                                have hcz186_6 : wc.cell? ⟨gb112, 6, none⟩ = some (.int .i64 a1_6) := (blk_cell BK112.out 6).trans rfl
                                have hfz186_0 := blk_frozen BK112.out 0
                                have hfz186_1 := blk_frozen BK112.out 1
                                have hfz186_2 := blk_frozen BK112.out 2
                                have hfz186_3 := blk_frozen BK112.out 3
                                have hfz186_4 := blk_frozen BK112.out 4
                                have hfz186_5 := blk_frozen BK112.out 5
                                have hfz186_6 := blk_frozen BK112.out 6
                                go_wp2_with (first | (go_at_call 84; (with_reducible refine (cspmatch_own.calls false a1_1 a1_2 a1_3 a1_4 a1_5 a1_6 false _ A156.out).mono ?_); rintro e w187 ⟨rfl, hb⟩; have n0_ := Aside0.mk (blk_below (g := gb111) (o := .cells #[.int .i64 a0_0, .string a0_1, .string a0_2, .int .i64 a0_3] 99 (0, 0)) (by (with_reducible repeat (first | refine blk_drewN ?_ _ | refine blk_drew ?_ | refine blk_alloc ?_ _)); exact BK111.out) hb); have n1_ := Aside0.mk (blk_below (g := gb112) (o := .cells #[.bool false, .int .i64 a1_1, .string a1_2, .string a1_3, .bool a1_4, .int .u32 a1_5, .int .i64 a1_6] 31 (0, 0)) (by (with_reducible repeat (first | refine blk_drewN ?_ _ | refine blk_drew ?_ | refine blk_alloc ?_ _)); exact BK112.out) hb); have n2_ := Aside0.mk (blk_below (g := gb113) (o := .cells #[.bool a2_0, .int .i64 a2_1, .string a2_2, .string a2_3, .bool a2_4, .int .u32 a2_5, .int .i64 a2_6] 31 (0, 0)) (by (with_reducible repeat (first | refine blk_drewN ?_ _ | refine blk_drew ?_ | refine blk_alloc ?_ _)); exact BK113.out) hb); have n3_ := Aside0.mk (below_step (by repeat (first | (with_reducible first | exact HB.out | apply below_alloc | apply pw_below_drewN | apply below_drew1 | refine below_set ?_ GE111.out | refine below_set ?_ GE112.out | refine below_set ?_ GE113.out) | exact HB.out)) hb); clear BK111; clear BK112; clear BK113; clear HB; have BK111 := n0_; have BK112 := n1_; have BK113 := n2_; have HB := n3_; clear n0_ n1_ n2_ n3_; (try clear hb); (try clear hb2); (try clear hk); (try clear hi); have hcz188_0 : w187.cell? ⟨gb111, 0, none⟩ = some (.int .i64 a0_0) := (blk_cell BK111.out 0).trans rfl; have hcz188_1 : w187.cell? ⟨gb111, 1, none⟩ = some (.string a0_1) := (blk_cell BK111.out 1).trans rfl; have hcz188_2 : w187.cell? ⟨gb111, 2, none⟩ = some (.string a0_2) := (blk_cell BK111.out 2).trans rfl; have hcz188_3 : w187.cell? ⟨gb111, 3, none⟩ = some (.int .i64 a0_3) := (blk_cell BK111.out 3).trans rfl; have hfz188_0 := blk_frozen BK111.out 0; have hfz188_1 := blk_frozen BK111.out 1; have hfz188_2 := blk_frozen BK111.out 2; have hfz188_3 := blk_frozen BK111.out 3))
                                go_meet
                                case rel => exact ⟨_, (false), (by first | rfl | (simp; done) | (simp [*]; done) | (simp [ne_nil_bool]; done)), H', ⟨by have := HJ106.out; have := HJ122.out; first | omega | exact Nat.le_refl _⟩, ⟨by (with_reducible repeat (first | refine blk_drewN ?_ _ | refine blk_drew ?_ | refine blk_alloc ?_ _)); exact BK111.out⟩, ⟨by (with_reducible repeat (first | refine blk_drewN ?_ _ | refine blk_drew ?_ | refine blk_alloc ?_ _)); exact BK112.out⟩, ⟨by (with_reducible repeat (first | refine blk_drewN ?_ _ | refine blk_drew ?_ | refine blk_alloc ?_ _)); exact BK113.out⟩, ⟨by repeat (first | (with_reducible first | exact HB.out | apply below_alloc | apply pw_below_drewN | apply below_drew1 | refine below_set ?_ GE111.out | refine below_set ?_ GE112.out | refine below_set ?_ GE113.out) | exact HB.out)⟩⟩
                          · rw [if_neg c155] at H
                            have c155b0 : (a0_3 == (-1)) = false := beq_eq_false_iff_ne.mpr c155
                            have c155b1 : (a0_3 != (-1)) = true := bne_iff_ne.mpr c155
                            by_cases c189 : a0_3 = 80
                            · rw [if_pos c189] at H
                              have c189b0 : (a0_3 == 80) = true := beq_iff_eq.mpr c189
                              have c189b1 : (a0_3 != 80) = false := bne_eq_false_iff_eq.mpr c189
                              clear c189
                              by_cases c190 : a1_2.toList = ([104, 116, 116, 112, 115] : List UInt8)
                              · rw [if_pos c190] at H
                                have c190b0 : (a1_2.toList == ([104, 116, 116, 112, 115] : List UInt8)) = true := beq_iff_eq.mpr c190
                                have c190b1 : (a1_2.toList != ([104, 116, 116, 112, 115] : List UInt8)) = false := bne_eq_false_iff_eq.mpr c190
                                clear c190
                                have H' := Aside0.mk H
                                clear H
                                have hnb191 := NB111_112.out
                                have hnc191 := NB112_111.out
                                have hnb192 := NB111_113.out
                                have hnc192 := NB113_111.out
                                have hcz193_0 : wc.cell? ⟨gb111, 0, none⟩ = some (.int .i64 a0_0) := (blk_cell BK111.out 0).trans rfl
                                have hcz193_1 : wc.cell? ⟨gb111, 1, none⟩ = some (.string a0_1) := (blk_cell BK111.out 1).trans rfl
                                have hcz193_2 : wc.cell? ⟨gb111, 2, none⟩ = some (.string a0_2) := (blk_cell BK111.out 2).trans rfl
                                have hcz193_3 : wc.cell? ⟨gb111, 3, none⟩ = some (.int .i64 a0_3) := (blk_cell BK111.out 3).trans rfl
                                have hfz193_0 := blk_frozen BK111.out 0
                                have hfz193_1 := blk_frozen BK111.out 1
                                have hfz193_2 := blk_frozen BK111.out 2
                                have hfz193_3 := blk_frozen BK111.out 3
                                have hnb194 := NB112_113.out
                                have hnc194 := NB113_112.out
                                have hcz195_0 : wc.cell? ⟨gb112, 0, none⟩ = some (.bool false) := (blk_cell BK112.out 0).trans rfl
                                have hcz195_1 : wc.cell? ⟨gb112, 1, none⟩ = some (.int .i64 a1_1) := (blk_cell BK112.out 1).trans rfl
                                have hcz195_2 : wc.cell? ⟨gb112, 2, none⟩ = some (.string a1_2) := (blk_cell BK112.out 2).trans rfl
                                have hcz195_3 : wc.cell? ⟨gb112, 3, none⟩ = some (.string a1_3) := (blk_cell BK112.out 3).trans rfl
                                have hcz195_4 : wc.cell? ⟨gb112, 4, none⟩ = some (.bool a1_4) := (blk_cell BK112.out 4).trans rfl
                                have hcz195_5 : wc.cell? ⟨gb112, 5, none⟩ = some (.int .u32 a1_5) := (blk_cell BK112.out 5).trans rfl
                                have hcz195_6 : wc.cell? ⟨gb112, 6, none⟩ = some (.int .i64 a1_6) := (blk_cell BK112.out 6).trans rfl
                                have hfz195_0 := blk_frozen BK112.out 0
                                have hfz195_1 := blk_frozen BK112.out 1
                                have hfz195_2 := blk_frozen BK112.out 2
                                have hfz195_3 := blk_frozen BK112.out 3
                                have hfz195_4 := blk_frozen BK112.out 4
                                have hfz195_5 := blk_frozen BK112.out 5
                                have hfz195_6 := blk_frozen BK112.out 6
                                go_wp2
                                go_meet
                                case rel => exact ⟨_, ((a1_6 == 443)), (by first | rfl | (simp; done) | (simp [*]; done) | (simp [ne_nil_bool]; done)), H', ⟨by have := HJ106.out; have := HJ122.out; first | omega | exact Nat.le_refl _⟩, ⟨by (with_reducible repeat (first | refine blk_drewN ?_ _ | refine blk_drew ?_ | refine blk_alloc ?_ _)); exact BK111.out⟩, ⟨by (with_reducible repeat (first | refine blk_drewN ?_ _ | refine blk_drew ?_ | refine blk_alloc ?_ _)); exact BK112.out⟩, ⟨by (with_reducible repeat (first | refine blk_drewN ?_ _ | refine blk_drew ?_ | refine blk_alloc ?_ _)); exact BK113.out⟩, ⟨by repeat (first | (with_reducible first | exact HB.out | apply below_alloc | apply pw_below_drewN | apply below_drew1 | refine below_set ?_ GE111.out | refine below_set ?_ GE112.out | refine below_set ?_ GE113.out) | exact HB.out)⟩⟩
                              · rw [if_neg c190] at H
                                have c190b0 : (a1_2.toList == ([104, 116, 116, 112, 115] : List UInt8)) = false := beq_eq_false_iff_ne.mpr c190
                                have c190b1 : (a1_2.toList != ([104, 116, 116, 112, 115] : List UInt8)) = true := bne_iff_ne.mpr c190
                                have H' := Aside0.mk H
                                clear H
                                have hnb196 := NB111_112.out
                                have hnc196 := NB112_111.out
                                have hnb197 := NB111_113.out
                                have hnc197 := NB113_111.out
                                have hcz198_0 : wc.cell? ⟨gb111, 0, none⟩ = some (.int .i64 a0_0) := (blk_cell BK111.out 0).trans rfl
                                have hcz198_1 : wc.cell? ⟨gb111, 1, none⟩ = some (.string a0_1) := (blk_cell BK111.out 1).trans rfl
                                have hcz198_2 : wc.cell? ⟨gb111, 2, none⟩ = some (.string a0_2) := (blk_cell BK111.out 2).trans rfl
                                have hcz198_3 : wc.cell? ⟨gb111, 3, none⟩ = some (.int .i64 a0_3) := (blk_cell BK111.out 3).trans rfl
                                have hfz198_0 := blk_frozen BK111.out 0
                                have hfz198_1 := blk_frozen BK111.out 1
                                have hfz198_2 := blk_frozen BK111.out 2
                                have hfz198_3 := blk_frozen BK111.out 3
                                have hnb199 := NB112_113.out
                                have hnc199 := NB113_112.out
                                have hcz200_0 : wc.cell? ⟨gb112, 0, none⟩ = some (.bool false) := (blk_cell BK112.out 0).trans rfl
                                have hcz200_1 : wc.cell? ⟨gb112, 1, none⟩ = some (.int .i64 a1_1) := (blk_cell BK112.out 1).trans rfl
                                have hcz200_2 : wc.cell? ⟨gb112, 2, none⟩ = some (.string a1_2) := (blk_cell BK112.out 2).trans rfl
                                have hcz200_3 : wc.cell? ⟨gb112, 3, none⟩ = some (.string a1_3) := (blk_cell BK112.out 3).trans rfl
                                have hcz200_4 : wc.cell? ⟨gb112, 4, none⟩ = some (.bool a1_4) := (blk_cell BK112.out 4).trans rfl
                                have hcz200_5 : wc.cell? ⟨gb112, 5, none⟩ = some (.int .u32 a1_5) := (blk_cell BK112.out 5).trans rfl
                                have hcz200_6 : wc.cell? ⟨gb112, 6, none⟩ = some (.int .i64 a1_6) := (blk_cell BK112.out 6).trans rfl
                                have hfz200_0 := blk_frozen BK112.out 0
                                have hfz200_1 := blk_frozen BK112.out 1
                                have hfz200_2 := blk_frozen BK112.out 2
                                have hfz200_3 := blk_frozen BK112.out 3
                                have hfz200_4 := blk_frozen BK112.out 4
                                have hfz200_5 := blk_frozen BK112.out 5
                                have hfz200_6 := blk_frozen BK112.out 6
                                go_wp2
                                go_meet
                                case rel => exact ⟨_, (false), (by first | rfl | (simp; done) | (simp [*]; done) | (simp [ne_nil_bool]; done)), H', ⟨by have := HJ106.out; have := HJ122.out; first | omega | exact Nat.le_refl _⟩, ⟨by (with_reducible repeat (first | refine blk_drewN ?_ _ | refine blk_drew ?_ | refine blk_alloc ?_ _)); exact BK111.out⟩, ⟨by (with_reducible repeat (first | refine blk_drewN ?_ _ | refine blk_drew ?_ | refine blk_alloc ?_ _)); exact BK112.out⟩, ⟨by (with_reducible repeat (first | refine blk_drewN ?_ _ | refine blk_drew ?_ | refine blk_alloc ?_ _)); exact BK113.out⟩, ⟨by repeat (first | (with_reducible first | exact HB.out | apply below_alloc | apply pw_below_drewN | apply below_drew1 | refine below_set ?_ GE111.out | refine below_set ?_ GE112.out | refine below_set ?_ GE113.out) | exact HB.out)⟩⟩
                            · rw [if_neg c189] at H
                              have c189b0 : (a0_3 == 80) = false := beq_eq_false_iff_ne.mpr c189
                              have c189b1 : (a0_3 != 80) = true := bne_iff_ne.mpr c189
                              have H' := Aside0.mk H
                              clear H
                              have hnb201 := NB111_112.out
                              have hnc201 := NB112_111.out
                              have hnb202 := NB111_113.out
                              have hnc202 := NB113_111.out
                              have hcz203_0 : wc.cell? ⟨gb111, 0, none⟩ = some (.int .i64 a0_0) := (blk_cell BK111.out 0).trans rfl
                              have hcz203_1 : wc.cell? ⟨gb111, 1, none⟩ = some (.string a0_1) := (blk_cell BK111.out 1).trans rfl
                              have hcz203_2 : wc.cell? ⟨gb111, 2, none⟩ = some (.string a0_2) := (blk_cell BK111.out 2).trans rfl
                              have hcz203_3 : wc.cell? ⟨gb111, 3, none⟩ = some (.int .i64 a0_3) := (blk_cell BK111.out 3).trans rfl
                              have hfz203_0 := blk_frozen BK111.out 0
                              have hfz203_1 := blk_frozen BK111.out 1
                              have hfz203_2 := blk_frozen BK111.out 2
                              have hfz203_3 := blk_frozen BK111.out 3
                              have hnb204 := NB112_113.out
                              have hnc204 := NB113_112.out
                              have hcz205_0 : wc.cell? ⟨gb112, 0, none⟩ = some (.bool false) := (blk_cell BK112.out 0).trans rfl
                              have hcz205_1 : wc.cell? ⟨gb112, 1, none⟩ = some (.int .i64 a1_1) := (blk_cell BK112.out 1).trans rfl
                              have hcz205_2 : wc.cell? ⟨gb112, 2, none⟩ = some (.string a1_2) := (blk_cell BK112.out 2).trans rfl
                              have hcz205_3 : wc.cell? ⟨gb112, 3, none⟩ = some (.string a1_3) := (blk_cell BK112.out 3).trans rfl
                              have hcz205_4 : wc.cell? ⟨gb112, 4, none⟩ = some (.bool a1_4) := (blk_cell BK112.out 4).trans rfl
                              have hcz205_5 : wc.cell? ⟨gb112, 5, none⟩ = some (.int .u32 a1_5) := (blk_cell BK112.out 5).trans rfl
                              have hcz205_6 : wc.cell? ⟨gb112, 6, none⟩ = some (.int .i64 a1_6) := (blk_cell BK112.out 6).trans rfl
                              have hfz205_0 := blk_frozen BK112.out 0
                              have hfz205_1 := blk_frozen BK112.out 1
                              have hfz205_2 := blk_frozen BK112.out 2
                              have hfz205_3 := blk_frozen BK112.out 3
                              have hfz205_4 := blk_frozen BK112.out 4
                              have hfz205_5 := blk_frozen BK112.out 5
                              have hfz205_6 := blk_frozen BK112.out 6
                              go_wp2
                              go_meet
                              case rel => exact ⟨_, (false), (by first | rfl | (simp; done) | (simp [*]; done) | (simp [ne_nil_bool]; done)), H', ⟨by have := HJ106.out; have := HJ122.out; first | omega | exact Nat.le_refl _⟩, ⟨by (with_reducible repeat (first | refine blk_drewN ?_ _ | refine blk_drew ?_ | refine blk_alloc ?_ _)); exact BK111.out⟩, ⟨by (with_reducible repeat (first | refine blk_drewN ?_ _ | refine blk_drew ?_ | refine blk_alloc ?_ _)); exact BK112.out⟩, ⟨by (with_reducible repeat (first | refine blk_drewN ?_ _ | refine blk_drew ?_ | refine blk_alloc ?_ _)); exact BK113.out⟩, ⟨by repeat (first | (with_reducible first | exact HB.out | apply below_alloc | apply pw_below_drewN | apply below_drew1 | refine below_set ?_ GE111.out | refine below_set ?_ GE112.out | refine below_set ?_ GE113.out) | exact HB.out)⟩⟩
                    case rest =>
                      clear HC144
                      try clear c1
                      try clear c2
                      try clear p2
                      try clear c14
                      try clear c15
                      try clear c16
                      try clear c17
                      try clear c18
                      try clear c19
                      try clear c20
                      try clear c145
                      try clear c145b0
                      try clear c145b1
                      try clear c146
                      try clear c147
                      try clear c149
                      try clear c149b0
                      try clear c149b1
                      try clear c150
                      try clear c151
                      try clear c153
                      try clear c155
                      try clear c155b0
                      try clear c155b1
                      try clear c157
                      try clear c158
                      try clear c159
                      try clear c161
                      try clear c164
                      try clear c164b0
                      try clear c164b1
                      try clear c165
                      try clear c165b0
                      try clear c165b1
                      try clear c166
                      try clear c167
                      try clear c169
                      try clear c174
                      try clear c175
                      try clear c177
                      try clear c182
                      try clear c183
                      try clear c185
                      try clear c189
                      try clear c189b0
                      try clear c189b1
                      try clear c190
                      try clear c190b0
                      try clear c190b1
                      try clear c191
                      try clear c192
                      try clear c194
                      try clear c196
                      try clear c197
                      try clear c199
                      try clear c201
                      try clear c202
                      try clear c204
                      try clear hcz148_0
                      try clear hcz148_1
                      try clear hcz148_2
                      try clear hcz148_3
                      try clear hcz152_0
                      try clear hcz152_1
                      try clear hcz152_2
                      try clear hcz152_3
                      try clear hcz154_0
                      try clear hcz154_1
                      try clear hcz154_2
                      try clear hcz154_3
                      try clear hcz154_4
                      try clear hcz154_5
                      try clear hcz154_6
                      try clear hcz160_0
                      try clear hcz160_1
                      try clear hcz160_2
                      try clear hcz160_3
                      try clear hcz162_0
                      try clear hcz162_1
                      try clear hcz162_2
                      try clear hcz162_3
                      try clear hcz162_4
                      try clear hcz162_5
                      try clear hcz162_6
                      try clear hcz168_0
                      try clear hcz168_1
                      try clear hcz168_2
                      try clear hcz168_3
                      try clear hcz170_0
                      try clear hcz170_1
                      try clear hcz170_2
                      try clear hcz170_3
                      try clear hcz170_4
                      try clear hcz170_5
                      try clear hcz170_6
                      try clear hcz172_0
                      try clear hcz172_1
                      try clear hcz172_2
                      try clear hcz172_3
                      try clear hcz173_0
                      try clear hcz173_1
                      try clear hcz173_2
                      try clear hcz173_3
                      try clear hcz173_4
                      try clear hcz173_5
                      try clear hcz173_6
                      try clear hcz176_0
                      try clear hcz176_1
                      try clear hcz176_2
                      try clear hcz176_3
                      try clear hcz178_0
                      try clear hcz178_1
                      try clear hcz178_2
                      try clear hcz178_3
                      try clear hcz178_4
                      try clear hcz178_5
                      try clear hcz178_6
                      try clear hcz180_0
                      try clear hcz180_1
                      try clear hcz180_2
                      try clear hcz180_3
                      try clear hcz181_0
                      try clear hcz181_1
                      try clear hcz181_2
                      try clear hcz181_3
                      try clear hcz181_4
                      try clear hcz181_5
                      try clear hcz181_6
                      try clear hcz184_0
                      try clear hcz184_1
                      try clear hcz184_2
                      try clear hcz184_3
                      try clear hcz186_0
                      try clear hcz186_1
                      try clear hcz186_2
                      try clear hcz186_3
                      try clear hcz186_4
                      try clear hcz186_5
                      try clear hcz186_6
                      try clear hcz188_0
                      try clear hcz188_1
                      try clear hcz188_2
                      try clear hcz188_3
                      try clear hcz193_0
                      try clear hcz193_1
                      try clear hcz193_2
                      try clear hcz193_3
                      try clear hcz195_0
                      try clear hcz195_1
                      try clear hcz195_2
                      try clear hcz195_3
                      try clear hcz195_4
                      try clear hcz195_5
                      try clear hcz195_6
                      try clear hcz198_0
                      try clear hcz198_1
                      try clear hcz198_2
                      try clear hcz198_3
                      try clear hcz200_0
                      try clear hcz200_1
                      try clear hcz200_2
                      try clear hcz200_3
                      try clear hcz200_4
                      try clear hcz200_5
                      try clear hcz200_6
                      try clear hcz203_0
                      try clear hcz203_1
                      try clear hcz203_2
                      try clear hcz203_3
                      try clear hcz205_0
                      try clear hcz205_1
                      try clear hcz205_2
                      try clear hcz205_3
                      try clear hcz205_4
                      try clear hcz205_5
                      try clear hcz205_6
                      try clear hfz119_0
                      try clear hfz119_1
                      try clear hfz119_2
                      try clear hfz119_3
                      try clear hfz119_4
                      try clear hfz119_5
                      try clear hfz119_6
                      try clear hfz122_0
                      try clear hfz122_1
                      try clear hfz122_2
                      try clear hfz122_3
                      try clear hfz122_4
                      try clear hfz122_5
                      try clear hfz122_6
                      try clear hfz128_0
                      try clear hfz128_1
                      try clear hfz128_2
                      try clear hfz128_3
                      try clear hfz130_0
                      try clear hfz130_1
                      try clear hfz130_2
                      try clear hfz130_3
                      try clear hfz130_4
                      try clear hfz130_5
                      try clear hfz130_6
                      try clear hfz134_0
                      try clear hfz134_1
                      try clear hfz134_2
                      try clear hfz134_3
                      try clear hfz136_0
                      try clear hfz136_1
                      try clear hfz136_2
                      try clear hfz136_3
                      try clear hfz136_4
                      try clear hfz136_5
                      try clear hfz136_6
                      try clear hfz137_0
                      try clear hfz137_1
                      try clear hfz137_2
                      try clear hfz137_3
                      try clear hfz137_4
                      try clear hfz137_5
                      try clear hfz137_6
                      try clear hfz141_0
                      try clear hfz141_1
                      try clear hfz141_2
                      try clear hfz141_3
                      try clear hfz143_0
                      try clear hfz143_1
                      try clear hfz143_2
                      try clear hfz143_3
                      try clear hfz143_4
                      try clear hfz143_5
                      try clear hfz143_6
                      try clear hfz148_0
                      try clear hfz148_1
                      try clear hfz148_2
                      try clear hfz148_3
                      try clear hfz152_0
                      try clear hfz152_1
                      try clear hfz152_2
                      try clear hfz152_3
                      try clear hfz154_0
                      try clear hfz154_1
                      try clear hfz154_2
                      try clear hfz154_3
                      try clear hfz154_4
                      try clear hfz154_5
                      try clear hfz154_6
                      try clear hfz160_0
                      try clear hfz160_1
                      try clear hfz160_2
                      try clear hfz160_3
                      try clear hfz162_0
                      try clear hfz162_1
                      try clear hfz162_2
                      try clear hfz162_3
                      try clear hfz162_4
                      try clear hfz162_5
                      try clear hfz162_6
                      try clear hfz168_0
                      try clear hfz168_1
                      try clear hfz168_2
                      try clear hfz168_3
                      try clear hfz170_0
                      try clear hfz170_1
                      try clear hfz170_2
                      try clear hfz170_3
                      try clear hfz170_4
                      try clear hfz170_5
                      try clear hfz170_6
                      try clear hfz172_0
                      try clear hfz172_1
                      try clear hfz172_2
                      try clear hfz172_3
                      try clear hfz173_0
                      try clear hfz173_1
                      try clear hfz173_2
                      try clear hfz173_3
                      try clear hfz173_4
                      try clear hfz173_5
                      try clear hfz173_6
                      try clear hfz176_0
                      try clear hfz176_1
                      try clear hfz176_2
                      try clear hfz176_3
                      try clear hfz178_0
                      try clear hfz178_1
                      try clear hfz178_2
                      try clear hfz178_3
                      try clear hfz178_4
                      try clear hfz178_5
                      try clear hfz178_6
                      try clear hfz17_0
                      try clear hfz17_1
                      try clear hfz17_2
                      try clear hfz17_3
                      try clear hfz17_4
                      try clear hfz17_5
                      try clear hfz17_6
                      try clear hfz180_0
                      try clear hfz180_1
                      try clear hfz180_2
                      try clear hfz180_3
                      try clear hfz181_0
                      try clear hfz181_1
                      try clear hfz181_2
                      try clear hfz181_3
                      try clear hfz181_4
                      try clear hfz181_5
                      try clear hfz181_6
                      try clear hfz184_0
                      try clear hfz184_1
                      try clear hfz184_2
                      try clear hfz184_3
                      try clear hfz186_0
                      try clear hfz186_1
                      try clear hfz186_2
                      try clear hfz186_3
                      try clear hfz186_4
                      try clear hfz186_5
                      try clear hfz186_6
                      try clear hfz188_0
                      try clear hfz188_1
                      try clear hfz188_2
                      try clear hfz188_3
                      try clear hfz193_0
                      try clear hfz193_1
                      try clear hfz193_2
                      try clear hfz193_3
                      try clear hfz195_0
                      try clear hfz195_1
                      try clear hfz195_2
                      try clear hfz195_3
                      try clear hfz195_4
                      try clear hfz195_5
                      try clear hfz195_6
                      try clear hfz198_0
                      try clear hfz198_1
                      try clear hfz198_2
                      try clear hfz198_3
                      try clear hfz19_0
                      try clear hfz19_1
                      try clear hfz19_2
                      try clear hfz19_3
                      try clear hfz200_0
                      try clear hfz200_1
                      try clear hfz200_2
                      try clear hfz200_3
                      try clear hfz200_4
                      try clear hfz200_5
                      try clear hfz200_6
                      try clear hfz203_0
                      try clear hfz203_1
                      try clear hfz203_2
                      try clear hfz203_3
                      try clear hfz205_0
                      try clear hfz205_1
                      try clear hfz205_2
                      try clear hfz205_3
                      try clear hfz205_4
                      try clear hfz205_5
                      try clear hfz205_6
                      try clear hfz27_0
                      try clear hfz27_1
                      try clear hfz27_2
                      try clear hfz27_3
                      try clear hfz27_4
                      try clear hfz27_5
                      try clear hfz27_6
                      try clear hfz29_0
                      try clear hfz29_1
                      try clear hfz29_2
                      try clear hfz29_3
                      try clear hfz37_0
                      try clear hfz37_1
                      try clear hfz37_2
                      try clear hfz37_3
                      try clear hfz37_4
                      try clear hfz37_5
                      try clear hfz37_6
                      try clear hfz39_0
                      try clear hfz39_1
                      try clear hfz39_2
                      try clear hfz39_3
                      try clear hfz43_0
                      try clear hfz43_1
                      try clear hfz43_2
                      try clear hfz43_3
                      try clear hfz43_4
                      try clear hfz43_5
                      try clear hfz43_6
                      try clear hfz45_0
                      try clear hfz45_1
                      try clear hfz45_2
                      try clear hfz45_3
                      try clear hfz45_4
                      try clear hfz45_5
                      try clear hfz45_6
                      try clear hfz51_0
                      try clear hfz51_1
                      try clear hfz51_2
                      try clear hfz51_3
                      try clear hfz51_4
                      try clear hfz51_5
                      try clear hfz51_6
                      try clear hfz53_0
                      try clear hfz53_1
                      try clear hfz53_2
                      try clear hfz53_3
                      try clear hfz53_4
                      try clear hfz53_5
                      try clear hfz53_6
                      try clear hfz55_0
                      try clear hfz55_1
                      try clear hfz55_2
                      try clear hfz55_3
                      try clear hfz55_4
                      try clear hfz55_5
                      try clear hfz55_6
                      try clear hfz59_0
                      try clear hfz59_1
                      try clear hfz59_2
                      try clear hfz59_3
                      try clear hfz59_4
                      try clear hfz59_5
                      try clear hfz59_6
                      try clear hfz61_0
                      try clear hfz61_1
                      try clear hfz61_2
                      try clear hfz61_3
                      try clear hfz61_4
                      try clear hfz61_5
                      try clear hfz61_6
                      try clear hfz67_0
                      try clear hfz67_1
                      try clear hfz67_2
                      try clear hfz67_3
                      try clear hfz67_4
                      try clear hfz67_5
                      try clear hfz67_6
                      try clear hfz69_0
                      try clear hfz69_1
                      try clear hfz69_2
                      try clear hfz69_3
                      try clear hfz69_4
                      try clear hfz69_5
                      try clear hfz69_6
                      try clear hfz74_0
                      try clear hfz74_1
                      try clear hfz74_2
                      try clear hfz74_3
                      try clear hfz74_4
                      try clear hfz74_5
                      try clear hfz74_6
                      try clear hfz76_0
                      try clear hfz76_1
                      try clear hfz76_2
                      try clear hfz76_3
                      try clear hfz76_4
                      try clear hfz76_5
                      try clear hfz76_6
                      try clear hfz78_0
                      try clear hfz78_1
                      try clear hfz78_2
                      try clear hfz78_3
                      try clear hfz78_4
                      try clear hfz78_5
                      try clear hfz78_6
                      try clear hfz84_0
                      try clear hfz84_1
                      try clear hfz84_2
                      try clear hfz84_3
                      try clear hfz84_4
                      try clear hfz84_5
                      try clear hfz84_6
                      try clear hfz86_0
                      try clear hfz86_1
                      try clear hfz86_2
                      try clear hfz86_3
                      try clear hfz86_4
                      try clear hfz86_5
                      try clear hfz86_6
                      try clear hfz88_0
                      try clear hfz88_1
                      try clear hfz88_2
                      try clear hfz88_3
                      try clear hfz88_4
                      try clear hfz88_5
                      try clear hfz88_6
                      try clear hfz89_0
                      try clear hfz89_1
                      try clear hfz89_2
                      try clear hfz89_3
                      try clear hfz89_4
                      try clear hfz89_5
                      try clear hfz89_6
                      try clear hfz92_0
                      try clear hfz92_1
                      try clear hfz92_2
                      try clear hfz92_3
                      try clear hfz92_4
                      try clear hfz92_5
                      try clear hfz92_6
                      try clear hfz94_0
                      try clear hfz94_1
                      try clear hfz94_2
                      try clear hfz94_3
                      try clear hfz94_4
                      try clear hfz94_5
                      try clear hfz94_6
                      try clear hfz96_0
                      try clear hfz96_1
                      try clear hfz96_2
                      try clear hfz96_3
                      try clear hfz96_4
                      try clear hfz96_5
                      try clear hfz96_6
                      try clear hfz97_0
                      try clear hfz97_1
                      try clear hfz97_2
                      try clear hfz97_3
                      try clear hfz97_4
                      try clear hfz97_5
                      try clear hfz97_6
                      try clear p2
                      obtain ⟨kq, x9_143, rfl, HA, HJ143, BK111, BK112, BK113, HB⟩ := hcut
                      cases kq with
                      | zero => exact absurd HA.out (by simp [cspmatch_Match.j3])
                      | succ kj143 =>
                        have H := HA.out
                        clear HA
                        simp only [cspmatch_Match.j3] at H
                        by_cases c206 : x8_122 = true
                        · subst c206
                          have H1 : (if x9_143 = true then ((cspmatch_named.f a0_2 false a1_1 a1_2 a1_3 a1_4 a1_5 a1_6).bind fun t122 => (some t122)) else (some false)) = some r := by rw [if_pos rfl] at H; exact H
                          clear H
                          have H := H1
                          clear H1
                          by_cases c207 : x9_143 = true
                          · subst c207
                            have H1 : ((cspmatch_named.f a0_2 false a1_1 a1_2 a1_3 a1_4 a1_5 a1_6).bind fun t122 => (some t122)) = some r := by rw [if_pos rfl] at H; exact H
                            clear H
                            have H := H1
                            clear H1
                            replace H := Option.bind_eq_some_iff.mp H
                            obtain ⟨t122, A2080, H⟩ := H
                            replace H : (some t122) = some r := H
                            have A208 := Aside0.mk A2080
                            clear A2080
                            obtain rfl := Option.some.inj H
                            have hnb209 := NB111_112.out
                            have hnc209 := NB112_111.out
                            have hnb210 := NB111_113.out
                            have hnc210 := NB113_111.out
                            have hcz211_0 : wc.cell? ⟨gb111, 0, none⟩ = some (.int .i64 a0_0) := (blk_cell BK111.out 0).trans rfl
                            have hcz211_1 : wc.cell? ⟨gb111, 1, none⟩ = some (.string a0_1) := (blk_cell BK111.out 1).trans rfl
                            have hcz211_2 : wc.cell? ⟨gb111, 2, none⟩ = some (.string a0_2) := (blk_cell BK111.out 2).trans rfl
                            have hcz211_3 : wc.cell? ⟨gb111, 3, none⟩ = some (.int .i64 a0_3) := (blk_cell BK111.out 3).trans rfl
                            have hfz211_0 := blk_frozen BK111.out 0
                            have hfz211_1 := blk_frozen BK111.out 1
                            have hfz211_2 := blk_frozen BK111.out 2
                            have hfz211_3 := blk_frozen BK111.out 3
                            have hnb212 := NB112_113.out
                            have hnc212 := NB113_112.out
                            have hcz213_0 : wc.cell? ⟨gb112, 0, none⟩ = some (.bool false) := (blk_cell BK112.out 0).trans rfl
                            have hcz213_1 : wc.cell? ⟨gb112, 1, none⟩ = some (.int .i64 a1_1) := (blk_cell BK112.out 1).trans rfl
                            have hcz213_2 : wc.cell? ⟨gb112, 2, none⟩ = some (.string a1_2) := (blk_cell BK112.out 2).trans rfl
                            have hcz213_3 : wc.cell? ⟨gb112, 3, none⟩ = some (.string a1_3) := (blk_cell BK112.out 3).trans rfl
                            have hcz213_4 : wc.cell? ⟨gb112, 4, none⟩ = some (.bool a1_4) := (blk_cell BK112.out 4).trans rfl
                            have hcz213_5 : wc.cell? ⟨gb112, 5, none⟩ = some (.int .u32 a1_5) := (blk_cell BK112.out 5).trans rfl
                            have hcz213_6 : wc.cell? ⟨gb112, 6, none⟩ = some (.int .i64 a1_6) := (blk_cell BK112.out 6).trans rfl
                            have hfz213_0 := blk_frozen BK112.out 0
                            have hfz213_1 := blk_frozen BK112.out 1
                            have hfz213_2 := blk_frozen BK112.out 2
                            have hfz213_3 := blk_frozen BK112.out 3
                            have hfz213_4 := blk_frozen BK112.out 4
                            have hfz213_5 := blk_frozen BK112.out 5
                            have hfz213_6 := blk_frozen BK112.out 6
                            go_wp2_with (first | (go_at_call 85; (with_reducible refine (cspmatch_named.calls a0_2 false a1_1 a1_2 a1_3 a1_4 a1_5 a1_6 t122 _ (Gw.to HG_.out (by repeat (first | (with_reducible first | exact HB.out | apply below_alloc | apply pw_below_drewN | apply below_drew1 | refine below_set ?_ GE111.out | refine below_set ?_ GE112.out | refine below_set ?_ GE113.out) | exact HB.out))) A208.out).mono ?_); rintro e w214 ⟨rfl, hb⟩; have n0_ := Aside0.mk (blk_below (g := gb111) (o := .cells #[.int .i64 a0_0, .string a0_1, .string a0_2, .int .i64 a0_3] 99 (0, 0)) (by (with_reducible repeat (first | refine blk_drewN ?_ _ | refine blk_drew ?_ | refine blk_alloc ?_ _)); exact BK111.out) hb); have n1_ := Aside0.mk (blk_below (g := gb112) (o := .cells #[.bool false, .int .i64 a1_1, .string a1_2, .string a1_3, .bool a1_4, .int .u32 a1_5, .int .i64 a1_6] 31 (0, 0)) (by (with_reducible repeat (first | refine blk_drewN ?_ _ | refine blk_drew ?_ | refine blk_alloc ?_ _)); exact BK112.out) hb); have n2_ := Aside0.mk (blk_below (g := gb113) (o := .cells #[.bool a2_0, .int .i64 a2_1, .string a2_2, .string a2_3, .bool a2_4, .int .u32 a2_5, .int .i64 a2_6] 31 (0, 0)) (by (with_reducible repeat (first | refine blk_drewN ?_ _ | refine blk_drew ?_ | refine blk_alloc ?_ _)); exact BK113.out) hb); have n3_ := Aside0.mk (below_step (by repeat (first | (with_reducible first | exact HB.out | apply below_alloc | apply pw_below_drewN | apply below_drew1 | refine below_set ?_ GE111.out | refine below_set ?_ GE112.out | refine below_set ?_ GE113.out) | exact HB.out)) hb); clear BK111; clear BK112; clear BK113; clear HB; have BK111 := n0_; have BK112 := n1_; have BK113 := n2_; have HB := n3_; clear n0_ n1_ n2_ n3_; (try clear hb); (try clear hb2); (try clear hk); (try clear hi)))
                            go_ret
                            exact ⟨by first | rfl | (simp [errW_none, errW_some] <;> rfl) | (simp [*, errW_none, errW_some] <;> rfl), by repeat (first | (with_reducible first | exact HB.out | apply below_alloc | apply pw_below_drewN | apply below_drew1 | refine below_set ?_ GE111.out | refine below_set ?_ GE112.out | refine below_set ?_ GE113.out) | exact HB.out)⟩
                          · replace c207 := Bool.eq_false_iff.mpr c207
                            subst c207
                            have H1 : (some false) = some r := by rw [if_neg (show ¬ (false = true) by decide)] at H; exact H
                            clear H
                            have H := H1
                            clear H1
                            obtain rfl := Option.some.inj H
                            go_wp2
                            go_ret
                            exact ⟨by first | rfl | (simp [errW_none, errW_some] <;> rfl) | (simp [*, errW_none, errW_some] <;> rfl), by repeat (first | (with_reducible first | exact HB.out | apply below_alloc | apply pw_below_drewN | apply below_drew1 | refine below_set ?_ GE111.out | refine below_set ?_ GE112.out | refine below_set ?_ GE113.out) | exact HB.out)⟩
                        · replace c206 := Bool.eq_false_iff.mpr c206
                          subst c206
                          have H1 : (some false) = some r := by rw [if_neg (show ¬ (false = true) by decide)] at H; exact H
                          clear H
                          have H := H1
                          clear H1
                          obtain rfl := Option.some.inj H
                          go_wp2
                          go_ret
                          exact ⟨by first | rfl | (simp [errW_none, errW_some] <;> rfl) | (simp [*, errW_none, errW_some] <;> rfl), by repeat (first | (with_reducible first | exact HB.out | apply below_alloc | apply pw_below_drewN | apply below_drew1 | refine below_set ?_ GE111.out | refine below_set ?_ GE112.out | refine below_set ?_ GE113.out) | exact HB.out)⟩
          · rw [if_neg c106] at H
            have c106b0 : (a0_0 == 4) = false := beq_eq_false_iff_ne.mpr c106
            have c106b1 : (a0_0 != 4) = true := bne_iff_ne.mpr c106
            obtain rfl := Option.some.inj H
            go_enter Tryz.func66, Tryz.ntmps66
            go_wp2_with (first | ((with_reducible refine gate_dst (N := 3) rfl ?_); refine box_event ?hg (N := 3) ?hd (cs := #[.int .i64 a0_0, .string a0_1, .string a0_2, .int .i64 a0_3]) (t := 99) ?hr ?_; (case hd => rfl); (case hg => rfl); (case hr => first | (go_simp; done) | (go_simp; rfl)); intro gb111 hg w215 hbox hb; have n0_ := Aside0.mk (below_step (by repeat (first | (with_reducible first | exact HB.out | apply below_alloc | apply pw_below_drewN | apply below_drew1) | exact HB.out)) hb); have n1_ := Aside0.mk (hbox); have n2_ := Aside0.mk ((by rw [hg]; exact (below_size (by repeat (first | (with_reducible first | exact HB.out | apply below_alloc | apply pw_below_drewN | apply below_drew1) | exact HB.out))) : w.heap.size ≤ gb111)); have n3_ := Aside0.mk ((by rw [hg]; exact (below_size (by repeat (first | (with_reducible first | exact HB.out | apply below_alloc | apply pw_below_drewN | apply below_drew1) | exact HB.out))) : w.heap.size ≤ gb111)); clear HB; have HB := n0_; have BK111 := n1_; have GW111 := n2_; have GE111 := n3_; clear n0_ n1_ n2_ n3_; clear hb hbox hg) | ((with_reducible refine gate_dst (N := 4) rfl ?_); refine box_event ?hg (N := 4) ?hd (cs := #[.bool false, .int .i64 a1_1, .string a1_2, .string a1_3, .bool a1_4, .int .u32 a1_5, .int .i64 a1_6]) (t := 31) ?hr ?_; (case hd => rfl); (case hg => rfl); (case hr => first | (go_simp; done) | (go_simp; rfl)); intro gb112 hg w216 hbox hb; have n0_ := Aside0.mk (blk_below (g := gb111) (o := .cells #[.int .i64 a0_0, .string a0_1, .string a0_2, .int .i64 a0_3] 99 (0, 0)) (by (with_reducible repeat (first | refine blk_drewN ?_ _ | refine blk_drew ?_ | refine blk_alloc ?_ _)); exact BK111.out) hb); have n1_ := Aside0.mk (below_step (by repeat (first | (with_reducible first | exact HB.out | apply below_alloc | apply pw_below_drewN | apply below_drew1 | refine below_set ?_ GE111.out) | exact HB.out)) hb); have n2_ := Aside0.mk (hbox); have n3_ := Aside0.mk ((by rw [hg]; exact (below_size (by repeat (first | (with_reducible first | exact HB.out | apply below_alloc | apply pw_below_drewN | apply below_drew1 | refine below_set ?_ GE111.out) | exact HB.out))) : w.heap.size ≤ gb112)); have n4_ := Aside0.mk ((by rw [hg]; exact (below_size (by repeat (first | (with_reducible first | exact HB.out | apply below_alloc | apply pw_below_drewN | apply below_drew1 | refine below_set ?_ GE111.out) | exact HB.out))) : w.heap.size ≤ gb112)); have n5_ := Aside0.mk ((by rw [hg]; exact Nat.ne_of_lt (blk_lt (g := gb111) (o := .cells #[.int .i64 a0_0, .string a0_1, .string a0_2, .int .i64 a0_3] 99 (0, 0)) (by (with_reducible repeat (first | refine blk_drewN ?_ _ | refine blk_drew ?_ | refine blk_alloc ?_ _)); exact BK111.out)) : gb111 ≠ gb112)); have n6_ := Aside0.mk ((by rw [hg]; exact Nat.ne_of_gt (blk_lt (g := gb111) (o := .cells #[.int .i64 a0_0, .string a0_1, .string a0_2, .int .i64 a0_3] 99 (0, 0)) (by (with_reducible repeat (first | refine blk_drewN ?_ _ | refine blk_drew ?_ | refine blk_alloc ?_ _)); exact BK111.out)) : gb112 ≠ gb111)); clear BK111; clear HB; have BK111 := n0_; have HB := n1_; have BK112 := n2_; have GW112 := n3_; have GE112 := n4_; have NB111_112 := n5_; have NB112_111 := n6_; clear n0_ n1_ n2_ n3_ n4_ n5_ n6_; clear hb hbox hg) | ((with_reducible refine gate_dst (N := 5) rfl ?_); refine box_event ?hg (N := 5) ?hd (cs := #[.bool a2_0, .int .i64 a2_1, .string a2_2, .string a2_3, .bool a2_4, .int .u32 a2_5, .int .i64 a2_6]) (t := 31) ?hr ?_; (case hd => rfl); (case hg => rfl); (case hr => first | (go_simp; done) | (go_simp; rfl)); intro gb113 hg w217 hbox hb; have n0_ := Aside0.mk (blk_below (g := gb111) (o := .cells #[.int .i64 a0_0, .string a0_1, .string a0_2, .int .i64 a0_3] 99 (0, 0)) (by (with_reducible repeat (first | refine blk_drewN ?_ _ | refine blk_drew ?_ | refine blk_alloc ?_ _)); exact BK111.out) hb); have n1_ := Aside0.mk (blk_below (g := gb112) (o := .cells #[.bool false, .int .i64 a1_1, .string a1_2, .string a1_3, .bool a1_4, .int .u32 a1_5, .int .i64 a1_6] 31 (0, 0)) (by (with_reducible repeat (first | refine blk_drewN ?_ _ | refine blk_drew ?_ | refine blk_alloc ?_ _)); exact BK112.out) hb); have n2_ := Aside0.mk (below_step (by repeat (first | (with_reducible first | exact HB.out | apply below_alloc | apply pw_below_drewN | apply below_drew1 | refine below_set ?_ GE111.out | refine below_set ?_ GE112.out) | exact HB.out)) hb); have n3_ := Aside0.mk (hbox); have n4_ := Aside0.mk ((by rw [hg]; exact (below_size (by repeat (first | (with_reducible first | exact HB.out | apply below_alloc | apply pw_below_drewN | apply below_drew1 | refine below_set ?_ GE111.out | refine below_set ?_ GE112.out) | exact HB.out))) : w.heap.size ≤ gb113)); have n5_ := Aside0.mk ((by rw [hg]; exact (below_size (by repeat (first | (with_reducible first | exact HB.out | apply below_alloc | apply pw_below_drewN | apply below_drew1 | refine below_set ?_ GE111.out | refine below_set ?_ GE112.out) | exact HB.out))) : w.heap.size ≤ gb113)); have n6_ := Aside0.mk ((by rw [hg]; exact Nat.ne_of_lt (blk_lt (g := gb111) (o := .cells #[.int .i64 a0_0, .string a0_1, .string a0_2, .int .i64 a0_3] 99 (0, 0)) (by (with_reducible repeat (first | refine blk_drewN ?_ _ | refine blk_drew ?_ | refine blk_alloc ?_ _)); exact BK111.out)) : gb111 ≠ gb113)); have n7_ := Aside0.mk ((by rw [hg]; exact Nat.ne_of_gt (blk_lt (g := gb111) (o := .cells #[.int .i64 a0_0, .string a0_1, .string a0_2, .int .i64 a0_3] 99 (0, 0)) (by (with_reducible repeat (first | refine blk_drewN ?_ _ | refine blk_drew ?_ | refine blk_alloc ?_ _)); exact BK111.out)) : gb113 ≠ gb111)); have n8_ := Aside0.mk ((by rw [hg]; exact Nat.ne_of_lt (blk_lt (g := gb112) (o := .cells #[.bool false, .int .i64 a1_1, .string a1_2, .string a1_3, .bool a1_4, .int .u32 a1_5, .int .i64 a1_6] 31 (0, 0)) (by (with_reducible repeat (first | refine blk_drewN ?_ _ | refine blk_drew ?_ | refine blk_alloc ?_ _)); exact BK112.out)) : gb112 ≠ gb113)); have n9_ := Aside0.mk ((by rw [hg]; exact Nat.ne_of_gt (blk_lt (g := gb112) (o := .cells #[.bool false, .int .i64 a1_1, .string a1_2, .string a1_3, .bool a1_4, .int .u32 a1_5, .int .i64 a1_6] 31 (0, 0)) (by (with_reducible repeat (first | refine blk_drewN ?_ _ | refine blk_drew ?_ | refine blk_alloc ?_ _)); exact BK112.out)) : gb113 ≠ gb112)); clear BK111; clear BK112; clear HB; have BK111 := n0_; have BK112 := n1_; have HB := n2_; have BK113 := n3_; have GW113 := n4_; have GE113 := n5_; have NB111_113 := n6_; have NB113_111 := n7_; have NB112_113 := n8_; have NB113_112 := n9_; clear n0_ n1_ n2_ n3_ n4_ n5_ n6_ n7_ n8_ n9_; clear hb hbox hg; have hnb218 := NB112_111.out; have hnc218 := NB111_112.out; have hnb219 := NB112_113.out; have hnc219 := NB113_112.out; have hcz220_0 : w217.cell? ⟨gb112, 0, none⟩ = some (.bool false) := (blk_cell BK112.out 0).trans rfl; have hcz220_1 : w217.cell? ⟨gb112, 1, none⟩ = some (.int .i64 a1_1) := (blk_cell BK112.out 1).trans rfl; have hcz220_2 : w217.cell? ⟨gb112, 2, none⟩ = some (.string a1_2) := (blk_cell BK112.out 2).trans rfl; have hcz220_3 : w217.cell? ⟨gb112, 3, none⟩ = some (.string a1_3) := (blk_cell BK112.out 3).trans rfl; have hcz220_4 : w217.cell? ⟨gb112, 4, none⟩ = some (.bool a1_4) := (blk_cell BK112.out 4).trans rfl; have hcz220_5 : w217.cell? ⟨gb112, 5, none⟩ = some (.int .u32 a1_5) := (blk_cell BK112.out 5).trans rfl; have hcz220_6 : w217.cell? ⟨gb112, 6, none⟩ = some (.int .i64 a1_6) := (blk_cell BK112.out 6).trans rfl; have hfz220_0 := blk_frozen BK112.out 0; have hfz220_1 := blk_frozen BK112.out 1; have hfz220_2 := blk_frozen BK112.out 2; have hfz220_3 := blk_frozen BK112.out 3; have hfz220_4 := blk_frozen BK112.out 4; have hfz220_5 := blk_frozen BK112.out 5; have hfz220_6 := blk_frozen BK112.out 6; have hnb221 := NB111_113.out; have hnc221 := NB113_111.out; have hcz222_0 : w217.cell? ⟨gb111, 0, none⟩ = some (.int .i64 a0_0) := (blk_cell BK111.out 0).trans rfl; have hcz222_1 : w217.cell? ⟨gb111, 1, none⟩ = some (.string a0_1) := (blk_cell BK111.out 1).trans rfl; have hcz222_2 : w217.cell? ⟨gb111, 2, none⟩ = some (.string a0_2) := (blk_cell BK111.out 2).trans rfl; have hcz222_3 : w217.cell? ⟨gb111, 3, none⟩ = some (.int .i64 a0_3) := (blk_cell BK111.out 3).trans rfl; have hfz222_0 := blk_frozen BK111.out 0; have hfz222_1 := blk_frozen BK111.out 1; have hfz222_2 := blk_frozen BK111.out 2; have hfz222_3 := blk_frozen BK111.out 3))
            go_ret
            exact ⟨by first | rfl | (simp [errW_none, errW_some] <;> rfl) | (simp [*, errW_none, errW_some] <;> rfl), by repeat (first | (with_reducible first | exact HB.out | apply below_alloc | apply pw_below_drewN | apply below_drew1 | refine below_set ?_ GE111.out | refine below_set ?_ GE112.out | refine below_set ?_ GE113.out) | exact HB.out)⟩

end Go.Proofs.YtgmacggbhcodjaaGreatDoor.L4

