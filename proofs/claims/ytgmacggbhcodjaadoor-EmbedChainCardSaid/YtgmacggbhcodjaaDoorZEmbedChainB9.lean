/- A part of the claim EmbedChain: B9. -/
import Derived.Test.YtgmacggbhcodjaaDoorZEmbedChainB8
import Derived.Test.YtgmacggbhcodjaaDoorZEmbedChainO1
import Derived.Test.YtgmacggbhcodjaaDoorZEmbedChainBF
import Derived.Laws.NewBlocks
namespace Go.Proofs.YtgmacggbhcodjaaDoor.Q
set_option linter.unusedVariables false
set_option linter.unusedSimpArgs false
open Go.RowKit Go.Proofs.YtgmacggbhcodjaaDoorW.PrintWords
def httpsB : ByteArray := ⟨#[104, 116, 116, 112, 115]⟩
theorem blk_at (w : World) (o : Obj) (g : Nat) (e : w.heap.size = g) : (w.alloc o).heap[g]? = some o := by subst e; exact blk_new w o
theorem C_one {α : Type} {d : Kd α} {w : World} {g : Nat} {t : TypeId} {cs : Array Value} {x : α} (h : w.heap[g]? = some (.cells cs t (0, 0))) (hk : d.K w x cs.toList) : Kd.C d w (some ⟨g, 0, none⟩) 1 [x] := by
  refine ⟨rfl, by omega, fun _ => ⟨_, rfl, fun j p hj => ?_⟩⟩
  obtain ⟨rfl, rfl⟩ : j = 0 ∧ p = x := by
    have hlt : j < [x].length := (List.getElem?_eq_some_iff.1 hj).1
    obtain rfl : j = 0 := by simp at hlt; omega
    exact ⟨rfl, by simpa using hj.symm⟩
  refine ⟨cs.toList, d.K_len hk, hk, fun i u hu => ?_⟩
  have e : (⟨g, 0, none⟩ : Addr).add (0 * d.sz + i) = ⟨g, i, none⟩ := by unfold Addr.add; split <;> simp_all
  rw [e, blk_cell h i]
  simpa using hu
def orgB : S35 := ⟨false, 0, httpsB, ⟨⟨#[98]⟩, false, 0⟩, 443⟩
def polC : S50 := ⟨true, [⟨#[98]⟩], false, []⟩
def polD : S50 := ⟨true, [], false, []⟩
abbrev arrA : Array Value := #[.bool false, .int .i64 0, .string httpsB, .string ⟨#[97]⟩, .bool false, .int .u32 0, .int .i64 443]
abbrev arrB : Array Value := #[.bool false, .int .i64 0, .string httpsB, .string ⟨#[98]⟩, .bool false, .int .u32 0, .int .i64 443]
abbrev arrPC (g : Nat) : Array Value := #[.bool true, .slice (some ⟨g, 0, none⟩) 1 1, .bool false, .slice none 0 0]
abbrev arrPD : Array Value := #[.bool true, .slice none 0 0, .bool false, .slice none 0 0]
abbrev arrC (g : Nat) : Array Value := #[.slice (some ⟨g, 0, none⟩) 1 1, .int .i64 0, .string ⟨#[]⟩, .int .i64 0, .string ⟨#[]⟩]
structure Aw (g1 g2 : Nat) (W : World) : Prop where
  gw : Gw W
  b1 : W.heap[g1]? = some (.cells arrA 35 (0, 0))
  b2 : W.heap[g2]? = some (.cells arrB 35 (0, 0))
  b3 : W.heap[g2 + 1]? = some (.cells #[.string ⟨#[98]⟩] 9 (0, 0))
  b4 : W.heap[g2 + 1 + 1]? = some (.cells (arrPC (g2 + 1)) 50 (0, 0))
  b5 : W.heap[g2 + 1 + 1 + 1]? = some (.cells (arrC (g2 + 1 + 1)) 104 (0, 0))
  b6 : W.heap[g2 + 1 + 1 + 1 + 1]? = some (.cells arrPD 50 (0, 0))
  b7 : W.heap[g2 + 1 + 1 + 1 + 1 + 1]? = some (.cells (arrC (g2 + 1 + 1 + 1 + 1)) 104 (0, 0))
theorem Aw.below {g1 g2 : Nat} {W W1 : World} (h : Aw g1 g2 W) (hb : Below W.heap.size W W1) : Aw g1 g2 W1 :=
  ⟨h.gw.to hb, blk_below h.b1 hb, blk_below h.b2 hb, blk_below h.b3 hb, blk_below h.b4 hb, blk_below h.b5 hb, blk_below h.b6 hb, blk_below h.b7 hb⟩
theorem Aw.anc {g1 g2 : Nat} {W : World} (h : Aw g1 g2 W) : Kd.C k35 W (some ⟨g2, 0, none⟩) 1 [orgB] := C_one h.b2 (k35_mk W orgB)
theorem nil_C {α : Type} (d : Kd α) (W : World) (A : Option Addr) : Kd.C d W A 0 [] := ⟨rfl, by omega, fun h => absurd h (Nat.lt_irrefl 0)⟩
theorem Aw.polC {g1 g2 : Nat} {W : World} (h : Aw g1 g2 W) : Kd.C k50 W (some ⟨g2 + 1 + 1, 0, none⟩) 1 [polC] :=
  C_one h.b4 (k50_mk W Q.polC (A1 := some ⟨g2 + 1, 0, none⟩) (c1 := 1) (Nat.le_refl 1) (C_one h.b3 rfl) (A3 := none) (c3 := 0) (Nat.le_refl 0) (nil_C _ _ _))
theorem Aw.polD {g1 g2 : Nat} {W : World} (h : Aw g1 g2 W) : Kd.C k50 W (some ⟨g2 + 1 + 1 + 1 + 1, 0, none⟩) 1 [polD] :=
  C_one h.b6 (k50_mk W Q.polD (A1 := none) (c1 := 0) (Nat.le_refl 0) (nil_C _ _ _) (A3 := none) (c3 := 0) (Nat.le_refl 0) (nil_C _ _ _))
theorem Aw.frame1 {g1 g2 : Nat} {W : World} (h : Aw g1 g2 W) : Calls Tryd.prog 47 #[.agg #[.slice none 0 0, .int .i64 0, .string ⟨#[]⟩, .int .i64 0, .string ⟨#[]⟩], .int .i64 0, .agg arrA, .slice (some ⟨g2, 0, none⟩) 1 1] W fun e w' => e = .returned (.int .i64 0) ∧ Below W.heap.size W w' :=
  embed_Frame.calls none 0 [] 0 ⟨#[]⟩ 0 ⟨#[]⟩ 0 false 0 httpsB ⟨#[97]⟩ false 0 443 _ 1 [orgB] 0 W (nil_C _ _ _) (Nat.le_refl 0) h.anc (Nat.le_refl 1) h.gw (by kernel_rfl)
theorem Aw.frame2 {g1 g2 : Nat} {W : World} (h : Aw g1 g2 W) : Calls Tryd.prog 47 #[.agg #[.slice none 0 0, .int .i64 0, .string ⟨#[]⟩, .int .i64 0, .string ⟨#[]⟩], .int .i64 2, .agg arrA, .slice (some ⟨g2, 0, none⟩) 1 1] W fun e w' => e = .returned (.int .i64 3) ∧ Below W.heap.size W w' :=
  embed_Frame.calls none 0 [] 0 ⟨#[]⟩ 0 ⟨#[]⟩ 2 false 0 httpsB ⟨#[97]⟩ false 0 443 _ 1 [orgB] 3 W (nil_C _ _ _) (Nat.le_refl 0) h.anc (Nat.le_refl 1) h.gw (by kernel_rfl)
theorem Aw.frame3 {g1 g2 : Nat} {W : World} (h : Aw g1 g2 W) : Calls Tryd.prog 47 #[.agg (arrC (g2 + 1 + 1)), .int .i64 1, .agg arrA, .slice (some ⟨g2, 0, none⟩) 1 1] W fun e w' => e = .returned (.int .i64 0) ∧ Below W.heap.size W w' :=
  embed_Frame.calls _ 1 [Q.polC] 0 ⟨#[]⟩ 0 ⟨#[]⟩ 1 false 0 httpsB ⟨#[97]⟩ false 0 443 _ 1 [orgB] 0 W h.polC (Nat.le_refl 1) h.anc (Nat.le_refl 1) h.gw (by kernel_rfl)
theorem Aw.frame4 {g1 g2 : Nat} {W : World} (h : Aw g1 g2 W) : Calls Tryd.prog 47 #[.agg (arrC (g2 + 1 + 1 + 1 + 1)), .int .i64 0, .agg arrA, .slice (some ⟨g2, 0, none⟩) 1 1] W fun e w' => e = .returned (.int .i64 2) ∧ Below W.heap.size W w' :=
  embed_Frame.calls _ 1 [Q.polD] 0 ⟨#[]⟩ 0 ⟨#[]⟩ 0 false 0 httpsB ⟨#[97]⟩ false 0 443 _ 1 [orgB] 2 W h.polD (Nat.le_refl 1) h.anc (Nat.le_refl 1) h.gw (by kernel_rfl)
theorem xfo_none (W : World) : Calls Tryd.prog 25 #[.int .i64 1, .agg arrA, .slice none 0 0] W fun e w' => e = .returned (.bool true) ∧ Below W.heap.size W w' :=
  embed_Xfo.calls 1 false 0 httpsB ⟨#[97]⟩ false 0 443 none 0 [] true W (nil_C _ _ _) (Nat.le_refl 0) (by kernel_rfl)
theorem coep_one (W : World) : Calls Tryd.prog 23 #[.agg #[.int .i64 2, .string ⟨#[]⟩, .int .i64 0, .string ⟨#[]⟩], .agg #[.int .i64 0, .string ⟨#[]⟩, .int .i64 0, .string ⟨#[]⟩]] W fun e w' => e = .returned (.agg #[.bool false, .bool true, .bool false]) ∧ Below W.heap.size W w' :=
  embed_Coep.calls 2 ⟨#[]⟩ 0 ⟨#[]⟩ 0 ⟨#[]⟩ 0 ⟨#[]⟩ false true false W (by kernel_rfl)
theorem org_cells {W : World} {g : Nat} (h : W.heap[g]? = some (.cells arrA 35 (0, 0))) :
    W.cell? ⟨g, 0, none⟩ = some (.bool false) ∧ W.cell? ⟨g, 1, none⟩ = some (.int .i64 0) ∧ W.cell? ⟨g, 2, none⟩ = some (.string httpsB) ∧ W.cell? ⟨g, 3, none⟩ = some (.string ⟨#[97]⟩) ∧ W.cell? ⟨g, 4, none⟩ = some (.bool false) ∧ W.cell? ⟨g, 5, none⟩ = some (.int .u32 0) ∧ W.cell? ⟨g, 6, none⟩ = some (.int .i64 443) :=
  ⟨(blk_cell h 0).trans rfl, (blk_cell h 1).trans rfl, (blk_cell h 2).trans rfl, (blk_cell h 3).trans rfl, (blk_cell h 4).trans rfl, (blk_cell h 5).trans rfl, (blk_cell h 6).trans rfl⟩
theorem con_cells {W : World} {g q : Nat} (h : W.heap[g]? = some (.cells (arrC q) 104 (0, 0))) :
    W.cell? ⟨g, 0, none⟩ = some (.slice (some ⟨q, 0, none⟩) 1 1) ∧ W.cell? ⟨g, 1, none⟩ = some (.int .i64 0) ∧ W.cell? ⟨g, 2, none⟩ = some (.string ⟨#[]⟩) ∧ W.cell? ⟨g, 3, none⟩ = some (.int .i64 0) ∧ W.cell? ⟨g, 4, none⟩ = some (.string ⟨#[]⟩) :=
  ⟨(blk_cell h 0).trans rfl, (blk_cell h 1).trans rfl, (blk_cell h 2).trans rfl, (blk_cell h 3).trans rfl, (blk_cell h 4).trans rfl⟩
set_option maxRecDepth 100000 in
set_option maxHeartbeats 4000000 in
theorem glacislaw18_awake.walk (w : World) (hG : Gw w) : Calls Tryd.prog 22 #[] w fun e w' => e = .returned (.bool true) ∧ Below w.heap.size w w' := by
  have HG := Lib.hid hG
  clear hG
  have OA := Lib.hid (fun (W : World) (h : Gw W) => O1.glacislaw18_of.calls ⟨#[104, 116, 116, 112, 115, 58, 47, 47, 97, 47]⟩ false 0 httpsB ⟨#[97]⟩ false 0 443 W h (by kernel_rfl))
  have OB := Lib.hid (fun (W : World) (h : Gw W) => O1.glacislaw18_of.calls ⟨#[104, 116, 116, 112, 115, 58, 47, 47, 98, 47]⟩ false 0 httpsB ⟨#[98]⟩ false 0 443 W h (by kernel_rfl))
  go_enter Tryd.func22, Tryd.ntmps22
  go_wp2_with (go_at_call 46; (with_reducible refine (OA.out _ HG.out).mono ?_); rintro e w1 ⟨rfl, hb⟩; have B1 := Lib.hid hb; clear hb)
  have G1 := Lib.hid (HG.out.to B1.out)
  have X1 : Below w1.heap.size w1 (w1.alloc (.cells arrA 35)) := (Below.refl _ _).alloc (Nat.le_refl _) _
  have X1' := Lib.hid X1
  clear X1
  go_wp2_with fail
  with_reducible refine (OB.out _ (G1.out.to X1'.out)).mono ?_
  rintro e w2 ⟨rfl, hb⟩
  have B2 := Lib.hid (below_step X1'.out hb)
  have K1 := Lib.hid (blk_below (blk_new w1 (.cells arrA 35)) hb)
  have hlt0 := blk_lt K1.out
  clear hb
  obtain ⟨o0, o1, o2, o3, o4, o5, o6⟩ := org_cells K1.out
  have z0 : w1.heap.size < w2.heap.size := by omega
  have z1 : w1.heap.size < w2.heap.size + 1 := by omega
  have z2 : w1.heap.size < w2.heap.size + 1 + 1 := by omega
  have z3 : w1.heap.size < w2.heap.size + 1 + 1 + 1 := by omega
  have z4 : w1.heap.size < w2.heap.size + 1 + 1 + 1 + 1 := by omega
  have z5 : w1.heap.size < w2.heap.size + 1 + 1 + 1 + 1 + 1 := by omega
  have BW : Below w2.heap.size w2 ((((((w2.alloc (.cells arrB 35)).alloc (.cells #[.string ⟨#[98]⟩] 9)).alloc (.cells (arrPC (w2.heap.size + 1)) 50)).alloc (.cells (arrC (w2.heap.size + 1 + 1)) 104)).alloc (.cells arrPD 50)).alloc (.cells (arrC (w2.heap.size + 1 + 1 + 1 + 1)) 104)) := by repeat (first | exact Below.refl _ _ | refine below_alloc ?_ _)
  have BB2 := Lib.hid (below_step (below_step B1.out B2.out) BW)
  have HA2 : Hid (Aw w1.heap.size w2.heap.size ((((((w2.alloc (.cells arrB 35)).alloc (.cells #[.string ⟨#[98]⟩] 9)).alloc (.cells (arrPC (w2.heap.size + 1)) 50)).alloc (.cells (arrC (w2.heap.size + 1 + 1)) 104)).alloc (.cells arrPD 50)).alloc (.cells (arrC (w2.heap.size + 1 + 1 + 1 + 1)) 104))) := Lib.hid ⟨(G1.out.to B2.out).to BW, (by repeat (first | exact K1.out | exact blk_at _ _ _ (by simp [World.size_alloc]) | refine blk_alloc ?_ _)), (by repeat (first | exact blk_at _ _ _ (by simp [World.size_alloc]) | refine blk_alloc ?_ _)), (by repeat (first | exact blk_at _ _ _ (by simp [World.size_alloc]) | refine blk_alloc ?_ _)), (by repeat (first | exact blk_at _ _ _ (by simp [World.size_alloc]) | refine blk_alloc ?_ _)), (by repeat (first | exact blk_at _ _ _ (by simp [World.size_alloc]) | refine blk_alloc ?_ _)), (by repeat (first | exact blk_at _ _ _ (by simp [World.size_alloc]) | refine blk_alloc ?_ _)), (by repeat (first | exact blk_at _ _ _ (by simp [World.size_alloc]) | refine blk_alloc ?_ _))⟩
  clear BW K1
  go_wp2_with fail
  with_reducible refine (HA2.out.frame1).mono ?_
  rintro e w3 ⟨rfl, hb⟩
  have HA3 := Lib.hid (HA2.out.below hb)
  have BB3 := Lib.hid (below_step BB2.out hb)
  clear hb
  clear BB2
  obtain ⟨o0, o1, o2, o3, o4, o5, o6⟩ := org_cells HA3.out.b1
  clear z0 z1 z2 z3 z4 z5 hlt0
  go_wp2_with fail
  with_reducible refine (HA3.out.frame2).mono ?_
  rintro e w4 ⟨rfl, hb⟩
  have HA4 := Lib.hid (HA3.out.below hb)
  have BB4 := Lib.hid (below_step BB3.out hb)
  clear hb
  clear BB3
  obtain ⟨o0, o1, o2, o3, o4, o5, o6⟩ := org_cells HA4.out.b1
  obtain ⟨p0, p1, p2, p3, p4⟩ := con_cells HA4.out.b5
  go_wp2_with fail
  with_reducible refine (HA4.out.frame3).mono ?_
  rintro e w5 ⟨rfl, hb⟩
  have HA5 := Lib.hid (HA4.out.below hb)
  have BB5 := Lib.hid (below_step BB4.out hb)
  clear hb
  clear BB4
  obtain ⟨o0, o1, o2, o3, o4, o5, o6⟩ := org_cells HA5.out.b1
  obtain ⟨p0, p1, p2, p3, p4⟩ := con_cells HA5.out.b7
  go_wp2_with fail
  with_reducible refine (HA5.out.frame4).mono ?_
  rintro e w6 ⟨rfl, hb⟩
  have HA6 := Lib.hid (HA5.out.below hb)
  have BB6 := Lib.hid (below_step BB5.out hb)
  clear hb
  clear BB5
  obtain ⟨o0, o1, o2, o3, o4, o5, o6⟩ := org_cells HA6.out.b1
  go_wp2_with fail
  with_reducible refine (coep_one _).mono ?_
  rintro e w7 ⟨rfl, hb⟩
  have HA7 := Lib.hid (HA6.out.below hb)
  have BB7 := Lib.hid (below_step BB6.out hb)
  clear hb
  obtain ⟨o0, o1, o2, o3, o4, o5, o6⟩ := org_cells HA7.out.b1
  have n1 := blk_lt HA7.out.b1
  go_wp2_with fail
  with_reducible refine (xfo_none _).mono ?_
  rintro e w8 ⟨rfl, hb⟩
  have BB8 := Lib.hid (below_step (below_alloc BB7.out _) hb)
  clear hb
  go_wp2_with fail
  go_ret
  exact ⟨rfl, BB8.out⟩
end Go.Proofs.YtgmacggbhcodjaaDoor.Q

