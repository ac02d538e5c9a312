/- A part of the claim EmbedMore: K. -/
import Derived.Test.YtgmacggbhcodjaaGreatDoorZEmbedMoreA0
import Derived.Test.YtgmacggbhcodjaaGreatDoorZEmbedMoreA1
import Derived.Test.YtgmacggbhcodjaaGreatDoorZEmbedMoreA2
import Derived.Test.YtgmacggbhcodjaaGreatDoorZEmbedMoreA3
import Derived.Test.YtgmacggbhcodjaaGreatDoorZEmbedMoreA5
import Derived.Test.YtgmacggbhcodjaaGreatDoorZEmbedMoreA6
import Derived.Test.YtgmacggbhcodjaaGreatDoorZEmbedMoreWWords
import Derived.Test.YtgmacggbhcodjaaGreatDoorZEmbedMoreWLast
import Derived.Test.YtgmacggbhcodjaaGreatDoorZEmbedMoreWTab
import Derived.Test.YtgmacggbhcodjaaGreatDoorZEmbedMoreWApart
import Derived.Test.YtgmacggbhcodjaaGreatDoorZEmbedMoreWShare
import Derived.Test.YtgmacggbhcodjaaGreatDoorZEmbedMoreWN
import Derived.Test.YtgmacggbhcodjaaGreatDoorZEmbedMoreWAt
import Derived.Test.YtgmacggbhcodjaaGreatDoorZEmbedMoreWEqStruct
import Derived.Test.YtgmacggbhcodjaaGreatDoorZEmbedMoreWRepsOne
import Derived.Test.YtgmacggbhcodjaaGreatDoorZEmbedMoreWGuard
import Derived.Test.YtgmacggbhcodjaaGreatDoorZEmbedMoreWMore
import Derived.Test.YtgmacggbhcodjaaGreatDoorProg
import Derived.Below
import Derived.Deep.Draws
import Derived.Deep.AppendLies
import Derived.Maps.AppendAt
import Derived.OwnWalk
import Derived.Laws.BytesArg
import Derived.Laws.MakeOwn
import Derived.Laws.OwnMore
import Derived.Deep.OwnRows
import Derived.Tactics
import Derived.Lib.ConvBytes
import Derived.Laws.Slices
import Derived.WalkKit
import Derived.KernelRfl
import Derived.RowKit3
import Derived.Deep.LoopGhost
import Derived.Deep.QuietTactic
import Derived.BigQuiet
import Derived.WideLaws
import Derived.Deep.DeepCutAuto
import Derived.Deep.CutBlock
import Derived.Deep.RegionHeld3
import Derived.Laws.Rows
import Derived.Lib.AppendStr
import Derived.ArgAppend
import Derived.Laws.IdiomCopy
import Derived.OrdersHeld
import Derived.Laws.BitsLemmas
import Derived.RowKit
namespace Go.Proofs.YtgmacggbhcodjaaGreatDoor.Q
open Go.RowKit Go.Proofs.YtgmacggbhcodjaaGreatDoor.Q Go.Proofs.YtgmacggbhcodjaaGreatDoorW.PrintWords Go.Proofs.YtgmacggbhcodjaaGreatDoorW.PrintLast Go.Proofs.YtgmacggbhcodjaaGreatDoorW.PrintMore
attribute [local go_sem] max2_int max_two
set_option linter.unusedVariables false
set_option linter.unusedSimpArgs false



theorem info9 : (Tryz.prog.info? 9).map (fun i => (i.zero, i.size, i.bytes)) = some (some (.string ⟨#[]⟩), 1, 16) := by kernel_rfl
theorem info31 : (Tryz.prog.info? 31).map (fun i => (i.zero, i.size, i.bytes)) = some (some (.agg #[(.bool false), (.int .i64 0), (.string ⟨#[]⟩), (.string ⟨#[]⟩), (.bool false), (.int .u32 0), (.int .i64 0)]), 7, 64) := by kernel_rfl
structure S45 where
  f0 : Bool
  f1 : (List ByteArray)
  f2 : Bool
  f3 : (List ByteArray)
def z45 : S45 := ⟨false, ([] : List ByteArray), false, ([] : List ByteArray)⟩
def k45 : Kd S45 := Kd.iso (Kd.pair Kd.bool (Kd.pair (Kd.slice 9 Kd.string) (Kd.pair Kd.bool (Kd.slice 9 Kd.string)))) (fun x : S45 => (x.f0, x.f1, x.f2, x.f3))
theorem k45_open {w : World} {x : S45} {cs : List Value} (h : k45.K w x cs) : ∃ A1 c1 A3 c3, cs = [.bool x.f0, .slice A1 x.f1.length c1, .bool x.f2, .slice A3 x.f3.length c3] ∧ x.f1.length ≤ c1 ∧ Kd.string.C w A1 x.f1.length x.f1 ∧ x.f3.length ≤ c3 ∧ Kd.string.C w A3 x.f3.length x.f3 := by
  obtain ⟨_, _, rfl, rfl, ⟨_, _, rfl, ⟨A1, c1, rfl, l1, g1⟩, ⟨_, _, rfl, rfl, ⟨A3, c3, rfl, l3, g3⟩⟩⟩⟩ := h
  exact ⟨A1, c1, A3, c3, rfl, l1, g1, l3, g3⟩
theorem k45_mk (w : World) (x : S45) {A1 : Option Addr} {c1 : Nat} (l1 : x.f1.length ≤ c1) (g1 : Kd.string.C w A1 x.f1.length x.f1) {A3 : Option Addr} {c3 : Nat} (l3 : x.f3.length ≤ c3) (g3 : Kd.string.C w A3 x.f3.length x.f3) : k45.K w x [.bool x.f0, .slice A1 x.f1.length c1, .bool x.f2, .slice A3 x.f3.length c3] := ⟨[.bool x.f0], [.slice A1 x.f1.length c1, .bool x.f2, .slice A3 x.f3.length c3], rfl, rfl, ⟨[.slice A1 x.f1.length c1], [.bool x.f2, .slice A3 x.f3.length c3], rfl, ⟨A1, c1, rfl, l1, g1⟩, ⟨[.bool x.f2], [.slice A3 x.f3.length c3], rfl, rfl, ⟨A3, c3, rfl, l3, g3⟩⟩⟩⟩
def rd_T45 (xs : List S45) (i : Int) : S45 := xs.getD i.toNat z45
theorem at_T45 {w : World} {A : Option Addr} {n : Nat} {xs : List S45} (h : Kd.C k45 w A n xs) (i : Int) (h0 : 0 ≤ i) (h1 : i < n) : ∃ ad A1 c1 A3 c3, A = some ad ∧ w.cell? (ad.add (i.toNat * 4)) = some (.bool (rd_T45 xs i).f0) ∧ w.cell? ⟨(ad.add (i.toNat * 4)).block, (ad.add (i.toNat * 4)).off + 1, none⟩ = some (.slice A1 (rd_T45 xs i).f1.length c1) ∧ w.cell? ⟨(ad.add (i.toNat * 4)).block, (ad.add (i.toNat * 4)).off + 2, none⟩ = some (.bool (rd_T45 xs i).f2) ∧ w.cell? ⟨(ad.add (i.toNat * 4)).block, (ad.add (i.toNat * 4)).off + 3, none⟩ = some (.slice A3 (rd_T45 xs i).f3.length c3) ∧ (rd_T45 xs i).f1.length ≤ c1 ∧ Kd.string.C w A1 (rd_T45 xs i).f1.length (rd_T45 xs i).f1 ∧ (rd_T45 xs i).f3.length ≤ c3 ∧ Kd.string.C w A3 (rd_T45 xs i).f3.length (rd_T45 xs i).f3 := by
  obtain ⟨ad, c, e, _, hK, hc0⟩ := Kd.C_get h z45 i h0 h1
  have hc : ∀ j u, c[j]? = some u → w.cell? (ad.add (i.toNat * 4 + j)) = some u := hc0
  obtain ⟨A1, c1, A3, c3, rfl, l1, g1, l3, g3⟩ := k45_open hK
  exact ⟨ad, A1, c1, A3, c3, e, hc 0 _ rfl, by rw [← add_field _ _ 1 (by omega)]; exact hc 1 _ rfl, by rw [← add_field _ _ 2 (by omega)]; exact hc 2 _ rfl, by rw [← add_field _ _ 3 (by omega)]; exact hc 3 _ rfl, l1, g1, l3, g3⟩

structure S29 where
  f0 : ByteArray
  f1 : Bool
  f2 : Int
def z29 : S29 := ⟨(⟨#[]⟩ : ByteArray), false, (0 : Int)⟩
def k29 : Kd S29 := Kd.iso (Kd.pair Kd.string (Kd.pair Kd.bool (Kd.int .u32))) (fun x : S29 => (x.f0, x.f1, x.f2))
theorem k29_open {w : World} {x : S29} {cs : List Value} (h : k29.K w x cs) : cs = [.string x.f0, .bool x.f1, .int .u32 x.f2] := by
  obtain ⟨_, _, rfl, rfl, ⟨_, _, rfl, rfl, rfl⟩⟩ := h
  exact rfl
theorem k29_mk (w : World) (x : S29)  : k29.K w x [.string x.f0, .bool x.f1, .int .u32 x.f2] := ⟨[.string x.f0], [.bool x.f1, .int .u32 x.f2], rfl, rfl, ⟨[.bool x.f1], [.int .u32 x.f2], rfl, rfl, rfl⟩⟩
theorem k29_mkM (w : World) (base : Nat) (ok : Nat → Prop) (x : S29)  : k29.M w base ok x [.string x.f0, .bool x.f1, .int .u32 x.f2] := ⟨[.string x.f0], [.bool x.f1, .int .u32 x.f2], rfl, rfl, ⟨[.bool x.f1], [.int .u32 x.f2], rfl, rfl, rfl⟩⟩
structure S31 where
  f0 : Bool
  f1 : Int
  f2 : ByteArray
  f3 : S29
  f4 : Int
def z31 : S31 := ⟨false, (0 : Int), (⟨#[]⟩ : ByteArray), z29, (0 : Int)⟩
def k31 : Kd S31 := Kd.iso (Kd.pair Kd.bool (Kd.pair (Kd.int .i64) (Kd.pair Kd.string (Kd.pair k29 (Kd.int .i64))))) (fun x : S31 => (x.f0, x.f1, x.f2, x.f3, x.f4))
theorem k31_open {w : World} {x : S31} {cs : List Value} (h : k31.K w x cs) : cs = [.bool x.f0, .int .i64 x.f1, .string x.f2, .string x.f3.f0, .bool x.f3.f1, .int .u32 x.f3.f2, .int .i64 x.f4] := by
  obtain ⟨_, _, rfl, rfl, ⟨_, _, rfl, rfl, ⟨_, _, rfl, rfl, ⟨_, _, rfl, s3, rfl⟩⟩⟩⟩ := h
  obtain rfl := k29_open s3
  exact rfl
theorem k31_mk (w : World) (x : S31)  : k31.K w x [.bool x.f0, .int .i64 x.f1, .string x.f2, .string x.f3.f0, .bool x.f3.f1, .int .u32 x.f3.f2, .int .i64 x.f4] := ⟨[.bool x.f0], [.int .i64 x.f1, .string x.f2, .string x.f3.f0, .bool x.f3.f1, .int .u32 x.f3.f2, .int .i64 x.f4], rfl, rfl, ⟨[.int .i64 x.f1], [.string x.f2, .string x.f3.f0, .bool x.f3.f1, .int .u32 x.f3.f2, .int .i64 x.f4], rfl, rfl, ⟨[.string x.f2], [.string x.f3.f0, .bool x.f3.f1, .int .u32 x.f3.f2, .int .i64 x.f4], rfl, rfl, ⟨[.string x.f3.f0, .bool x.f3.f1, .int .u32 x.f3.f2], [.int .i64 x.f4], rfl, (k29_mk w x.f3 ), rfl⟩⟩⟩⟩
theorem k31_mkM (w : World) (base : Nat) (ok : Nat → Prop) (x : S31)  : k31.M w base ok x [.bool x.f0, .int .i64 x.f1, .string x.f2, .string x.f3.f0, .bool x.f3.f1, .int .u32 x.f3.f2, .int .i64 x.f4] := ⟨[.bool x.f0], [.int .i64 x.f1, .string x.f2, .string x.f3.f0, .bool x.f3.f1, .int .u32 x.f3.f2, .int .i64 x.f4], rfl, rfl, ⟨[.int .i64 x.f1], [.string x.f2, .string x.f3.f0, .bool x.f3.f1, .int .u32 x.f3.f2, .int .i64 x.f4], rfl, rfl, ⟨[.string x.f2], [.string x.f3.f0, .bool x.f3.f1, .int .u32 x.f3.f2, .int .i64 x.f4], rfl, rfl, ⟨[.string x.f3.f0, .bool x.f3.f1, .int .u32 x.f3.f2], [.int .i64 x.f4], rfl, (k29_mkM w base ok x.f3 ), rfl⟩⟩⟩⟩
def rd_T31 (xs : List S31) (i : Int) : S31 := xs.getD i.toNat z31
theorem at_T31 {w : World} {A : Option Addr} {n : Nat} {xs : List S31} (h : Kd.C k31 w A n xs) (i : Int) (h0 : 0 ≤ i) (h1 : i < n) : ∃ ad , A = some ad ∧ w.cell? (ad.add (i.toNat * 7)) = some (.bool (rd_T31 xs i).f0) ∧ w.cell? ⟨(ad.add (i.toNat * 7)).block, (ad.add (i.toNat * 7)).off + 1, none⟩ = some (.int .i64 (rd_T31 xs i).f1) ∧ w.cell? ⟨(ad.add (i.toNat * 7)).block, (ad.add (i.toNat * 7)).off + 2, none⟩ = some (.string (rd_T31 xs i).f2) ∧ w.cell? ⟨(ad.add (i.toNat * 7)).block, (ad.add (i.toNat * 7)).off + 3, none⟩ = some (.string (rd_T31 xs i).f3.f0) ∧ w.cell? ⟨(ad.add (i.toNat * 7)).block, (ad.add (i.toNat * 7)).off + 4, none⟩ = some (.bool (rd_T31 xs i).f3.f1) ∧ w.cell? ⟨(ad.add (i.toNat * 7)).block, (ad.add (i.toNat * 7)).off + 5, none⟩ = some (.int .u32 (rd_T31 xs i).f3.f2) ∧ w.cell? ⟨(ad.add (i.toNat * 7)).block, (ad.add (i.toNat * 7)).off + 6, none⟩ = some (.int .i64 (rd_T31 xs i).f4) := by
  obtain ⟨ad, c, e, _, hK, hc0⟩ := Kd.C_get h z31 i h0 h1
  have hc : ∀ j u, c[j]? = some u → w.cell? (ad.add (i.toNat * 7 + j)) = some u := hc0
  obtain rfl := k31_open hK
  exact ⟨ad, e, hc 0 _ rfl, by rw [← add_field _ _ 1 (by omega)]; exact hc 1 _ rfl, by rw [← add_field _ _ 2 (by omega)]; exact hc 2 _ rfl, by rw [← add_field _ _ 3 (by omega)]; exact hc 3 _ rfl, by rw [← add_field _ _ 4 (by omega)]; exact hc 4 _ rfl, by rw [← add_field _ _ 5 (by omega)]; exact hc 5 _ rfl, by rw [← add_field _ _ 6 (by omega)]; exact hc 6 _ rfl⟩

end Go.Proofs.YtgmacggbhcodjaaGreatDoor.Q

