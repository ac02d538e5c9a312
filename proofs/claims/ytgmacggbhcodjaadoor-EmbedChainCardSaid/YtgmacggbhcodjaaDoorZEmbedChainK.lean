/- A part of the claim EmbedChain: K. -/
import Derived.Test.YtgmacggbhcodjaaDoorZEmbedChainA0
import Derived.Test.YtgmacggbhcodjaaDoorZEmbedChainA1
import Derived.Test.YtgmacggbhcodjaaDoorZEmbedChainA2
import Derived.Test.YtgmacggbhcodjaaDoorZEmbedChainA3
import Derived.Test.YtgmacggbhcodjaaDoorZEmbedChainA5
import Derived.Test.YtgmacggbhcodjaaDoorZEmbedChainA6
import Derived.Test.YtgmacggbhcodjaaDoorZEmbedChainWWords
import Derived.Test.YtgmacggbhcodjaaDoorZEmbedChainWLast
import Derived.Test.YtgmacggbhcodjaaDoorZEmbedChainWApart
import Derived.Test.YtgmacggbhcodjaaDoorZEmbedChainWShare
import Derived.Test.YtgmacggbhcodjaaDoorZEmbedChainWN
import Derived.Test.YtgmacggbhcodjaaDoorZEmbedChainWAt
import Derived.Test.YtgmacggbhcodjaaDoorZEmbedChainWEqStruct
import Derived.Test.YtgmacggbhcodjaaDoorZEmbedChainWGuard
import Derived.Test.YtgmacggbhcodjaaDoorZEmbedChainWMore
import Derived.Test.YtgmacggbhcodjaaDoorProg
import Derived.Below
import Derived.Deep.Draws
import Derived.Deep.AppendLies
import Derived.Maps.AppendAt
import Derived.OwnWalk
import Derived.Laws.BytesArg
import Derived.Laws.MakeOwn
import Derived.Laws.OwnMore
import Derived.Deep.OwnRows
import Derived.Tactics
import Derived.Lib.ConvBytes
import Derived.Laws.Slices
import Derived.WalkKit
import Derived.KernelRfl
import Derived.RowKit3
import Derived.Deep.LoopGhost
import Derived.Deep.QuietTactic
import Derived.BigQuiet
import Derived.WideLaws
import Derived.Deep.DeepCutAuto
import Derived.Deep.CutBlock
import Derived.Deep.RegionHeld3
import Derived.Laws.Rows
import Derived.Lib.AppendStr
import Derived.ArgAppend
import Derived.Laws.IdiomCopy
import Derived.OrdersHeld
import Derived.Laws.BitsLemmas
import Derived.RowKit
namespace Go.Proofs.YtgmacggbhcodjaaDoor.Q
open Go.RowKit Go.Proofs.YtgmacggbhcodjaaDoor.Q Go.Proofs.YtgmacggbhcodjaaDoorW.PrintWords Go.Proofs.YtgmacggbhcodjaaDoorW.PrintLast Go.Proofs.YtgmacggbhcodjaaDoorW.PrintMore
attribute [local go_sem] max2_int max_two
set_option linter.unusedVariables false
set_option linter.unusedSimpArgs false



structure S26 where
  f0 : ByteArray
  f1 : Bool
  f2 : Int
def z26 : S26 := ⟨(⟨#[]⟩ : ByteArray), false, (0 : Int)⟩
def k26 : Kd S26 := Kd.iso (Kd.pair Kd.string (Kd.pair Kd.bool (Kd.int .u32))) (fun x : S26 => (x.f0, x.f1, x.f2))
theorem k26_open {w : World} {x : S26} {cs : List Value} (h : k26.K w x cs) : cs = [.string x.f0, .bool x.f1, .int .u32 x.f2] := by
  obtain ⟨_, _, rfl, rfl, ⟨_, _, rfl, rfl, rfl⟩⟩ := h
  exact rfl
theorem k26_mk (w : World) (x : S26)  : k26.K w x [.string x.f0, .bool x.f1, .int .u32 x.f2] := ⟨[.string x.f0], [.bool x.f1, .int .u32 x.f2], rfl, rfl, ⟨[.bool x.f1], [.int .u32 x.f2], rfl, rfl, rfl⟩⟩
structure S35 where
  f0 : Bool
  f1 : Int
  f2 : ByteArray
  f3 : S26
  f4 : Int
def z35 : S35 := ⟨false, (0 : Int), (⟨#[]⟩ : ByteArray), z26, (0 : Int)⟩
def k35 : Kd S35 := Kd.iso (Kd.pair Kd.bool (Kd.pair (Kd.int .i64) (Kd.pair Kd.string (Kd.pair k26 (Kd.int .i64))))) (fun x : S35 => (x.f0, x.f1, x.f2, x.f3, x.f4))
theorem k35_open {w : World} {x : S35} {cs : List Value} (h : k35.K w x cs) : cs = [.bool x.f0, .int .i64 x.f1, .string x.f2, .string x.f3.f0, .bool x.f3.f1, .int .u32 x.f3.f2, .int .i64 x.f4] := by
  obtain ⟨_, _, rfl, rfl, ⟨_, _, rfl, rfl, ⟨_, _, rfl, rfl, ⟨_, _, rfl, s3, rfl⟩⟩⟩⟩ := h
  obtain rfl := k26_open s3
  exact rfl
theorem k35_mk (w : World) (x : S35)  : k35.K w x [.bool x.f0, .int .i64 x.f1, .string x.f2, .string x.f3.f0, .bool x.f3.f1, .int .u32 x.f3.f2, .int .i64 x.f4] := ⟨[.bool x.f0], [.int .i64 x.f1, .string x.f2, .string x.f3.f0, .bool x.f3.f1, .int .u32 x.f3.f2, .int .i64 x.f4], rfl, rfl, ⟨[.int .i64 x.f1], [.string x.f2, .string x.f3.f0, .bool x.f3.f1, .int .u32 x.f3.f2, .int .i64 x.f4], rfl, rfl, ⟨[.string x.f2], [.string x.f3.f0, .bool x.f3.f1, .int .u32 x.f3.f2, .int .i64 x.f4], rfl, rfl, ⟨[.string x.f3.f0, .bool x.f3.f1, .int .u32 x.f3.f2], [.int .i64 x.f4], rfl, (k26_mk w x.f3 ), rfl⟩⟩⟩⟩
def rd_T35 (xs : List S35) (i : Int) : S35 := xs.getD i.toNat z35
theorem at_T35 {w : World} {A : Option Addr} {n : Nat} {xs : List S35} (h : Kd.C k35 w A n xs) (i : Int) (h0 : 0 ≤ i) (h1 : i < n) : ∃ ad , A = some ad ∧ w.cell? (ad.add (i.toNat * 7)) = some (.bool (rd_T35 xs i).f0) ∧ w.cell? ⟨(ad.add (i.toNat * 7)).block, (ad.add (i.toNat * 7)).off + 1, none⟩ = some (.int .i64 (rd_T35 xs i).f1) ∧ w.cell? ⟨(ad.add (i.toNat * 7)).block, (ad.add (i.toNat * 7)).off + 2, none⟩ = some (.string (rd_T35 xs i).f2) ∧ w.cell? ⟨(ad.add (i.toNat * 7)).block, (ad.add (i.toNat * 7)).off + 3, none⟩ = some (.string (rd_T35 xs i).f3.f0) ∧ w.cell? ⟨(ad.add (i.toNat * 7)).block, (ad.add (i.toNat * 7)).off + 4, none⟩ = some (.bool (rd_T35 xs i).f3.f1) ∧ w.cell? ⟨(ad.add (i.toNat * 7)).block, (ad.add (i.toNat * 7)).off + 5, none⟩ = some (.int .u32 (rd_T35 xs i).f3.f2) ∧ w.cell? ⟨(ad.add (i.toNat * 7)).block, (ad.add (i.toNat * 7)).off + 6, none⟩ = some (.int .i64 (rd_T35 xs i).f4) := by
  obtain ⟨ad, c, e, _, hK, hc0⟩ := Kd.C_get h z35 i h0 h1
  have hc : ∀ j u, c[j]? = some u → w.cell? (ad.add (i.toNat * 7 + j)) = some u := hc0
  obtain rfl := k35_open hK
  exact ⟨ad, e, hc 0 _ rfl, by rw [← add_field _ _ 1 (by omega)]; exact hc 1 _ rfl, by rw [← add_field _ _ 2 (by omega)]; exact hc 2 _ rfl, by rw [← add_field _ _ 3 (by omega)]; exact hc 3 _ rfl, by rw [← add_field _ _ 4 (by omega)]; exact hc 4 _ rfl, by rw [← add_field _ _ 5 (by omega)]; exact hc 5 _ rfl, by rw [← add_field _ _ 6 (by omega)]; exact hc 6 _ rfl⟩

structure S50 where
  f0 : Bool
  f1 : (List ByteArray)
  f2 : Bool
  f3 : (List ByteArray)
def z50 : S50 := ⟨false, ([] : List ByteArray), false, ([] : List ByteArray)⟩
def k50 : Kd S50 := Kd.iso (Kd.pair Kd.bool (Kd.pair (Kd.slice 9 Kd.string) (Kd.pair Kd.bool (Kd.slice 9 Kd.string)))) (fun x : S50 => (x.f0, x.f1, x.f2, x.f3))
theorem k50_open {w : World} {x : S50} {cs : List Value} (h : k50.K w x cs) : ∃ A1 c1 A3 c3, cs = [.bool x.f0, .slice A1 x.f1.length c1, .bool x.f2, .slice A3 x.f3.length c3] ∧ x.f1.length ≤ c1 ∧ Kd.string.C w A1 x.f1.length x.f1 ∧ x.f3.length ≤ c3 ∧ Kd.string.C w A3 x.f3.length x.f3 := by
  obtain ⟨_, _, rfl, rfl, ⟨_, _, rfl, ⟨A1, c1, rfl, l1, g1⟩, ⟨_, _, rfl, rfl, ⟨A3, c3, rfl, l3, g3⟩⟩⟩⟩ := h
  exact ⟨A1, c1, A3, c3, rfl, l1, g1, l3, g3⟩
theorem k50_mk (w : World) (x : S50) {A1 : Option Addr} {c1 : Nat} (l1 : x.f1.length ≤ c1) (g1 : Kd.string.C w A1 x.f1.length x.f1) {A3 : Option Addr} {c3 : Nat} (l3 : x.f3.length ≤ c3) (g3 : Kd.string.C w A3 x.f3.length x.f3) : k50.K w x [.bool x.f0, .slice A1 x.f1.length c1, .bool x.f2, .slice A3 x.f3.length c3] := ⟨[.bool x.f0], [.slice A1 x.f1.length c1, .bool x.f2, .slice A3 x.f3.length c3], rfl, rfl, ⟨[.slice A1 x.f1.length c1], [.bool x.f2, .slice A3 x.f3.length c3], rfl, ⟨A1, c1, rfl, l1, g1⟩, ⟨[.bool x.f2], [.slice A3 x.f3.length c3], rfl, rfl, ⟨A3, c3, rfl, l3, g3⟩⟩⟩⟩
def rd_T50 (xs : List S50) (i : Int) : S50 := xs.getD i.toNat z50
theorem at_T50 {w : World} {A : Option Addr} {n : Nat} {xs : List S50} (h : Kd.C k50 w A n xs) (i : Int) (h0 : 0 ≤ i) (h1 : i < n) : ∃ ad A1 c1 A3 c3, A = some ad ∧ w.cell? (ad.add (i.toNat * 4)) = some (.bool (rd_T50 xs i).f0) ∧ w.cell? ⟨(ad.add (i.toNat * 4)).block, (ad.add (i.toNat * 4)).off + 1, none⟩ = some (.slice A1 (rd_T50 xs i).f1.length c1) ∧ w.cell? ⟨(ad.add (i.toNat * 4)).block, (ad.add (i.toNat * 4)).off + 2, none⟩ = some (.bool (rd_T50 xs i).f2) ∧ w.cell? ⟨(ad.add (i.toNat * 4)).block, (ad.add (i.toNat * 4)).off + 3, none⟩ = some (.slice A3 (rd_T50 xs i).f3.length c3) ∧ (rd_T50 xs i).f1.length ≤ c1 ∧ Kd.string.C w A1 (rd_T50 xs i).f1.length (rd_T50 xs i).f1 ∧ (rd_T50 xs i).f3.length ≤ c3 ∧ Kd.string.C w A3 (rd_T50 xs i).f3.length (rd_T50 xs i).f3 := by
  obtain ⟨ad, c, e, _, hK, hc0⟩ := Kd.C_get h z50 i h0 h1
  have hc : ∀ j u, c[j]? = some u → w.cell? (ad.add (i.toNat * 4 + j)) = some u := hc0
  obtain ⟨A1, c1, A3, c3, rfl, l1, g1, l3, g3⟩ := k50_open hK
  exact ⟨ad, A1, c1, A3, c3, e, hc 0 _ rfl, by rw [← add_field _ _ 1 (by omega)]; exact hc 1 _ rfl, by rw [← add_field _ _ 2 (by omega)]; exact hc 2 _ rfl, by rw [← add_field _ _ 3 (by omega)]; exact hc 3 _ rfl, l1, g1, l3, g3⟩

end Go.Proofs.YtgmacggbhcodjaaDoor.Q

