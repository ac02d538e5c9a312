/- A part of the claim EmbedChain: A0. -/
import Derived.Test.YtgmacggbhcodjaaDoorZEmbedChainWMore
import Derived.Test.YtgmacggbhcodjaaDoorZEmbedChainWN
import Derived.Test.YtgmacggbhcodjaaDoorZEmbedChainSh
import Derived.Test.YtgmacggbhcodjaaDoorProg
import Derived.WalkKit
import Derived.WalkSmall
import Derived.Lib.Hide
import Derived.Lib.LaidTab
namespace Go.Proofs.YtgmacggbhcodjaaDoor.Q
open Go.RowKit Go.Proofs.YtgmacggbhcodjaaDoorW.PrintWords
set_option linter.unusedVariables false
set_option linter.unusedSimpArgs false
structure Gw (w : World) : Prop where
  maxLen : ∃ m, w.cell? ⟨0, 0, none⟩ = some (.int .i64 m)
  pow10 : Lib.TabIs Tryd.prog w "internal/strconv.uint64pow10" .u64 Lib.pow10Tab
  room : 6 ≤ w.heap.size
theorem Gw.below {w w1 : World} (h : Gw w) {B : Nat} (hB : 6 ≤ B) (hb : Below B w w1) : Gw w1 := by
  obtain ⟨⟨m, hm⟩, hp, hr⟩ := h
  exact ⟨⟨m, (hb.cell (p := ⟨0, 0, none⟩) (show 0 < B by omega)).trans hm⟩, var?_below hb (show Tryd.prog.globalNamed "internal/strconv.uint64pow10" = some 1 by kernel_rfl) (by omega) hp, Nat.le_trans hr hb.size⟩
theorem Gw.to {w w1 : World} (h : Gw w) (hb : Below w.heap.size w w1) : Gw w1 := h.below h.room hb
theorem C_at {α : Type} {d : Kd α} {w : World} {A : Option Addr} {xs : List α} (h : Kd.C d w A xs.length xs) (hs : 0 < d.sz) (hn : 0 < xs.length) :
    ∃ b o, A = some ⟨b, o, none⟩ ∧ b < w.heap.size ∧ ∀ j p, xs[j]? = some p → ∃ c, c.length = d.sz ∧ d.K w p c ∧ ∀ i u, c[i]? = some u → w.cell? ⟨b, o + (j * d.sz + i), none⟩ = some u := by
  obtain ⟨ad, e, hc⟩ := h.2.2 hn
  obtain ⟨b, o, sp⟩ := ad
  obtain ⟨c, hl, hk, hu⟩ := hc 0 xs[0] (List.getElem?_eq_getElem hn)
  have h0 := hu 0 c[0] (List.getElem?_eq_getElem (by omega))
  have e0 : (⟨b, o, sp⟩ : Addr).add (0 * d.sz + 0) = ⟨b, o, sp⟩ := by simp [Addr.add]
  rw [e0] at h0
  have hsp : sp = none := by
    unfold World.cell? at h0
    cases sp with
    | none => rfl
    | some q => simp only [Option.isSome_some, if_true] at h0; split at h0 <;> simp at h0
  subst hsp
  refine ⟨b, o, e, World.block_lt_of_cell? w _ h0, fun j p hj => ?_⟩
  obtain ⟨c, hl, hk, hu⟩ := hc j p hj
  refine ⟨c, hl, hk, fun i u hi => ?_⟩
  have := hu i u hi
  have ea : (⟨b, o, none⟩ : Addr).add (j * d.sz + i) = ⟨b, o + (j * d.sz + i), none⟩ := by unfold Addr.add; split <;> simp_all
  rw [ea] at this
  exact this
theorem C_str {w : World} {A : Option Addr} {xs : List ByteArray} (h : Kd.C Kd.string w A xs.length xs) (hn : 0 < xs.length) :
    ∃ b o, A = some ⟨b, o, none⟩ ∧ b < w.heap.size ∧ ∀ j p, xs[j]? = some p → w.cell? ⟨b, o + j, none⟩ = some (.string p) := by
  obtain ⟨b, o, e, hb, hc⟩ := C_at h (by show 0 < 1; omega) hn
  refine ⟨b, o, e, hb, fun j p hj => ?_⟩
  obtain ⟨c, hl, hk, hu⟩ := hc j p hj
  have hk' : c = [.string p] := hk
  subst hk'
  have := hu 0 (.string p) rfl
  rw [show o + (j * Kd.string.sz + 0) = o + j from by show o + (j * 1 + 0) = o + j; omega] at this
  exact this
theorem R_str {w : World} {e base g cap : Nat} {xs : List ByteArray} {cur : Array Value} (hb : base ≤ g) (hh : w.heap[g]? = some (.cells cur e (0, 0))) (hc : xs.length ≤ cap) (hm : cap ≤ maxLen) (hs : cur.size = cap) (ht : cur.toList.take xs.length = xs.map Value.string) :
    Kd.R Kd.string e w base (fun _ => True) (.slice (some ⟨g, 0, none⟩) xs.length cap) xs :=
  Kd.R_of_own ⟨by simp [encs], .inr ⟨g, cap, cur, rfl, hb, hh, hc, hm, by omega, by simpa [encs] using ht⟩⟩ (fun _ _ => trivial)
theorem ne_nil_bool (l : List UInt8) : (l != []) = !l.isEmpty := by cases l <;> rfl
theorem ret_str {a b : ByteArray} (h : a = b) : Ending.returned (.string a) = .returned (.string b) := by rw [h]
theorem ret_bool {a b : Bool} (h : a = b) : Ending.returned (.bool a) = .returned (.bool b) := by rw [h]
theorem ret_int {k : IntKind} {a b : Int} (h : a = b) : Ending.returned (.int k a) = .returned (.int k b) := by rw [h]
end Go.Proofs.YtgmacggbhcodjaaDoor.Q

