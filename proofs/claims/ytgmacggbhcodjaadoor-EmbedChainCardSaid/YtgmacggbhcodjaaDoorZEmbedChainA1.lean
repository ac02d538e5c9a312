/- A part of the claim EmbedChain: A1. -/
import Derived.Test.YtgmacggbhcodjaaDoorZEmbedChainWMore
import Derived.Test.YtgmacggbhcodjaaDoorZEmbedChainWN
import Derived.Test.YtgmacggbhcodjaaDoorProg
import Derived.WalkKit
import Derived.WalkSpells
import Derived.Lib.Hide
import Derived.Deep.QuietTactic
import Derived.BigQuiet
import Derived.Lib.ConvBytes
namespace Go.Proofs.YtgmacggbhcodjaaDoor.Q
open Go.RowKit Go.Proofs.YtgmacggbhcodjaaDoorW.PrintWords
set_option linter.unusedVariables false
set_option linter.unusedSimpArgs false
def lowB (b : UInt8) : UInt8 := if 65 ≤ b ∧ b ≤ 90 then b + 32 else b
def lowI (n : Int) : Int := if 65 ≤ n ∧ n ≤ 90 then n + 32 else n
def octet_Lower.f (a0 : ByteArray) : Option ByteArray := if a0.size ≤ 4611686018427387904 then some ⟨(a0.data.toList.map lowB).toArray⟩ else none
def lowAt (s : ByteArray) (k j : Nat) : Int := if j < k then lowI (s.data.toList.getD j 0).toNat else (s.data.toList.getD j 0).toNat
theorem or32 (n : Int) (h1 : 65 ≤ n) (h2 : n ≤ 90) : Go.bits .or .u8 n 32 = n + 32 := by
  have h : ∀ m : Fin 26, Go.bits .or .u8 (65 + (m.val : Int)) 32 = 97 + (m.val : Int) := by decide +kernel
  have := h ⟨(n - 65).toNat, by omega⟩
  rw [show (65 + ((n - 65).toNat : Int)) = n by omega, show (97 + ((n - 65).toNat : Int)) = n + 32 by omega] at this
  exact this
theorem lowAt_self (s : ByteArray) (k : Nat) : lowAt s k k = (s.data.toList.getD k 0).toNat := by simp [lowAt]
theorem lowAt_succ_self (s : ByteArray) (k : Nat) : lowAt s (k + 1) k = lowI (s.data.toList.getD k 0).toNat := by simp [lowAt]
theorem lowAt_succ_ne (s : ByteArray) (k j : Nat) (h : j ≠ k) : lowAt s (k + 1) j = lowAt s k j := by
  unfold lowAt
  by_cases h1 : j < k
  · rw [if_pos (by omega), if_pos h1]
  · rw [if_neg (by omega), if_neg h1]
theorem lowB_toNat (b : UInt8) : ((lowB b).toNat : Int) = lowI b.toNat := by
  unfold lowB lowI
  have hb := b.toNat_lt
  by_cases h : 65 ≤ b ∧ b ≤ 90
  · obtain ⟨h1, h2⟩ := h
    rw [UInt8.le_iff_toNat_le] at h1 h2
    have e1 : (65 : UInt8).toNat = 65 := rfl
    have e2 : (90 : UInt8).toNat = 90 := rfl
    have e3 : (32 : UInt8).toNat = 32 := rfl
    rw [if_pos ⟨UInt8.le_iff_toNat_le.2 h1, UInt8.le_iff_toNat_le.2 h2⟩, if_pos ⟨by omega, by omega⟩, UInt8.toNat_add]
    omega
  · have : ¬ (65 ≤ (b.toNat : Int) ∧ (b.toNat : Int) ≤ 90) := by
      intro ⟨h1, h2⟩
      exact h ⟨UInt8.le_iff_toNat_le.2 (by show 65 ≤ _; omega), UInt8.le_iff_toNat_le.2 (by show _ ≤ 90; omega)⟩
    rw [if_neg h, if_neg this]
theorem strOfNums_low (s : ByteArray) : strOfNums (s.data.toList.map fun b => lowI b.toNat) = ⟨(s.data.toList.map lowB).toArray⟩ := by
  show (⟨((s.data.toList.map fun b => lowI b.toNat).map fun n => UInt8.ofNat n.toNat).toArray⟩ : ByteArray) = _
  rw [List.map_map]
  have : ((fun n : Int => UInt8.ofNat n.toNat) ∘ fun b : UInt8 => lowI b.toNat) = lowB := by
    funext b
    show UInt8.ofNat (lowI b.toNat).toNat = lowB b
    rw [← lowB_toNat]; simp
  rw [this]
set_option maxHeartbeats 400000 in
theorem octet_Lower.calls (a0 r : ByteArray) (w : World) (h : octet_Lower.f a0 = some r) :
    Calls Tryd.prog 29 #[.string a0] w fun e w' => e = .returned (.string r) ∧ Below w.heap.size w w' := by
  unfold octet_Lower.f at h
  by_cases hsz0 : a0.size ≤ 4611686018427387904
  case neg => rw [if_neg hsz0] at h; exact absurd h (by simp)
  rw [if_pos hsz0] at h
  have HR := Lib.hid (Option.some.inj h)
  clear h
  have hcv := fun (W : World) => Lib.run_convert_string_bytes (P := Tryd.prog) W 9 109 5 a0 Tryd.underlying9 Tryd.underlying109 Tryd.underlying5
  go_enter Tryd.func29, Tryd.ntmps29
  go_wp2_with fail
  have HW : ∃ W0, Lib.bytesWorld w 5 a0 = W0 := ⟨_, rfl⟩
  obtain ⟨W0, hW0⟩ := HW
  rw [hW0]
  have HB0 : Below w.heap.size w W0 := by
    rw [← hW0]
    refine ⟨rfl, rfl, rfl, ?_, fun j hj => Lib.bytesWorld_at_old w 5 a0 j hj⟩
    rw [Lib.bytesWorld_size]; omega
  have HC0 : ∀ j, j < a0.size → W0.cell? ⟨w.heap.size, j, none⟩ = some (.int .u8 (a0.data.toList.getD j 0).toNat) := by
    rw [← hW0]; exact fun j hj => Lib.bytesWorld_cell w 5 a0 j hj
  have HF0 : ∀ j, j < a0.size → W0.frozen? ⟨w.heap.size, j, none⟩ = false := by
    rw [← hW0]
    intro j hj
    have hn := Lib.bytesWorld_at_new w 5 a0
    have : a0.size ≤ (Lib.bytesCells w 5 a0).size := by simp only [Lib.bytesCells, Array.size_append, Array.size_map, ByteArray.size_data]; omega
    simp [World.frozen?, hn]; omega
  clear hW0 hcv
  have hsz : a0.size ≤ 9223372036854775807 := by omega
  go_loopw [4, 5, 10] (fun _ _ i wr => ∃ k : Nat, k ≤ a0.size ∧ i = .int .i64 k ∧ Aside (Below w.heap.size w wr) ∧ Aside (∀ j, j < a0.size → wr.cell? ⟨w.heap.size, j, none⟩ = some (.int .u8 (lowAt a0 k j))) ∧ Aside (∀ j, j < a0.size → wr.frozen? ⟨w.heap.size, j, none⟩ = false)) (fun _ _ i _ => a0.size - (intOf i).toNat)
  case atStart => exact ⟨0, Nat.zero_le _, rfl, HB0, fun j hj => by rw [HC0 j hj]; simp [lowAt], HF0⟩
  case round =>
    clear HC0 HF0 HB0
    obtain ⟨k, hk, rfl, HB, HC, HF⟩ := hrel
    by_cases hlt : k < a0.size
    · have hc := HC.out k hlt
      have hf := HF.out k hlt
      have HE := Lib.hid (lowAt_self a0 k)
      generalize lowAt a0 k k = n at hc HE
      have keep : ¬ (65 ≤ n ∧ n ≤ 90) → ∀ j, j < a0.size → wr.cell? ⟨w.heap.size, j, none⟩ = some (.int .u8 (lowAt a0 (k + 1) j)) := by
        intro hn j hj
        by_cases e : j = k
        · subst e; rw [lowAt_succ_self, ← HE.out, lowI, if_neg hn]; exact hc
        · rw [lowAt_succ_ne _ _ _ e]; exact HC.out j hj
      have put : 65 ≤ n → n ≤ 90 → ∀ j, j < a0.size → (wr.setCell ⟨w.heap.size, k, none⟩ (.int .u8 (Go.bits .or .u8 n 32))).cell? ⟨w.heap.size, j, none⟩ = some (.int .u8 (lowAt a0 (k + 1) j)) := by
        intro h1 h2 j hj
        by_cases e : j = k
        · subst e
          rw [lowAt_succ_self, ← HE.out, lowI, if_pos ⟨h1, h2⟩, or32 n h1 h2]
          exact World.cell?_setCell_same' _ _ _ (by rw [hc]; rfl)
        · rw [lowAt_succ_ne _ _ _ e]
          exact (World.cell?_setCell_other _ _ _ _ (by intro h; injection h with _ h; exact e h.symm)).trans (HC.out j hj)
      have keepA := Lib.hid keep
      have putA := Lib.hid put
      clear keep put
      go_wp2_with fail
      all_goals go_roundw
      case rel => exact ⟨k + 1, by omega, by go_num, HB.out.setCell (p := ⟨w.heap.size, k, none⟩) (Nat.le_refl _) _, putA.out (by assumption) (by assumption), fun j hj => by rw [World.frozen?_setCell]; exact HF.out j hj⟩
      case rel => exact ⟨k + 1, by omega, by go_num, HB.out, keepA.out (by omega), HF.out⟩
      case rel => exact ⟨k + 1, by omega, by go_num, HB.out, keepA.out (by omega), HF.out⟩
      all_goals (simp [intOf]; omega)
    · obtain rfl : k = a0.size := by omega
      have hcell : ∀ i, i < a0.size → wr.cell? ⟨w.heap.size, 0 + i, none⟩ = some (.int .u8 ((a0.data.toList.map fun b => lowI b.toNat).getD i 0)) := by
        intro i hi
        have hi' : i < a0.data.toList.length := by simpa using hi
        rw [Nat.zero_add, HC.out i hi]
        simp [lowAt, hi, List.getD, List.getElem?_eq_getElem hi']
      have hcb := run_convert_bytes_arg (P := Tryd.prog) wr 109 5 Tryd.underlying109 Tryd.underlying5 w.heap.size 0 a0.size (grownCap w a0.size 0 5) (a0.data.toList.map fun b => lowI b.toNat) (by simp) hcell 9 Tryd.underlying9
      have HS : Hid (strOfNums (a0.data.toList.map fun b => lowI b.toNat) = r) := (strOfNums_low a0).trans HR.out
      clear hcell
      generalize strOfNums (a0.data.toList.map fun b => lowI b.toNat) = r' at hcb HS
      clear hlt hk
      go_wp2_with fail
      go_ret
      exact ⟨congrArg (fun x => Ending.returned (.string x)) HS.out, HB.out⟩
end Go.Proofs.YtgmacggbhcodjaaDoor.Q

