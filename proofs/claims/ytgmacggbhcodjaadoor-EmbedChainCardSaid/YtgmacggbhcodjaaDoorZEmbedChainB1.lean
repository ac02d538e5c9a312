/- A part of the claim EmbedChain: B1. -/
import Derived.Test.YtgmacggbhcodjaaDoorZEmbedChainA9
import Derived.Test.YtgmacggbhcodjaaDoorZEmbedChainK
import Derived.Shelf.GgClosure.Gives
namespace Go.Proofs.YtgmacggbhcodjaaDoor.Q
set_option linter.unusedVariables false
set_option linter.unusedSimpArgs false
open Go.RowKit Go.Proofs.YtgmacggbhcodjaaDoorW.PrintWords
def orgV (x : S35) : Value := .agg #[.bool x.f0, .int .i64 x.f1, .string x.f2, .string x.f3.f0, .bool x.f3.f1, .int .u32 x.f3.f2, .int .i64 x.f4]
def PredO (g : Nat) (lb : Array Value) (p : S35 → Bool) (l : List S35) (w : World) : Prop :=
  ∀ x ∈ l, ∀ W, Below w.heap.size w W → Calls Tryd.prog g (#[orgV x] ++ lb) W fun e w' => e = .returned (.bool (p x)) ∧ Below w.heap.size w w'
theorem getD_mem (l : List S35) (k : Nat) (h : k < l.length) : rd_T35 l k ∈ l := by
  unfold rd_T35
  rw [show ((k : Int).toNat) = k from rfl, List.getD_eq_getElem?_getD, List.getElem?_eq_getElem h]
  exact List.getElem_mem _
theorem any_hit (p : S35 → Bool) (l : List S35) (k : Nat) (h : k < l.length) (hp : p (rd_T35 l k) = true) : l.any p = true := List.any_eq_true.2 ⟨_, getD_mem l k h, hp⟩
theorem any_miss (p : S35 → Bool) (l : List S35) (h : ∀ k : Nat, k < l.length → p (rd_T35 l k) = false) : l.any p = false := by
  rw [Bool.eq_false_iff]
  intro hc
  obtain ⟨x, hx, hpx⟩ := List.any_eq_true.1 hc
  obtain ⟨k, hk, rfl⟩ := List.mem_iff_getElem.1 hx
  have := h k hk
  unfold rd_T35 at this
  rw [show ((k : Int).toNat) = k from rfl, List.getD_eq_getElem?_getD, List.getElem?_eq_getElem hk] at this
  simp at this
  rw [this] at hpx
  exact absurd hpx (by simp)
set_option maxRecDepth 100000 in
set_option maxHeartbeats 2000000 in
theorem idxO (g : Nat) (lb : Array Value) (eg : ∀ args w, (callFunc g args).run Tryd.prog w = .ok (.enter g args) w) (p : S35 → Bool) (A : Option Addr) (c : Nat) (l : List S35) (w : World) (hr : Kd.C k35 w A l.length l) (hl : l.length ≤ 9223372036854775807)
    (hp : PredO g lb p l w) : Calls Tryd.prog 66 #[.slice A l.length c, .func (.func g) #[] lb] w fun e w' => (∃ r : Int, e = .returned (.int .i64 r) ∧ decide (0 ≤ r) = l.any p) ∧ Below w.heap.size w w' := by
  have HR := Lib.hid hr
  have HP := Lib.hid hp
  clear hr hp
  go_enter Tryd.func66, Tryd.ntmps66
  go_wp2
  go_loopw [5, 8] (fun _ s8 wr => ∃ k : Nat, k ≤ l.length ∧ s8 = .int .i64 k ∧ Aside (Below w.heap.size w wr) ∧ Aside (∀ j : Nat, j < k → p (rd_T35 l j) = false)) (fun _ s8 _ => l.length - (intOf s8).toNat)
  case atStart => exact ⟨0, Nat.zero_le _, rfl, Below.refl _ w, fun j hj => absurd hj (Nat.not_lt_zero _)⟩
  case round =>
    obtain ⟨k, hk, rfl, BW, AA⟩ := hrel
    by_cases hlt : k < l.length
    · have hlti : (k : Int) < (l.length : Int) := by omega
      obtain ⟨ad, rfl, c0, c1, c2, c3, c4, c5, c6⟩ := at_T35 (Kd.C_below HR.out BW.out) (k : Int) (by omega) hlti
      simp only [Int.toNat_natCast] at c0 c1 c2 c3 c4 c5 c6
      have hcall := HP.out _ (getD_mem l k hlt) wr BW.out
      have HM := Lib.hid (any_hit p l k hlt)
      have HZ := Lib.hid AA.out
      have HQ : Hid (p (rd_T35 l k) = p (rd_T35 l k)) := rfl
      unfold orgV at hcall
      cases hq : p (rd_T35 l k) with
      | true =>
        rw [hq] at hcall
        have HA := Lib.hid (HM.out hq)
        clear HM HQ hq
        generalize rd_T35 l k = x at hcall c0 c1 c2 c3 c4 c5 c6
        go_wp2_with (go_at_fn g; refine hcall.mono ?_; rintro e w' ⟨rfl, hb'⟩)
        go_ret
        exact ⟨⟨k, rfl, by rw [HA.out]; simp⟩, hb'⟩
      | false =>
        rw [hq] at hcall
        have HA := Lib.hid hq
        clear HM HQ hq
        generalize hx : rd_T35 l k = x at hcall c0 c1 c2 c3 c4 c5 c6
        have HX := Lib.hid hx
        clear hx
        go_wp2_with (go_at_fn g; refine hcall.mono ?_; rintro e w' ⟨rfl, hb'⟩)
        go_roundw
        case rel =>
          refine ⟨k + 1, by omega, by go_num, hb', fun j hj => ?_⟩
          by_cases e : j = k
          · subst e; exact HA.out
          · exact HZ.out j (by omega)
        case measure => simp [intOf]; omega
    · have hlti : ¬ (k : Int) < (l.length : Int) := by omega
      obtain rfl : k = l.length := by omega
      have HZ := Lib.hid (any_miss p l AA.out)
      go_wp2
      go_ret
      exact ⟨⟨-1, rfl, by rw [HZ.out]; decide⟩, BW.out⟩
set_option maxRecDepth 100000 in
theorem containsO (g : Nat) (lb : Array Value) (eg : ∀ args w, (callFunc g args).run Tryd.prog w = .ok (.enter g args) w) (p : S35 → Bool) (A : Option Addr) (c : Nat) (l : List S35) (w : World) (hr : Kd.C k35 w A l.length l) (hl : l.length ≤ 9223372036854775807)
    (hp : PredO g lb p l w) : Calls Tryd.prog 45 #[.slice A l.length c, .func (.func g) #[] lb] w fun e w' => e = .returned (.bool (l.any p)) ∧ Below w.heap.size w w' := by
  go_enter Tryd.func45, Tryd.ntmps45
  go_wp2_with (go_at_call 66; refine (idxO g lb eg p A c l _ hr hl hp).mono ?_; rintro e w' ⟨⟨r, rfl, hr2⟩, hb'⟩)
  go_ret
  first | exact ⟨rfl, hb'⟩ | exact ⟨ret_bool hr2, hb'⟩
end Go.Proofs.YtgmacggbhcodjaaDoor.Q

