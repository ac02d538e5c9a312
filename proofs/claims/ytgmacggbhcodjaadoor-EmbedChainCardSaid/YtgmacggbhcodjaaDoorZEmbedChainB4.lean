/- A part of the claim EmbedChain: B4. -/
import Derived.Test.YtgmacggbhcodjaaDoorZEmbedChainA9
import Derived.Test.YtgmacggbhcodjaaDoorZEmbedChainL2
import Derived.Shelf.GgClosure.Gives
namespace Go.Proofs.YtgmacggbhcodjaaDoor.Q
set_option linter.unusedVariables false
set_option linter.unusedSimpArgs false
open Go.RowKit Go.Proofs.YtgmacggbhcodjaaDoorW.PrintWords
def PredT (g : Nat) (lb : Array Value) (p : ByteArray → Bool) (l : List ByteArray) (w : World) : Prop :=
  ∀ x ∈ l, ∀ W, Below w.heap.size w W → Calls Tryd.prog g (#[.string x] ++ lb) W fun e w' => e = .returned (.bool (p x)) ∧ Below w.heap.size w w'
theorem tany_hit (p : ByteArray → Bool) (l : List ByteArray) (k : Nat) (h : k < l.length) (hp : p l[k] = true) : l.any p = true := List.any_eq_true.2 ⟨_, List.getElem_mem _, hp⟩
theorem tany_miss (p : ByteArray → Bool) (l : List ByteArray) (h : ∀ k : Nat, ∀ hk : k < l.length, p l[k] = false) : l.any p = false := by
  rw [Bool.eq_false_iff]
  intro hc
  obtain ⟨x, hx, hpx⟩ := List.any_eq_true.1 hc
  obtain ⟨k, hk, rfl⟩ := List.mem_iff_getElem.1 hx
  rw [h k hk] at hpx
  exact absurd hpx (by simp)
set_option maxRecDepth 100000 in
set_option maxHeartbeats 2000000 in
theorem idxT (g : Nat) (lb : Array Value) (eg : ∀ args w, (callFunc g args).run Tryd.prog w = .ok (.enter g args) w) (p : ByteArray → Bool) (A : Option Addr) (c : Nat) (l : List ByteArray) (w : World) (hr : Kd.C Kd.string w A l.length l) (hl : l.length ≤ 9223372036854775807)
    (hp : PredT g lb p l w) : Calls Tryd.prog 99 #[.slice A l.length c, .func (.func g) #[] lb] w fun e w' => (∃ r : Int, e = .returned (.int .i64 r) ∧ decide (0 ≤ r) = l.any p) ∧ Below w.heap.size w w' := by
  have HR := Lib.hid hr
  have HP := Lib.hid hp
  clear hr hp
  go_enter Tryd.func99, Tryd.ntmps99
  go_wp2
  go_loopw [5, 8] (fun _ s8 wr => ∃ k : Nat, k ≤ l.length ∧ s8 = .int .i64 k ∧ Aside (Below w.heap.size w wr) ∧ Aside (∀ j : Nat, j < k → ∀ hj : j < l.length, p l[j] = false)) (fun _ s8 _ => l.length - (intOf s8).toNat)
  case atStart => exact ⟨0, Nat.zero_le _, rfl, Below.refl _ w, fun j hj => absurd hj (Nat.not_lt_zero _)⟩
  case round =>
    obtain ⟨k, hk, rfl, BW, AA⟩ := hrel
    by_cases hlt : k < l.length
    · have hlti : (k : Int) < (l.length : Int) := by omega
      obtain ⟨b, o, rfl, hbl, hcs⟩ := C_str (Kd.C_below HR.out BW.out) (by omega)
      have c0 := hcs k l[k] (List.getElem?_eq_getElem hlt)
      clear hcs hbl
      have hcall := HP.out _ (List.getElem_mem hlt) wr BW.out
      have HM := Lib.hid (tany_hit p l k hlt)
      have HZ := Lib.hid AA.out
      cases hq : p l[k] with
      | true =>
        rw [hq] at hcall
        have HA := Lib.hid (HM.out hq)
        clear HM hq
        generalize l[k] = x at hcall c0
        go_wp2_with (go_at_fn g; refine hcall.mono ?_; rintro e w' ⟨rfl, hb'⟩)
        go_ret
        exact ⟨⟨k, rfl, by rw [HA.out]; simp⟩, hb'⟩
      | false =>
        rw [hq] at hcall
        have HA := Lib.hid hq
        clear HM hq
        generalize hx : l[k] = x at hcall c0
        have HX := Lib.hid hx
        clear hx
        go_wp2_with (go_at_fn g; refine hcall.mono ?_; rintro e w' ⟨rfl, hb'⟩)
        go_roundw
        case rel =>
          refine ⟨k + 1, by omega, by go_num, hb', fun j hj hj2 => ?_⟩
          by_cases e : j = k
          · subst e; exact HA.out
          · exact HZ.out j (by omega) hj2
        case measure => simp [intOf]; omega
    · have hlti : ¬ (k : Int) < (l.length : Int) := by omega
      obtain rfl : k = l.length := by omega
      have HZ := Lib.hid (tany_miss p l (fun k hk => AA.out k hk hk))
      go_wp2
      go_ret
      exact ⟨⟨-1, rfl, by rw [HZ.out]; decide⟩, BW.out⟩
set_option maxRecDepth 100000 in
theorem containsT (g : Nat) (lb : Array Value) (eg : ∀ args w, (callFunc g args).run Tryd.prog w = .ok (.enter g args) w) (p : ByteArray → Bool) (A : Option Addr) (c : Nat) (l : List ByteArray) (w : World) (hr : Kd.C Kd.string w A l.length l) (hl : l.length ≤ 9223372036854775807)
    (hp : PredT g lb p l w) : Calls Tryd.prog 84 #[.slice A l.length c, .func (.func g) #[] lb] w fun e w' => e = .returned (.bool (l.any p)) ∧ Below w.heap.size w w' := by
  go_enter Tryd.func84, Tryd.ntmps84
  go_wp2_with (go_at_call 99; refine (idxT g lb eg p A c l _ hr hl hp).mono ?_; rintro e w' ⟨⟨r, rfl, hr2⟩, hb'⟩)
  go_ret
  first | exact ⟨rfl, hb'⟩ | exact ⟨ret_bool hr2, hb'⟩
end Go.Proofs.YtgmacggbhcodjaaDoor.Q

