/- A part of the claim EmbedChain: M1. -/
import Derived.Test.YtgmacggbhcodjaaDoorZEmbedChainM1a
import Derived.Test.YtgmacggbhcodjaaDoorZEmbedChainA2
namespace Go.Proofs.YtgmacggbhcodjaaDoor.M1
open Go.RowKit Go.Proofs.YtgmacggbhcodjaaDoor.Q Go.Proofs.YtgmacggbhcodjaaDoorW.PrintWords Go.Proofs.YtgmacggbhcodjaaDoorW.PrintLast Go.Proofs.YtgmacggbhcodjaaDoorW.PrintMore
attribute [local go_sem] max2_int max_two
set_option linter.unusedVariables false
set_option linter.unusedSimpArgs false

def urlp_scheme.l0 : Nat → ByteArray → Int → Int → Option (Bool)
  | 0, _, _, _ => none
  | k + 1, x0, x7, x8 => if x8 < x7 then (if 0 ≤ x8 then (if x8 < (x0.size : Int) then (if (bt x0 x8) ≥ 97 then (if ((bt x0 x8) ≤ 122) then (urlp_scheme.l0 k x0 x7 (wrap64 (x8 + 1))) else (if x8 = 0 then (some false) else (if (bt x0 x8) < 48 then ((strings_IndexByte.f (⟨#[43, 45, 46]⟩ : ByteArray) (bt x0 x8)).bind fun t131 => (if t131 < 0 then (some false) else (urlp_scheme.l0 k x0 x7 (wrap64 (x8 + 1))))) else (if (bt x0 x8) > 57 then ((strings_IndexByte.f (⟨#[43, 45, 46]⟩ : ByteArray) (bt x0 x8)).bind fun t132 => (if t132 < 0 then (some false) else (urlp_scheme.l0 k x0 x7 (wrap64 (x8 + 1))))) else (urlp_scheme.l0 k x0 x7 (wrap64 (x8 + 1))))))) else (if x8 = 0 then (some false) else (if (bt x0 x8) < 48 then ((strings_IndexByte.f (⟨#[43, 45, 46]⟩ : ByteArray) (bt x0 x8)).bind fun t133 => (if t133 < 0 then (some false) else (urlp_scheme.l0 k x0 x7 (wrap64 (x8 + 1))))) else (if (bt x0 x8) > 57 then ((strings_IndexByte.f (⟨#[43, 45, 46]⟩ : ByteArray) (bt x0 x8)).bind fun t134 => (if t134 < 0 then (some false) else (urlp_scheme.l0 k x0 x7 (wrap64 (x8 + 1))))) else (urlp_scheme.l0 k x0 x7 (wrap64 (x8 + 1))))))) else (none)) else (none)) else (some (x0.toList != ([] : List UInt8)))
def urlp_scheme.f (k : Nat) (a0 : ByteArray) : Option (Bool) := urlp_scheme.l0 k a0 (a0.size : Int) 0
set_option maxHeartbeats 8000000 in
set_option maxRecDepth 100000 in
theorem urlp_scheme.calls (k : Nat) (a0 : ByteArray) (r : Bool) (w : World) (h : urlp_scheme.f k a0 = some r) :
    Calls Tryd.prog 31 #[.string a0] w fun e w' => e = .returned (.bool r) ∧ Drawn0 w w' := by
  have H : (urlp_scheme.l0 k a0 (a0.size : Int) 0) = some r := h
  clear h
  have H' := Aside0.mk H
  clear H
  go_enter Tryd.func31, Tryd.ntmps31
  go_wp2
  go_loopg [8] k (fun kq v8 w' => ∃ (x8_1 : Int), v8 = .int .i64 x8_1 ∧ Aside0 (urlp_scheme.l0 kq a0 (a0.size : Int) x8_1 = some r) ∧ Aside0 (kq ≤ k) ∧ Drawn0 w w')
  case atStart => exact ⟨(0), (by first | rfl | (simp; done) | (simp [*]; done) | (simp [ne_nil_bool]; done)), H', ⟨Nat.le_refl _⟩, by repeat (first | exact Drawn0.refl _ | apply Drawn0.step)⟩
  case round =>
    clear H'
    obtain ⟨x8_1, rfl, HA, HK1, ⟨m1, rfl⟩⟩ := hrel
    cases gk with
    | zero => exact absurd HA.out (by simp [urlp_scheme.l0])
    | succ k1 =>
      have H := HA.out
      clear HA
      simp only [urlp_scheme.l0] at H
      by_cases c2 : x8_1 < (a0.size : Int)
      · rw [if_pos c2] at H
        have c2b0 : decide (x8_1 < (a0.size : Int)) = true := decide_eq_true c2
        clear c2
        by_cases c3 : 0 ≤ x8_1
        · rw [if_pos c3] at H
          have c3b0 : decide (0 ≤ x8_1) = true := decide_eq_true c3
          clear c3
          by_cases c4 : x8_1 < (a0.size : Int)
          · rw [if_pos c4] at H
            have c4b0 : decide (x8_1 < (a0.size : Int)) = true := decide_eq_true c4
            clear c4
            by_cases c6 : (bt a0 x8_1) ≥ 97
            · rw [if_pos c6] at H
              have c6b0 : decide (97 ≤ (bt a0 x8_1)) = true := decide_eq_true c6
              clear c6
              by_cases c7 : ((bt a0 x8_1) ≤ 122)
              · rw [if_pos c7] at H
                have c7b0 : decide ((bt a0 x8_1) ≤ 122) = true := decide_eq_true c7
                clear c7
                have H' := Aside0.mk H
                clear H
                have p5 : 0 ≤ (x8_1 : Int) := of_decide_eq_true (by first | (with_reducible assumption) | assumption)
                have q5 : x8_1 < (a0.size : Int) := of_decide_eq_true (by first | (with_reducible assumption) | assumption)
                have hx5 := bt_at a0 x8_1
                replace p5 := eq_true p5
                replace q5 := eq_true q5
                go_wp2
                go_roundg k1
                case measure => have := HK1.out; omega
                case rel => exact ⟨(wrap64 (x8_1 + 1)), (by first | rfl | (simp; done) | (simp [*]; done) | (simp [ne_nil_bool]; done)), H', ⟨by have := HK1.out; omega⟩, by repeat (first | exact Drawn0.refl _ | apply Drawn0.step)⟩
              · rw [if_neg c7] at H
                have c7b0 : decide ((bt a0 x8_1) ≤ 122) = false := decide_eq_false c7
                clear c7
                by_cases c8 : x8_1 = 0
                · rw [if_pos c8] at H
                  have c8b0 : (x8_1 == 0) = true := beq_iff_eq.mpr c8
                  have c8b1 : (x8_1 != 0) = false := bne_eq_false_iff_eq.mpr c8
                  clear c8
                  obtain rfl := Option.some.inj H
                  have p5 : 0 ≤ (x8_1 : Int) := of_decide_eq_true (by first | (with_reducible assumption) | assumption)
                  have q5 : x8_1 < (a0.size : Int) := of_decide_eq_true (by first | (with_reducible assumption) | assumption)
                  have hx5 := bt_at a0 x8_1
                  replace p5 := eq_true p5
                  replace q5 := eq_true q5
                  go_wp2
                  go_ret
                  exact ⟨by first | rfl | (simp; done) | (simp [*]; done) | (simp [ne_nil_bool]; done), by repeat (first | exact Drawn0.refl _ | apply Drawn0.step)⟩
                · rw [if_neg c8] at H
                  have c8b0 : (x8_1 == 0) = false := beq_eq_false_iff_ne.mpr c8
                  have c8b1 : (x8_1 != 0) = true := bne_iff_ne.mpr c8
                  by_cases c9 : (bt a0 x8_1) < 48
                  · rw [if_pos c9] at H
                    have c9b0 : decide ((bt a0 x8_1) < 48) = true := decide_eq_true c9
                    clear c9
                    replace H := Option.bind_eq_some_iff.mp H
                    obtain ⟨t131, A100, H⟩ := H
                    replace H : (if t131 < 0 then (some false) else (urlp_scheme.l0 k1 a0 (a0.size : Int) (wrap64 (x8_1 + 1)))) = some r := H
                    have A10 := Aside0.mk A100
                    clear A100
                    by_cases c11 : t131 < 0
                    · rw [if_pos c11] at H
                      have c11b0 : decide (t131 < 0) = true := decide_eq_true c11
                      clear c11
                      obtain rfl := Option.some.inj H
                      have p5 : 0 ≤ (x8_1 : Int) := of_decide_eq_true (by first | (with_reducible assumption) | assumption)
                      have q5 : x8_1 < (a0.size : Int) := of_decide_eq_true (by first | (with_reducible assumption) | assumption)
                      have hx5 := bt_at a0 x8_1
                      replace p5 := eq_true p5
                      replace q5 := eq_true q5
                      go_wp2_with (first | (go_at_call 53; (with_reducible refine (strings_IndexByte.calls (⟨#[43, 45, 46]⟩ : ByteArray) (bt a0 x8_1) t131 _ A10.out).mono ?_); rintro e w' ⟨rfl, ⟨nd, rfl⟩⟩))
                      go_ret
                      exact ⟨by first | rfl | (simp; done) | (simp [*]; done) | (simp [ne_nil_bool]; done), by repeat (first | exact Drawn0.refl _ | apply Drawn0.step)⟩
                    · rw [if_neg c11] at H
                      have c11b0 : decide (t131 < 0) = false := decide_eq_false c11
                      clear c11
                      have H' := Aside0.mk H
                      clear H
                      have p5 : 0 ≤ (x8_1 : Int) := of_decide_eq_true (by first | (with_reducible assumption) | assumption)
                      have q5 : x8_1 < (a0.size : Int) := of_decide_eq_true (by first | (with_reducible assumption) | assumption)
                      have hx5 := bt_at a0 x8_1
                      replace p5 := eq_true p5
                      replace q5 := eq_true q5
                      go_wp2_with (first | (go_at_call 53; (with_reducible refine (strings_IndexByte.calls (⟨#[43, 45, 46]⟩ : ByteArray) (bt a0 x8_1) t131 _ A10.out).mono ?_); rintro e w' ⟨rfl, ⟨nd, rfl⟩⟩))
                      go_roundg k1
                      case measure => have := HK1.out; omega
                      case rel => exact ⟨(wrap64 (x8_1 + 1)), (by first | rfl | (simp; done) | (simp [*]; done) | (simp [ne_nil_bool]; done)), H', ⟨by have := HK1.out; omega⟩, by repeat (first | exact Drawn0.refl _ | apply Drawn0.step)⟩
                  · rw [if_neg c9] at H
                    have c9b0 : decide ((bt a0 x8_1) < 48) = false := decide_eq_false c9
                    clear c9
                    by_cases c12 : (bt a0 x8_1) > 57
                    · rw [if_pos c12] at H
                      have c12b0 : decide (57 < (bt a0 x8_1)) = true := decide_eq_true c12
                      clear c12
                      replace H := Option.bind_eq_some_iff.mp H
                      obtain ⟨t132, A130, H⟩ := H
                      replace H : (if t132 < 0 then (some false) else (urlp_scheme.l0 k1 a0 (a0.size : Int) (wrap64 (x8_1 + 1)))) = some r := H
                      have A13 := Aside0.mk A130
                      clear A130
                      by_cases c14 : t132 < 0
                      · rw [if_pos c14] at H
                        have c14b0 : decide (t132 < 0) = true := decide_eq_true c14
                        clear c14
                        obtain rfl := Option.some.inj H
                        have p5 : 0 ≤ (x8_1 : Int) := of_decide_eq_true (by first | (with_reducible assumption) | assumption)
                        have q5 : x8_1 < (a0.size : Int) := of_decide_eq_true (by first | (with_reducible assumption) | assumption)
                        have hx5 := bt_at a0 x8_1
                        replace p5 := eq_true p5
                        replace q5 := eq_true q5
                        go_wp2_with (first | (go_at_call 53; (with_reducible refine (strings_IndexByte.calls (⟨#[43, 45, 46]⟩ : ByteArray) (bt a0 x8_1) t132 _ A13.out).mono ?_); rintro e w' ⟨rfl, ⟨nd, rfl⟩⟩))
                        go_ret
                        exact ⟨by first | rfl | (simp; done) | (simp [*]; done) | (simp [ne_nil_bool]; done), by repeat (first | exact Drawn0.refl _ | apply Drawn0.step)⟩
                      · rw [if_neg c14] at H
                        have c14b0 : decide (t132 < 0) = false := decide_eq_false c14
                        clear c14
                        have H' := Aside0.mk H
                        clear H
                        have p5 : 0 ≤ (x8_1 : Int) := of_decide_eq_true (by first | (with_reducible assumption) | assumption)
                        have q5 : x8_1 < (a0.size : Int) := of_decide_eq_true (by first | (with_reducible assumption) | assumption)
                        have hx5 := bt_at a0 x8_1
                        replace p5 := eq_true p5
                        replace q5 := eq_true q5
                        go_wp2_with (first | (go_at_call 53; (with_reducible refine (strings_IndexByte.calls (⟨#[43, 45, 46]⟩ : ByteArray) (bt a0 x8_1) t132 _ A13.out).mono ?_); rintro e w' ⟨rfl, ⟨nd, rfl⟩⟩))
                        go_roundg k1
                        case measure => have := HK1.out; omega
                        case rel => exact ⟨(wrap64 (x8_1 + 1)), (by first | rfl | (simp; done) | (simp [*]; done) | (simp [ne_nil_bool]; done)), H', ⟨by have := HK1.out; omega⟩, by repeat (first | exact Drawn0.refl _ | apply Drawn0.step)⟩
                    · rw [if_neg c12] at H
                      have c12b0 : decide (57 < (bt a0 x8_1)) = false := decide_eq_false c12
                      clear c12
                      have H' := Aside0.mk H
                      clear H
                      have p5 : 0 ≤ (x8_1 : Int) := of_decide_eq_true (by first | (with_reducible assumption) | assumption)
                      have q5 : x8_1 < (a0.size : Int) := of_decide_eq_true (by first | (with_reducible assumption) | assumption)
                      have hx5 := bt_at a0 x8_1
                      replace p5 := eq_true p5
                      replace q5 := eq_true q5
                      go_wp2
                      go_roundg k1
                      case measure => have := HK1.out; omega
                      case rel => exact ⟨(wrap64 (x8_1 + 1)), (by first | rfl | (simp; done) | (simp [*]; done) | (simp [ne_nil_bool]; done)), H', ⟨by have := HK1.out; omega⟩, by repeat (first | exact Drawn0.refl _ | apply Drawn0.step)⟩
            · rw [if_neg c6] at H
              have c6b0 : decide (97 ≤ (bt a0 x8_1)) = false := decide_eq_false c6
              clear c6
              by_cases c15 : x8_1 = 0
              · rw [if_pos c15] at H
                have c15b0 : (x8_1 == 0) = true := beq_iff_eq.mpr c15
                have c15b1 : (x8_1 != 0) = false := bne_eq_false_iff_eq.mpr c15
                clear c15
                obtain rfl := Option.some.inj H
                have p5 : 0 ≤ (x8_1 : Int) := of_decide_eq_true (by first | (with_reducible assumption) | assumption)
                have q5 : x8_1 < (a0.size : Int) := of_decide_eq_true (by first | (with_reducible assumption) | assumption)
                have hx5 := bt_at a0 x8_1
                replace p5 := eq_true p5
                replace q5 := eq_true q5
                go_wp2
                go_ret
                exact ⟨by first | rfl | (simp; done) | (simp [*]; done) | (simp [ne_nil_bool]; done), by repeat (first | exact Drawn0.refl _ | apply Drawn0.step)⟩
              · rw [if_neg c15] at H
                have c15b0 : (x8_1 == 0) = false := beq_eq_false_iff_ne.mpr c15
                have c15b1 : (x8_1 != 0) = true := bne_iff_ne.mpr c15
                by_cases c16 : (bt a0 x8_1) < 48
                · rw [if_pos c16] at H
                  have c16b0 : decide ((bt a0 x8_1) < 48) = true := decide_eq_true c16
                  clear c16
                  replace H := Option.bind_eq_some_iff.mp H
                  obtain ⟨t133, A170, H⟩ := H
                  replace H : (if t133 < 0 then (some false) else (urlp_scheme.l0 k1 a0 (a0.size : Int) (wrap64 (x8_1 + 1)))) = some r := H
                  have A17 := Aside0.mk A170
                  clear A170
                  by_cases c18 : t133 < 0
                  · rw [if_pos c18] at H
                    have c18b0 : decide (t133 < 0) = true := decide_eq_true c18
                    clear c18
                    obtain rfl := Option.some.inj H
                    have p5 : 0 ≤ (x8_1 : Int) := of_decide_eq_true (by first | (with_reducible assumption) | assumption)
                    have q5 : x8_1 < (a0.size : Int) := of_decide_eq_true (by first | (with_reducible assumption) | assumption)
                    have hx5 := bt_at a0 x8_1
                    replace p5 := eq_true p5
                    replace q5 := eq_true q5
                    go_wp2_with (first | (go_at_call 53; (with_reducible refine (strings_IndexByte.calls (⟨#[43, 45, 46]⟩ : ByteArray) (bt a0 x8_1) t133 _ A17.out).mono ?_); rintro e w' ⟨rfl, ⟨nd, rfl⟩⟩))
                    go_ret
                    exact ⟨by first | rfl | (simp; done) | (simp [*]; done) | (simp [ne_nil_bool]; done), by repeat (first | exact Drawn0.refl _ | apply Drawn0.step)⟩
                  · rw [if_neg c18] at H
                    have c18b0 : decide (t133 < 0) = false := decide_eq_false c18
                    clear c18
                    have H' := Aside0.mk H
                    clear H
                    have p5 : 0 ≤ (x8_1 : Int) := of_decide_eq_true (by first | (with_reducible assumption) | assumption)
                    have q5 : x8_1 < (a0.size : Int) := of_decide_eq_true (by first | (with_reducible assumption) | assumption)
                    have hx5 := bt_at a0 x8_1
                    replace p5 := eq_true p5
                    replace q5 := eq_true q5
                    go_wp2_with (first | (go_at_call 53; (with_reducible refine (strings_IndexByte.calls (⟨#[43, 45, 46]⟩ : ByteArray) (bt a0 x8_1) t133 _ A17.out).mono ?_); rintro e w' ⟨rfl, ⟨nd, rfl⟩⟩))
                    go_roundg k1
                    case measure => have := HK1.out; omega
                    case rel => exact ⟨(wrap64 (x8_1 + 1)), (by first | rfl | (simp; done) | (simp [*]; done) | (simp [ne_nil_bool]; done)), H', ⟨by have := HK1.out; omega⟩, by repeat (first | exact Drawn0.refl _ | apply Drawn0.step)⟩
                · rw [if_neg c16] at H
                  have c16b0 : decide ((bt a0 x8_1) < 48) = false := decide_eq_false c16
                  clear c16
                  by_cases c19 : (bt a0 x8_1) > 57
                  · rw [if_pos c19] at H
                    have c19b0 : decide (57 < (bt a0 x8_1)) = true := decide_eq_true c19
                    clear c19
                    replace H := Option.bind_eq_some_iff.mp H
                    obtain ⟨t134, A200, H⟩ := H
                    replace H : (if t134 < 0 then (some false) else (urlp_scheme.l0 k1 a0 (a0.size : Int) (wrap64 (x8_1 + 1)))) = some r := H
                    have A20 := Aside0.mk A200
                    clear A200
                    by_cases c21 : t134 < 0
                    · rw [if_pos c21] at H
                      have c21b0 : decide (t134 < 0) = true := decide_eq_true c21
                      clear c21
                      obtain rfl := Option.some.inj H
                      have p5 : 0 ≤ (x8_1 : Int) := of_decide_eq_true (by first | (with_reducible assumption) | assumption)
                      have q5 : x8_1 < (a0.size : Int) := of_decide_eq_true (by first | (with_reducible assumption) | assumption)
                      have hx5 := bt_at a0 x8_1
                      replace p5 := eq_true p5
                      replace q5 := eq_true q5
                      go_wp2_with (first | (go_at_call 53; (with_reducible refine (strings_IndexByte.calls (⟨#[43, 45, 46]⟩ : ByteArray) (bt a0 x8_1) t134 _ A20.out).mono ?_); rintro e w' ⟨rfl, ⟨nd, rfl⟩⟩))
                      go_ret
                      exact ⟨by first | rfl | (simp; done) | (simp [*]; done) | (simp [ne_nil_bool]; done), by repeat (first | exact Drawn0.refl _ | apply Drawn0.step)⟩
                    · rw [if_neg c21] at H
                      have c21b0 : decide (t134 < 0) = false := decide_eq_false c21
                      clear c21
                      have H' := Aside0.mk H
                      clear H
                      have p5 : 0 ≤ (x8_1 : Int) := of_decide_eq_true (by first | (with_reducible assumption) | assumption)
                      have q5 : x8_1 < (a0.size : Int) := of_decide_eq_true (by first | (with_reducible assumption) | assumption)
                      have hx5 := bt_at a0 x8_1
                      replace p5 := eq_true p5
                      replace q5 := eq_true q5
                      go_wp2_with (first | (go_at_call 53; (with_reducible refine (strings_IndexByte.calls (⟨#[43, 45, 46]⟩ : ByteArray) (bt a0 x8_1) t134 _ A20.out).mono ?_); rintro e w' ⟨rfl, ⟨nd, rfl⟩⟩))
                      go_roundg k1
                      case measure => have := HK1.out; omega
                      case rel => exact ⟨(wrap64 (x8_1 + 1)), (by first | rfl | (simp; done) | (simp [*]; done) | (simp [ne_nil_bool]; done)), H', ⟨by have := HK1.out; omega⟩, by repeat (first | exact Drawn0.refl _ | apply Drawn0.step)⟩
                  · rw [if_neg c19] at H
                    have c19b0 : decide (57 < (bt a0 x8_1)) = false := decide_eq_false c19
                    clear c19
                    have H' := Aside0.mk H
                    clear H
                    have p5 : 0 ≤ (x8_1 : Int) := of_decide_eq_true (by first | (with_reducible assumption) | assumption)
                    have q5 : x8_1 < (a0.size : Int) := of_decide_eq_true (by first | (with_reducible assumption) | assumption)
                    have hx5 := bt_at a0 x8_1
                    replace p5 := eq_true p5
                    replace q5 := eq_true q5
                    go_wp2
                    go_roundg k1
                    case measure => have := HK1.out; omega
                    case rel => exact ⟨(wrap64 (x8_1 + 1)), (by first | rfl | (simp; done) | (simp [*]; done) | (simp [ne_nil_bool]; done)), H', ⟨by have := HK1.out; omega⟩, by repeat (first | exact Drawn0.refl _ | apply Drawn0.step)⟩
          · rw [if_neg c4] at H
            exact absurd H (by simp)
        · rw [if_neg c3] at H
          exact absurd H (by simp)
      · rw [if_neg c2] at H
        have c2b0 : decide (x8_1 < (a0.size : Int)) = false := decide_eq_false c2
        clear c2
        obtain rfl := Option.some.inj H
        go_wp2
        go_ret
        exact ⟨by first | rfl | (simp; done) | (simp [*]; done) | (simp [ne_nil_bool]; done), by repeat (first | exact Drawn0.refl _ | apply Drawn0.step)⟩

def urlp_Net.f (a0_0 : ByteArray) (a0_1 : ByteArray) (a0_2 : Bool) (a0_3 : Int) (a0_4 : Int) (a0_5 : ByteArray) (a0_6 : Bool) (a0_7 : ByteArray) (a0_8 : ByteArray) : Option (Bool) := if a0_0.toList = ([104, 116, 116, 112] : List UInt8) then (some true) else (some (a0_0.toList == ([104, 116, 116, 112, 115] : List UInt8)))
set_option maxHeartbeats 8000000 in
set_option maxRecDepth 100000 in
theorem urlp_Net.calls (a0_0 : ByteArray) (a0_1 : ByteArray) (a0_2 : Bool) (a0_3 : Int) (a0_4 : Int) (a0_5 : ByteArray) (a0_6 : Bool) (a0_7 : ByteArray) (a0_8 : ByteArray) (r : Bool) (w : World) (h : urlp_Net.f a0_0 a0_1 a0_2 a0_3 a0_4 a0_5 a0_6 a0_7 a0_8 = some r) :
    Calls Tryd.prog 10 #[.agg #[.string a0_0, .string a0_1, .bool a0_2, .int .u32 a0_3, .int .i64 a0_4, .string a0_5, .bool a0_6, .string a0_7, .string a0_8]] w fun e w' => e = .returned (.bool r) ∧ Below w.heap.size w w' := by
  have hu28 := Tryd.underlying28
  have HB := Aside0.mk (Below.refl w.heap.size w)
  have H : (if a0_0.toList = ([104, 116, 116, 112] : List UInt8) then (some true) else (some (a0_0.toList == ([104, 116, 116, 112, 115] : List UInt8)))) = some r := h
  clear h
  by_cases c2 : a0_0.toList = ([104, 116, 116, 112] : List UInt8)
  · rw [if_pos c2] at H
    have c2b0 : (a0_0.toList == ([104, 116, 116, 112] : List UInt8)) = true := beq_iff_eq.mpr c2
    have c2b1 : (a0_0.toList != ([104, 116, 116, 112] : List UInt8)) = false := bne_eq_false_iff_eq.mpr c2
    clear c2
    obtain rfl := Option.some.inj H
    go_enter Tryd.func10, Tryd.ntmps10
    go_wp2_with (first | ((with_reducible refine gate_dst (N := 1) rfl ?_); refine box_event ?hg (N := 1) ?hd (cs := #[.string a0_0, .string a0_1, .bool a0_2, .int .u32 a0_3, .int .i64 a0_4, .string a0_5, .bool a0_6, .string a0_7, .string a0_8]) (t := 28) ?hr ?_; (case hd => rfl); (case hg => rfl); (case hr => first | (go_simp; done) | (go_simp; rfl)); intro gb135 hg w3 hbox hb; have n0_ := Aside0.mk (below_step (by repeat (first | (with_reducible first | exact HB.out | apply below_alloc | apply pw_below_drewN | apply below_drew1) | exact HB.out)) hb); have n1_ := Aside0.mk (hbox); have n2_ := Aside0.mk ((by rw [hg]; exact (below_size (by repeat (first | (with_reducible first | exact HB.out | apply below_alloc | apply pw_below_drewN | apply below_drew1) | exact HB.out))) : w.heap.size ≤ gb135)); have n3_ := Aside0.mk ((by rw [hg]; exact (below_size (by repeat (first | (with_reducible first | exact HB.out | apply below_alloc | apply pw_below_drewN | apply below_drew1) | exact HB.out))) : w.heap.size ≤ gb135)); clear HB; have HB := n0_; have BK135 := n1_; have GW135 := n2_; have GE135 := n3_; clear n0_ n1_ n2_ n3_; clear hb hbox hg; have hcz4_0 : w3.cell? ⟨gb135, 0, none⟩ = some (.string a0_0) := (blk_cell BK135.out 0).trans rfl; have hcz4_1 : w3.cell? ⟨gb135, 1, none⟩ = some (.string a0_1) := (blk_cell BK135.out 1).trans rfl; have hcz4_2 : w3.cell? ⟨gb135, 2, none⟩ = some (.bool a0_2) := (blk_cell BK135.out 2).trans rfl; have hcz4_3 : w3.cell? ⟨gb135, 3, none⟩ = some (.int .u32 a0_3) := (blk_cell BK135.out 3).trans rfl; have hcz4_4 : w3.cell? ⟨gb135, 4, none⟩ = some (.int .i64 a0_4) := (blk_cell BK135.out 4).trans rfl; have hcz4_5 : w3.cell? ⟨gb135, 5, none⟩ = some (.string a0_5) := (blk_cell BK135.out 5).trans rfl; have hcz4_6 : w3.cell? ⟨gb135, 6, none⟩ = some (.bool a0_6) := (blk_cell BK135.out 6).trans rfl; have hcz4_7 : w3.cell? ⟨gb135, 7, none⟩ = some (.string a0_7) := (blk_cell BK135.out 7).trans rfl; have hcz4_8 : w3.cell? ⟨gb135, 8, none⟩ = some (.string a0_8) := (blk_cell BK135.out 8).trans rfl; have hfz4_0 := blk_frozen BK135.out 0; have hfz4_1 := blk_frozen BK135.out 1; have hfz4_2 := blk_frozen BK135.out 2; have hfz4_3 := blk_frozen BK135.out 3; have hfz4_4 := blk_frozen BK135.out 4; have hfz4_5 := blk_frozen BK135.out 5; have hfz4_6 := blk_frozen BK135.out 6; have hfz4_7 := blk_frozen BK135.out 7; have hfz4_8 := blk_frozen BK135.out 8))
    go_ret
    exact ⟨by first | rfl | (simp [errW_none, errW_some] <;> rfl) | (simp [*, errW_none, errW_some] <;> rfl), by repeat (first | (with_reducible first | exact HB.out | apply below_alloc | apply pw_below_drewN | apply below_drew1 | refine below_set ?_ GE135.out) | exact HB.out)⟩
  · rw [if_neg c2] at H
    have c2b0 : (a0_0.toList == ([104, 116, 116, 112] : List UInt8)) = false := beq_eq_false_iff_ne.mpr c2
    have c2b1 : (a0_0.toList != ([104, 116, 116, 112] : List UInt8)) = true := bne_iff_ne.mpr c2
    obtain rfl := Option.some.inj H
    go_enter Tryd.func10, Tryd.ntmps10
    go_wp2_with (first | ((with_reducible refine gate_dst (N := 1) rfl ?_); refine box_event ?hg (N := 1) ?hd (cs := #[.string a0_0, .string a0_1, .bool a0_2, .int .u32 a0_3, .int .i64 a0_4, .string a0_5, .bool a0_6, .string a0_7, .string a0_8]) (t := 28) ?hr ?_; (case hd => rfl); (case hg => rfl); (case hr => first | (go_simp; done) | (go_simp; rfl)); intro gb135 hg w5 hbox hb; have n0_ := Aside0.mk (below_step (by repeat (first | (with_reducible first | exact HB.out | apply below_alloc | apply pw_below_drewN | apply below_drew1) | exact HB.out)) hb); have n1_ := Aside0.mk (hbox); have n2_ := Aside0.mk ((by rw [hg]; exact (below_size (by repeat (first | (with_reducible first | exact HB.out | apply below_alloc | apply pw_below_drewN | apply below_drew1) | exact HB.out))) : w.heap.size ≤ gb135)); have n3_ := Aside0.mk ((by rw [hg]; exact (below_size (by repeat (first | (with_reducible first | exact HB.out | apply below_alloc | apply pw_below_drewN | apply below_drew1) | exact HB.out))) : w.heap.size ≤ gb135)); clear HB; have HB := n0_; have BK135 := n1_; have GW135 := n2_; have GE135 := n3_; clear n0_ n1_ n2_ n3_; clear hb hbox hg; have hcz6_0 : w5.cell? ⟨gb135, 0, none⟩ = some (.string a0_0) := (blk_cell BK135.out 0).trans rfl; have hcz6_1 : w5.cell? ⟨gb135, 1, none⟩ = some (.string a0_1) := (blk_cell BK135.out 1).trans rfl; have hcz6_2 : w5.cell? ⟨gb135, 2, none⟩ = some (.bool a0_2) := (blk_cell BK135.out 2).trans rfl; have hcz6_3 : w5.cell? ⟨gb135, 3, none⟩ = some (.int .u32 a0_3) := (blk_cell BK135.out 3).trans rfl; have hcz6_4 : w5.cell? ⟨gb135, 4, none⟩ = some (.int .i64 a0_4) := (blk_cell BK135.out 4).trans rfl; have hcz6_5 : w5.cell? ⟨gb135, 5, none⟩ = some (.string a0_5) := (blk_cell BK135.out 5).trans rfl; have hcz6_6 : w5.cell? ⟨gb135, 6, none⟩ = some (.bool a0_6) := (blk_cell BK135.out 6).trans rfl; have hcz6_7 : w5.cell? ⟨gb135, 7, none⟩ = some (.string a0_7) := (blk_cell BK135.out 7).trans rfl; have hcz6_8 : w5.cell? ⟨gb135, 8, none⟩ = some (.string a0_8) := (blk_cell BK135.out 8).trans rfl; have hfz6_0 := blk_frozen BK135.out 0; have hfz6_1 := blk_frozen BK135.out 1; have hfz6_2 := blk_frozen BK135.out 2; have hfz6_3 := blk_frozen BK135.out 3; have hfz6_4 := blk_frozen BK135.out 4; have hfz6_5 := blk_frozen BK135.out 5; have hfz6_6 := blk_frozen BK135.out 6; have hfz6_7 := blk_frozen BK135.out 7; have hfz6_8 := blk_frozen BK135.out 8))
    go_ret
    exact ⟨by first | rfl | (simp [errW_none, errW_some] <;> rfl) | (simp [*, errW_none, errW_some] <;> rfl), by repeat (first | (with_reducible first | exact HB.out | apply below_alloc | apply pw_below_drewN | apply below_drew1 | refine below_set ?_ GE135.out) | exact HB.out)⟩

end Go.Proofs.YtgmacggbhcodjaaDoor.M1

