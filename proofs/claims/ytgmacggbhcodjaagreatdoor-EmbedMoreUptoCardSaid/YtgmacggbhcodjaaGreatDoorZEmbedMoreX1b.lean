/- A part of the claim EmbedMore: X1. -/
import Derived.Test.YtgmacggbhcodjaaGreatDoorZEmbedMoreX1a
import Derived.Test.YtgmacggbhcodjaaGreatDoorZEmbedMoreB9
import Derived.Test.YtgmacggbhcodjaaGreatDoorZEmbedMoreBF
namespace Go.Proofs.YtgmacggbhcodjaaGreatDoor.X1
open Go.RowKit Go.Proofs.YtgmacggbhcodjaaGreatDoor.Q Go.Proofs.YtgmacggbhcodjaaGreatDoorW.PrintWords Go.Proofs.YtgmacggbhcodjaaGreatDoorW.PrintLast Go.Proofs.YtgmacggbhcodjaaGreatDoorW.PrintMore
attribute [local go_sem] max2_int max_two
set_option linter.unusedVariables false
set_option linter.unusedSimpArgs false

mutual
def glacislaw18_EmbedMore.j0 : Nat → Int → Int → List (S31) → Bool → List (S31) → Bool → List (S45) → Int → ByteArray → Int → ByteArray → Bool → Int → ByteArray → ByteArray → Bool → Int → Int → Option (Bool)
  | 0, _, _, _, _, _, _, _, _, _, _, _, _, _, _, _, _, _, _ => none
  | k + 1, x1, x2, x4, x13, x14, x39, x117000, x117001, x117002, x117003, x117004, x118000, x118001, x118002, x118003, x118004, x118005, x118006 => if x39 = true then (some x13) else ((embed_Frame.f x117000 x117001 x117002 x117003 x117004 x1 x118000 x118001 x118002 x118003 x118004 x118005 x118006 x4).bind fun t134 => ((embed_Frame.f x117000 x117001 x117002 x117003 x117004 x1 x118000 x118001 x118002 x118003 x118004 x118005 x118006 x14).bind fun t135 => (glacislaw18_EmbedMore.l0 k x1 x2 x13 x14 t134 t135 false 0 x117000 x117001 x117002 x117003 x117004 x118000 x118001 x118002 x118003 x118004 x118005 x118006)))
def glacislaw18_EmbedMore.l0 : Nat → Int → Int → Bool → List (S31) → Int → Int → Bool → Int → List (S45) → Int → ByteArray → Int → ByteArray → Bool → Int → ByteArray → ByteArray → Bool → Int → Int → Option (Bool)
  | 0, _, _, _, _, _, _, _, _, _, _, _, _, _, _, _, _, _, _, _, _ => none
  | k + 1, x1, x2, x13, x14, x17, x18, x19, x20, x117000, x117001, x117002, x117003, x117004, x118000, x118001, x118002, x118003, x118004, x118005, x118006 => if x20 < (x117000.length : Int) then (if x19 = true then (glacislaw18_EmbedMore.j2 k x1 x2 x13 x14 x17 x18 true x20 x117000 x117001 x117002 x117003 x117004 x118000 x118001 x118002 x118003 x118004 x118005 x118006) else (if 0 ≤ x20 then (glacislaw18_EmbedMore.j2 k x1 x2 x13 x14 x17 x18 ((rd_T45 x117000 x20).f0) x20 x117000 x117001 x117002 x117003 x117004 x118000 x118001 x118002 x118003 x118004 x118005 x118006) else (none))) else (if x19 = true then ((embed_Frame.f x117000 x117001 x117002 x117003 x117004 x2 x118000 x118001 x118002 x118003 x118004 x118005 x118006 x14).bind fun t137 => (if t137 = x18 then ((embed_Frame.f x117000 x117001 x117002 x117003 x117004 x1 x118000 x118001 x118002 x118003 x118004 x118005 x118006 ([] : List (S31))).bind fun t138 => (if x13 = true then (if t138 = 0 then (if x17 = 0 then (if x18 = 3 then (glacislaw18_EmbedMore.j3 k false) else (if x18 = 2 then (glacislaw18_EmbedMore.j3 k x19) else (glacislaw18_EmbedMore.j3 k true))) else (if x18 = 0 then (glacislaw18_EmbedMore.j3 k false) else (if x18 = 3 then (glacislaw18_EmbedMore.j3 k false) else (if x18 = 2 then (glacislaw18_EmbedMore.j3 k x19) else (glacislaw18_EmbedMore.j3 k true))))) else (glacislaw18_EmbedMore.j3 k false)) else (glacislaw18_EmbedMore.j3 k false))) else (some false))) else ((embed_Frame.f x117000 x117001 x117002 x117003 x117004 x1 x118000 x118001 x118002 x118003 x118004 x118005 x118006 ([] : List (S31))).bind fun t139 => (if x13 = true then (if t139 = 0 then (if x17 = 0 then (if x18 = 3 then (if x18 = 2 then (glacislaw18_EmbedMore.j4 k x19) else (glacislaw18_EmbedMore.j4 k true)) else (if x18 = 2 then (glacislaw18_EmbedMore.j4 k x19) else (glacislaw18_EmbedMore.j4 k true))) else (if x18 = 0 then (glacislaw18_EmbedMore.j4 k false) else (if x18 = 3 then (if x18 = 2 then (glacislaw18_EmbedMore.j4 k x19) else (glacislaw18_EmbedMore.j4 k true)) else (if x18 = 2 then (glacislaw18_EmbedMore.j4 k x19) else (glacislaw18_EmbedMore.j4 k true))))) else (glacislaw18_EmbedMore.j4 k false)) else (glacislaw18_EmbedMore.j4 k false))))
def glacislaw18_EmbedMore.j2 : Nat → Int → Int → Bool → List (S31) → Int → Int → Bool → Int → List (S45) → Int → ByteArray → Int → ByteArray → Bool → Int → ByteArray → ByteArray → Bool → Int → Int → Option (Bool)
  | 0, _, _, _, _, _, _, _, _, _, _, _, _, _, _, _, _, _, _, _, _ => none
  | k + 1, x1, x2, x13, x14, x17, x18, x19, x20, x117000, x117001, x117002, x117003, x117004, x118000, x118001, x118002, x118003, x118004, x118005, x118006 => glacislaw18_EmbedMore.l0 k x1 x2 x13 x14 x17 x18 x19 (wrap64 (x20 + 1)) x117000 x117001 x117002 x117003 x117004 x118000 x118001 x118002 x118003 x118004 x118005 x118006
def glacislaw18_EmbedMore.j3 : Nat → Bool → Option (Bool)
  | 0, _ => none
  | k + 1, x12 => some x12
def glacislaw18_EmbedMore.j4 : Nat → Bool → Option (Bool)
  | 0, _ => none
  | k + 1, x12 => some x12
end
def glacislaw18_EmbedMore.f (k : Nat) (l0_0 : List (S45)) (a0_1 : Int) (a0_2 : ByteArray) (a0_3 : Int) (a0_4 : ByteArray) (a1 : Int) (a2 : Int) (a3_0 : Bool) (a3_1 : Int) (a3_2 : ByteArray) (a3_3 : ByteArray) (a3_4 : Bool) (a3_5 : Int) (a3_6 : Int) (l4 : List (S31)) (a5_0 : Bool) (a5_1 : Int) (a5_2 : ByteArray) (a5_3 : ByteArray) (a5_4 : Bool) (a5_5 : Int) (a5_6 : Int) : Option (Bool) := (glacislaw18_awake.f).bind fun t119 => ((some (([] : List (S31)) : List (S31))).bind fun y120 => (if y120.length + l4.length < 2199023255552 then ((some (y120 ++ l4 : List (S31))).bind fun y123 => ((some (([(⟨a5_0, a5_1, a5_2, (⟨a5_3, a5_4, a5_5⟩ : S29), a5_6⟩ : S31)] : List (S31)) : List (S31))).bind fun y126 => (if y123.length + y126.length < 2199023255552 then ((some (y123 ++ y126 : List (S31))).bind fun y129 => ((glacislaw18_few.f k a3_0 a3_1 a3_2 a3_3 a3_4 a3_5 a3_6 y129).bind fun t132 => ((glacislaw15_Little.f k l0_0 a0_1 a0_2 a0_3 a0_4).bind fun t133 => (if t132 = true then (glacislaw18_EmbedMore.j0 k a1 a2 l4 t119 y129 (!t133) l0_0 a0_1 a0_2 a0_3 a0_4 a3_0 a3_1 a3_2 a3_3 a3_4 a3_5 a3_6) else (glacislaw18_EmbedMore.j0 k a1 a2 l4 t119 y129 true l0_0 a0_1 a0_2 a0_3 a0_4 a3_0 a3_1 a3_2 a3_3 a3_4 a3_5 a3_6))))) else (none)))) else (none)))
set_option maxHeartbeats 8000000 in
set_option maxRecDepth 100000 in
theorem glacislaw18_EmbedMore.calls (k : Nat) (A0_0 : Option Addr) (c0_0 : Nat) (l0_0 : List (S45)) (a0_1 : Int) (a0_2 : ByteArray) (a0_3 : Int) (a0_4 : ByteArray) (a1 : Int) (a2 : Int) (a3_0 : Bool) (a3_1 : Int) (a3_2 : ByteArray) (a3_3 : ByteArray) (a3_4 : Bool) (a3_5 : Int) (a3_6 : Int) (A4 : Option Addr) (c4 : Nat) (l4 : List (S31)) (a5_0 : Bool) (a5_1 : Int) (a5_2 : ByteArray) (a5_3 : ByteArray) (a5_4 : Bool) (a5_5 : Int) (a5_6 : Int) (r : Bool) (w : World) (hr0_0 : Kd.C k45 w A0_0 l0_0.length l0_0) (hc0_0 : l0_0.length ≤ c0_0) (hr4 : Kd.C k31 w A4 l4.length l4) (hc4 : l4.length ≤ c4) (hG : Gw w) (h : glacislaw18_EmbedMore.f k l0_0 a0_1 a0_2 a0_3 a0_4 a1 a2 a3_0 a3_1 a3_2 a3_3 a3_4 a3_5 a3_6 l4 a5_0 a5_1 a5_2 a5_3 a5_4 a5_5 a5_6 = some r) :
    Calls Tryz.prog 5 #[.agg #[.slice A0_0 l0_0.length c0_0, .int .i64 a0_1, .string a0_2, .int .i64 a0_3, .string a0_4], .int .i64 a1, .int .i64 a2, .agg #[.bool a3_0, .int .i64 a3_1, .string a3_2, .string a3_3, .bool a3_4, .int .u32 a3_5, .int .i64 a3_6], .slice A4 l4.length c4, .agg #[.bool a5_0, .int .i64 a5_1, .string a5_2, .string a5_3, .bool a5_4, .int .u32 a5_5, .int .i64 a5_6]] w fun e w' => e = .returned (.bool r) ∧ Below w.heap.size w w' := by
  have HG_ := Aside0.mk hG
  clear hG
  have hu26 := Tryz.underlying26
  have hu31 := Tryz.underlying31
  have HR0_0 := Aside0.mk hr0_0
  have HC0_0 := Aside0.mk hc0_0
  clear hr0_0 hc0_0
  have HR4 := Aside0.mk hr4
  have HC4 := Aside0.mk hc4
  clear hr4 hc4
  have HB := Aside0.mk (Below.refl w.heap.size w)
  have H : ((glacislaw18_awake.f).bind fun t119 => ((some (([] : List (S31)) : List (S31))).bind fun y120 => (if y120.length + l4.length < 2199023255552 then ((some (y120 ++ l4 : List (S31))).bind fun y123 => ((some (([(⟨a5_0, a5_1, a5_2, (⟨a5_3, a5_4, a5_5⟩ : S29), a5_6⟩ : S31)] : List (S31)) : List (S31))).bind fun y126 => (if y123.length + y126.length < 2199023255552 then ((some (y123 ++ y126 : List (S31))).bind fun y129 => ((glacislaw18_few.f k a3_0 a3_1 a3_2 a3_3 a3_4 a3_5 a3_6 y129).bind fun t132 => ((glacislaw15_Little.f k l0_0 a0_1 a0_2 a0_3 a0_4).bind fun t133 => (if t132 = true then (glacislaw18_EmbedMore.j0 k a1 a2 l4 t119 y129 (!t133) l0_0 a0_1 a0_2 a0_3 a0_4 a3_0 a3_1 a3_2 a3_3 a3_4 a3_5 a3_6) else (glacislaw18_EmbedMore.j0 k a1 a2 l4 t119 y129 true l0_0 a0_1 a0_2 a0_3 a0_4 a3_0 a3_1 a3_2 a3_3 a3_4 a3_5 a3_6))))) else (none)))) else (none)))) = some r := h
  clear h
  replace H := Option.bind_eq_some_iff.mp H
  obtain ⟨t119, A70, H⟩ := H
  replace H : ((some (([] : List (S31)) : List (S31))).bind fun y120 => (if y120.length + l4.length < 2199023255552 then ((some (y120 ++ l4 : List (S31))).bind fun y123 => ((some (([(⟨a5_0, a5_1, a5_2, (⟨a5_3, a5_4, a5_5⟩ : S29), a5_6⟩ : S31)] : List (S31)) : List (S31))).bind fun y126 => (if y123.length + y126.length < 2199023255552 then ((some (y123 ++ y126 : List (S31))).bind fun y129 => ((glacislaw18_few.f k a3_0 a3_1 a3_2 a3_3 a3_4 a3_5 a3_6 y129).bind fun t132 => ((glacislaw15_Little.f k l0_0 a0_1 a0_2 a0_3 a0_4).bind fun t133 => (if t132 = true then (glacislaw18_EmbedMore.j0 k a1 a2 l4 t119 y129 (!t133) l0_0 a0_1 a0_2 a0_3 a0_4 a3_0 a3_1 a3_2 a3_3 a3_4 a3_5 a3_6) else (glacislaw18_EmbedMore.j0 k a1 a2 l4 t119 y129 true l0_0 a0_1 a0_2 a0_3 a0_4 a3_0 a3_1 a3_2 a3_3 a3_4 a3_5 a3_6))))) else (none)))) else (none))) = some r := H
  have A7 := Aside0.mk A70
  clear A70
  obtain ⟨y120, hy120⟩ : ∃ y_ : List (S31), y_ = (([] : List (S31))) := ⟨_, rfl⟩
  replace H : (if y120.length + l4.length < 2199023255552 then ((some (y120 ++ l4 : List (S31))).bind fun y123 => ((some (([(⟨a5_0, a5_1, a5_2, (⟨a5_3, a5_4, a5_5⟩ : S29), a5_6⟩ : S31)] : List (S31)) : List (S31))).bind fun y126 => (if y123.length + y126.length < 2199023255552 then ((some (y123 ++ y126 : List (S31))).bind fun y129 => ((glacislaw18_few.f k a3_0 a3_1 a3_2 a3_3 a3_4 a3_5 a3_6 y129).bind fun t132 => ((glacislaw15_Little.f k l0_0 a0_1 a0_2 a0_3 a0_4).bind fun t133 => (if t132 = true then (glacislaw18_EmbedMore.j0 k a1 a2 l4 t119 y129 (!t133) l0_0 a0_1 a0_2 a0_3 a0_4 a3_0 a3_1 a3_2 a3_3 a3_4 a3_5 a3_6) else (glacislaw18_EmbedMore.j0 k a1 a2 l4 t119 y129 true l0_0 a0_1 a0_2 a0_3 a0_4 a3_0 a3_1 a3_2 a3_3 a3_4 a3_5 a3_6))))) else (none)))) else (none)) = some r := by first | (rw [hy120]; with_reducible exact H) | (have H2_ := (Option.bind_some _ _).symm.trans H; rw [hy120]; with_reducible exact H2_) | (have H2_ := (Option.bind_some _ _).symm.trans H; with_reducible exact H2_) | with_reducible exact H | (rw [hy120]; exact H) | exact H
  have Ny120 := Aside0.mk hy120
  clear hy120
  by_cases c8 : y120.length + l4.length < 2199023255552
  · rw [if_pos c8] at H
    have LMc8 := Aside0.mk c8
    clear c8
    obtain ⟨y123, hy123⟩ : ∃ y_ : List (S31), y_ = (y120 ++ l4) := ⟨_, rfl⟩
    replace H : ((some (([(⟨a5_0, a5_1, a5_2, (⟨a5_3, a5_4, a5_5⟩ : S29), a5_6⟩ : S31)] : List (S31)) : List (S31))).bind fun y126 => (if y123.length + y126.length < 2199023255552 then ((some (y123 ++ y126 : List (S31))).bind fun y129 => ((glacislaw18_few.f k a3_0 a3_1 a3_2 a3_3 a3_4 a3_5 a3_6 y129).bind fun t132 => ((glacislaw15_Little.f k l0_0 a0_1 a0_2 a0_3 a0_4).bind fun t133 => (if t132 = true then (glacislaw18_EmbedMore.j0 k a1 a2 l4 t119 y129 (!t133) l0_0 a0_1 a0_2 a0_3 a0_4 a3_0 a3_1 a3_2 a3_3 a3_4 a3_5 a3_6) else (glacislaw18_EmbedMore.j0 k a1 a2 l4 t119 y129 true l0_0 a0_1 a0_2 a0_3 a0_4 a3_0 a3_1 a3_2 a3_3 a3_4 a3_5 a3_6))))) else (none))) = some r := by first | (rw [hy123]; with_reducible exact H) | (have H2_ := (Option.bind_some _ _).symm.trans H; rw [hy123]; with_reducible exact H2_) | (have H2_ := (Option.bind_some _ _).symm.trans H; with_reducible exact H2_) | with_reducible exact H | (rw [hy123]; exact H) | exact H
    have Ny123 := Aside0.mk hy123
    clear hy123
    obtain ⟨y126, hy126⟩ : ∃ y_ : List (S31), y_ = (([(⟨a5_0, a5_1, a5_2, (⟨a5_3, a5_4, a5_5⟩ : S29), a5_6⟩ : S31)] : List (S31))) := ⟨_, rfl⟩
    replace H : (if y123.length + y126.length < 2199023255552 then ((some (y123 ++ y126 : List (S31))).bind fun y129 => ((glacislaw18_few.f k a3_0 a3_1 a3_2 a3_3 a3_4 a3_5 a3_6 y129).bind fun t132 => ((glacislaw15_Little.f k l0_0 a0_1 a0_2 a0_3 a0_4).bind fun t133 => (if t132 = true then (glacislaw18_EmbedMore.j0 k a1 a2 l4 t119 y129 (!t133) l0_0 a0_1 a0_2 a0_3 a0_4 a3_0 a3_1 a3_2 a3_3 a3_4 a3_5 a3_6) else (glacislaw18_EmbedMore.j0 k a1 a2 l4 t119 y129 true l0_0 a0_1 a0_2 a0_3 a0_4 a3_0 a3_1 a3_2 a3_3 a3_4 a3_5 a3_6))))) else (none)) = some r := by first | (rw [hy126]; with_reducible exact H) | (have H2_ := (Option.bind_some _ _).symm.trans H; rw [hy126]; with_reducible exact H2_) | (have H2_ := (Option.bind_some _ _).symm.trans H; with_reducible exact H2_) | with_reducible exact H | (rw [hy126]; exact H) | exact H
    have Ny126 := Aside0.mk hy126
    clear hy126
    by_cases c9 : y123.length + y126.length < 2199023255552
    · rw [if_pos c9] at H
      have LMc9 := Aside0.mk c9
      clear c9
      obtain ⟨y129, hy129⟩ : ∃ y_ : List (S31), y_ = (y123 ++ y126) := ⟨_, rfl⟩
      replace H : ((glacislaw18_few.f k a3_0 a3_1 a3_2 a3_3 a3_4 a3_5 a3_6 y129).bind fun t132 => ((glacislaw15_Little.f k l0_0 a0_1 a0_2 a0_3 a0_4).bind fun t133 => (if t132 = true then (glacislaw18_EmbedMore.j0 k a1 a2 l4 t119 y129 (!t133) l0_0 a0_1 a0_2 a0_3 a0_4 a3_0 a3_1 a3_2 a3_3 a3_4 a3_5 a3_6) else (glacislaw18_EmbedMore.j0 k a1 a2 l4 t119 y129 true l0_0 a0_1 a0_2 a0_3 a0_4 a3_0 a3_1 a3_2 a3_3 a3_4 a3_5 a3_6)))) = some r := by first | (rw [hy129]; with_reducible exact H) | (have H2_ := (Option.bind_some _ _).symm.trans H; rw [hy129]; with_reducible exact H2_) | (have H2_ := (Option.bind_some _ _).symm.trans H; with_reducible exact H2_) | with_reducible exact H | (rw [hy129]; exact H) | exact H
      have Ny129 := Aside0.mk hy129
      clear hy129
      replace H := Option.bind_eq_some_iff.mp H
      obtain ⟨t132, A100, H⟩ := H
      replace H : ((glacislaw15_Little.f k l0_0 a0_1 a0_2 a0_3 a0_4).bind fun t133 => (if t132 = true then (glacislaw18_EmbedMore.j0 k a1 a2 l4 t119 y129 (!t133) l0_0 a0_1 a0_2 a0_3 a0_4 a3_0 a3_1 a3_2 a3_3 a3_4 a3_5 a3_6) else (glacislaw18_EmbedMore.j0 k a1 a2 l4 t119 y129 true l0_0 a0_1 a0_2 a0_3 a0_4 a3_0 a3_1 a3_2 a3_3 a3_4 a3_5 a3_6))) = some r := H
      have A10 := Aside0.mk A100
      clear A100
      replace H := Option.bind_eq_some_iff.mp H
      obtain ⟨t133, A110, H⟩ := H
      replace H : (if t132 = true then (glacislaw18_EmbedMore.j0 k a1 a2 l4 t119 y129 (!t133) l0_0 a0_1 a0_2 a0_3 a0_4 a3_0 a3_1 a3_2 a3_3 a3_4 a3_5 a3_6) else (glacislaw18_EmbedMore.j0 k a1 a2 l4 t119 y129 true l0_0 a0_1 a0_2 a0_3 a0_4 a3_0 a3_1 a3_2 a3_3 a3_4 a3_5 a3_6)) = some r := H
      have A11 := Aside0.mk A110
      clear A110
      have HC12 := Aside0.mk H
      clear H
      go_enter Tryz.func5, Tryz.ntmps5
      try go_wp2_with (first | ((with_reducible refine gate_dst (N := 6) rfl ?_); refine box_event ?hg (N := 6) ?hd (cs := #[.slice A0_0 l0_0.length c0_0, .int .i64 a0_1, .string a0_2, .int .i64 a0_3, .string a0_4]) (t := 26) ?hr ?_; (case hd => rfl); (case hg => rfl); (case hr => first | (go_simp; done) | (go_simp; rfl)); intro gb116 hg w13 hbox hb; have n0_ := Aside0.mk (below_step (by repeat (first | (with_reducible first | exact HB.out | apply below_alloc | apply pw_below_drewN | apply below_drew1) | exact HB.out)) hb); have n1_ := Aside0.mk (hbox); have n2_ := Aside0.mk ((by rw [hg]; exact (below_size (by repeat (first | (with_reducible first | exact HB.out | apply below_alloc | apply pw_below_drewN | apply below_drew1) | exact HB.out))) : w.heap.size ≤ gb116)); have n3_ := Aside0.mk ((by rw [hg]; exact (below_size (by repeat (first | (with_reducible first | exact HB.out | apply below_alloc | apply pw_below_drewN | apply below_drew1) | exact HB.out))) : w.heap.size ≤ gb116)); clear HB; have HB := n0_; have BK116 := n1_; have GW116 := n2_; have GE116 := n3_; clear n0_ n1_ n2_ n3_; clear hb hbox hg) | ((with_reducible refine gate_dst (N := 9) rfl ?_); refine box_event ?hg (N := 9) ?hd (cs := #[.bool a3_0, .int .i64 a3_1, .string a3_2, .string a3_3, .bool a3_4, .int .u32 a3_5, .int .i64 a3_6]) (t := 31) ?hr ?_; (case hd => rfl); (case hg => rfl); (case hr => first | (go_simp; done) | (go_simp; rfl)); intro gb117 hg w14 hbox hb; have n0_ := Aside0.mk (blk_below (g := gb116) (o := .cells #[.slice A0_0 l0_0.length c0_0, .int .i64 a0_1, .string a0_2, .int .i64 a0_3, .string a0_4] 26 (0, 0)) (by (with_reducible repeat (first | refine blk_drewN ?_ _ | refine blk_drew ?_ | refine blk_alloc ?_ _)); exact BK116.out) hb); have n1_ := Aside0.mk (below_step (by repeat (first | (with_reducible first | exact HB.out | apply below_alloc | apply pw_below_drewN | apply below_drew1 | refine below_set ?_ GE116.out) | exact HB.out)) hb); have n2_ := Aside0.mk (hbox); have n3_ := Aside0.mk ((by rw [hg]; exact (below_size (by repeat (first | (with_reducible first | exact HB.out | apply below_alloc | apply pw_below_drewN | apply below_drew1 | refine below_set ?_ GE116.out) | exact HB.out))) : w.heap.size ≤ gb117)); have n4_ := Aside0.mk ((by rw [hg]; exact (below_size (by repeat (first | (with_reducible first | exact HB.out | apply below_alloc | apply pw_below_drewN | apply below_drew1 | refine below_set ?_ GE116.out) | exact HB.out))) : w.heap.size ≤ gb117)); have n5_ := Aside0.mk ((by rw [hg]; exact Nat.ne_of_lt (blk_lt (g := gb116) (o := .cells #[.slice A0_0 l0_0.length c0_0, .int .i64 a0_1, .string a0_2, .int .i64 a0_3, .string a0_4] 26 (0, 0)) (by (with_reducible repeat (first | refine blk_drewN ?_ _ | refine blk_drew ?_ | refine blk_alloc ?_ _)); exact BK116.out)) : gb116 ≠ gb117)); have n6_ := Aside0.mk ((by rw [hg]; exact Nat.ne_of_gt (blk_lt (g := gb116) (o := .cells #[.slice A0_0 l0_0.length c0_0, .int .i64 a0_1, .string a0_2, .int .i64 a0_3, .string a0_4] 26 (0, 0)) (by (with_reducible repeat (first | refine blk_drewN ?_ _ | refine blk_drew ?_ | refine blk_alloc ?_ _)); exact BK116.out)) : gb117 ≠ gb116)); clear BK116; clear HB; have BK116 := n0_; have HB := n1_; have BK117 := n2_; have GW117 := n3_; have GE117 := n4_; have NB116_117 := n5_; have NB117_116 := n6_; clear n0_ n1_ n2_ n3_ n4_ n5_ n6_; clear hb hbox hg) | ((with_reducible refine gate_dst (N := 11) rfl ?_); refine box_event ?hg (N := 11) ?hd (cs := #[.bool a5_0, .int .i64 a5_1, .string a5_2, .string a5_3, .bool a5_4, .int .u32 a5_5, .int .i64 a5_6]) (t := 31) ?hr ?_; (case hd => rfl); (case hg => rfl); (case hr => first | (go_simp; done) | (go_simp; rfl)); intro gb118 hg w15 hbox hb; have n0_ := Aside0.mk (blk_below (g := gb116) (o := .cells #[.slice A0_0 l0_0.length c0_0, .int .i64 a0_1, .string a0_2, .int .i64 a0_3, .string a0_4] 26 (0, 0)) (by (with_reducible repeat (first | refine blk_drewN ?_ _ | refine blk_drew ?_ | refine blk_alloc ?_ _)); exact BK116.out) hb); have n1_ := Aside0.mk (blk_below (g := gb117) (o := .cells #[.bool a3_0, .int .i64 a3_1, .string a3_2, .string a3_3, .bool a3_4, .int .u32 a3_5, .int .i64 a3_6] 31 (0, 0)) (by (with_reducible repeat (first | refine blk_drewN ?_ _ | refine blk_drew ?_ | refine blk_alloc ?_ _)); exact BK117.out) hb); have n2_ := Aside0.mk (below_step (by repeat (first | (with_reducible first | exact HB.out | apply below_alloc | apply pw_below_drewN | apply below_drew1 | refine below_set ?_ GE116.out | refine below_set ?_ GE117.out) | exact HB.out)) hb); have n3_ := Aside0.mk (hbox); have n4_ := Aside0.mk ((by rw [hg]; exact (below_size (by repeat (first | (with_reducible first | exact HB.out | apply below_alloc | apply pw_below_drewN | apply below_drew1 | refine below_set ?_ GE116.out | refine below_set ?_ GE117.out) | exact HB.out))) : w.heap.size ≤ gb118)); have n5_ := Aside0.mk ((by rw [hg]; exact (below_size (by repeat (first | (with_reducible first | exact HB.out | apply below_alloc | apply pw_below_drewN | apply below_drew1 | refine below_set ?_ GE116.out | refine below_set ?_ GE117.out) | exact HB.out))) : w.heap.size ≤ gb118)); have n6_ := Aside0.mk ((by rw [hg]; exact Nat.ne_of_lt (blk_lt (g := gb116) (o := .cells #[.slice A0_0 l0_0.length c0_0, .int .i64 a0_1, .string a0_2, .int .i64 a0_3, .string a0_4] 26 (0, 0)) (by (with_reducible repeat (first | refine blk_drewN ?_ _ | refine blk_drew ?_ | refine blk_alloc ?_ _)); exact BK116.out)) : gb116 ≠ gb118)); have n7_ := Aside0.mk ((by rw [hg]; exact Nat.ne_of_gt (blk_lt (g := gb116) (o := .cells #[.slice A0_0 l0_0.length c0_0, .int .i64 a0_1, .string a0_2, .int .i64 a0_3, .string a0_4] 26 (0, 0)) (by (with_reducible repeat (first | refine blk_drewN ?_ _ | refine blk_drew ?_ | refine blk_alloc ?_ _)); exact BK116.out)) : gb118 ≠ gb116)); have n8_ := Aside0.mk ((by rw [hg]; exact Nat.ne_of_lt (blk_lt (g := gb117) (o := .cells #[.bool a3_0, .int .i64 a3_1, .string a3_2, .string a3_3, .bool a3_4, .int .u32 a3_5, .int .i64 a3_6] 31 (0, 0)) (by (with_reducible repeat (first | refine blk_drewN ?_ _ | refine blk_drew ?_ | refine blk_alloc ?_ _)); exact BK117.out)) : gb117 ≠ gb118)); have n9_ := Aside0.mk ((by rw [hg]; exact Nat.ne_of_gt (blk_lt (g := gb117) (o := .cells #[.bool a3_0, .int .i64 a3_1, .string a3_2, .string a3_3, .bool a3_4, .int .u32 a3_5, .int .i64 a3_6] 31 (0, 0)) (by (with_reducible repeat (first | refine blk_drewN ?_ _ | refine blk_drew ?_ | refine blk_alloc ?_ _)); exact BK117.out)) : gb118 ≠ gb117)); clear BK116; clear BK117; clear HB; have BK116 := n0_; have BK117 := n1_; have HB := n2_; have BK118 := n3_; have GW118 := n4_; have GE118 := n5_; have NB116_118 := n6_; have NB118_116 := n7_; have NB117_118 := n8_; have NB118_117 := n9_; clear n0_ n1_ n2_ n3_ n4_ n5_ n6_ n7_ n8_ n9_; clear hb hbox hg) | ((with_reducible refine gate_callee (f := 10) rfl ?_); refine goesL_ (some 22) rfl rfl Tryz.func10 (by kernel_rfl) rfl #[] rfl (by (try simp only [List.map_toArray, List.map_cons, List.map_nil]); first | done | rfl | (simp only [List.length_drop, List.length_take]; rfl)) ?_; (with_reducible refine (glacislaw18_awake.calls  t119 _ (Gw.to HG_.out (by repeat (first | (with_reducible first | exact HB.out | apply below_alloc | apply pw_below_drewN | apply below_drew1 | refine below_set ?_ GE116.out | refine below_set ?_ GE117.out | refine below_set ?_ GE118.out) | exact HB.out))) A7.out).mono ?_); rintro e w16 ⟨rfl, hb⟩; refine ⟨_, rfl, ?_⟩; have n0_ := Aside0.mk (blk_below (g := gb116) (o := .cells #[.slice A0_0 l0_0.length c0_0, .int .i64 a0_1, .string a0_2, .int .i64 a0_3, .string a0_4] 26 (0, 0)) (by (with_reducible repeat (first | refine blk_drewN ?_ _ | refine blk_drew ?_ | refine blk_alloc ?_ _)); exact BK116.out) hb); have n1_ := Aside0.mk (blk_below (g := gb117) (o := .cells #[.bool a3_0, .int .i64 a3_1, .string a3_2, .string a3_3, .bool a3_4, .int .u32 a3_5, .int .i64 a3_6] 31 (0, 0)) (by (with_reducible repeat (first | refine blk_drewN ?_ _ | refine blk_drew ?_ | refine blk_alloc ?_ _)); exact BK117.out) hb); have n2_ := Aside0.mk (blk_below (g := gb118) (o := .cells #[.bool a5_0, .int .i64 a5_1, .string a5_2, .string a5_3, .bool a5_4, .int .u32 a5_5, .int .i64 a5_6] 31 (0, 0)) (by (with_reducible repeat (first | refine blk_drewN ?_ _ | refine blk_drew ?_ | refine blk_alloc ?_ _)); exact BK118.out) hb); have n3_ := Aside0.mk (below_step (by repeat (first | (with_reducible first | exact HB.out | apply below_alloc | apply pw_below_drewN | apply below_drew1 | refine below_set ?_ GE116.out | refine below_set ?_ GE117.out | refine below_set ?_ GE118.out) | exact HB.out)) hb); clear BK116; clear BK117; clear BK118; clear HB; have BK116 := n0_; have BK117 := n1_; have BK118 := n2_; have HB := n3_; clear n0_ n1_ n2_ n3_; (try clear hb); (try clear hb2); (try clear hk); (try clear hi)))
      have n0_ := Aside0.mk (blk_drew BK116.out)
      have n1_ := Aside0.mk (blk_drew BK117.out)
      have n2_ := Aside0.mk (blk_drew BK118.out)
      have n3_ := Aside0.mk (below_drew1 HB.out)
      clear BK116
      clear BK117
      clear BK118
      clear HB
      have BK116 := n0_
      have BK117 := n1_
      have BK118 := n2_
      have HB := n3_
      clear n0_ n1_ n2_ n3_
      refine start_ (n := 7) (S := fun w' => w'.cell? ⟨gb118, 0, none⟩ = some (.bool a5_0) ∧ w'.cell? ⟨gb118, 1, none⟩ = some (.int .i64 a5_1) ∧ w'.cell? ⟨gb118, 2, none⟩ = some (.string a5_2) ∧ w'.cell? ⟨gb118, 3, none⟩ = some (.string a5_3) ∧ w'.cell? ⟨gb118, 4, none⟩ = some (.bool a5_4) ∧ w'.cell? ⟨gb118, 5, none⟩ = some (.int .u32 a5_5) ∧ w'.cell? ⟨gb118, 6, none⟩ = some (.int .i64 a5_6)) (ds := []) #[false, false, false, false, false, false, false] (by kernel_rfl) rfl rfl ⟨(blk_cell BK118.out 0).trans rfl, (blk_cell BK118.out 1).trans rfl, (blk_cell BK118.out 2).trans rfl, (blk_cell BK118.out 3).trans rfl, (blk_cell BK118.out 4).trans rfl, (blk_cell BK118.out 5).trans rfl, (blk_cell BK118.out 6).trans rfl⟩ (fun hHeld => ?_)
      generalize w16.drew = w17 at BK116 BK117 BK118 HB hHeld ⊢
      refine pure_ (i := 1) (N := some 24) (v := ?_) (a' := ?_) #[false, true, false, false, false, false, false] rfl rfl (by kernel_rfl) (fun _ _ _ h => h) (Or.inl ⟨by rfl, ?_⟩) ?_ ?_
      rotate_left
      · intro w'
        go_simp
        with_reducible rfl
      rotate_left
      · simp only [Act.put, List.setIfInBounds_toArray, List.set_cons_zero, List.set_cons_succ, i64_w, i32_w]
        rfl
      refine take_ (i := 3) (N := some 26) (v := ?_) (a' := ?_) #[false, true, false, true, false, false, false] rfl rfl (by kernel_rfl) (fun _ _ _ h => h) (Or.inl ⟨by rfl, ?_⟩) hHeld ?_ ?_
      rotate_left
      · rintro w' ⟨s0, s1, s2, s3, s4, s5, s6⟩
        go_simp
        with_reducible rfl
      rotate_left
      · simp only [Act.put, List.setIfInBounds_toArray, List.set_cons_zero, List.set_cons_succ, i64_w, i32_w]
        rfl
      refine join_ (σ := Value × Value × Value) 2 #[true, true, true, true, true, false, false] (fun s_ => [(23, s_.1), (25, s_.2.1), (27, s_.2.2)]) (fun s_ w' => (w'.cell? ⟨gb118, 0, none⟩ = some (.bool a5_0) ∧ w'.cell? ⟨gb118, 1, none⟩ = some (.int .i64 a5_1) ∧ w'.cell? ⟨gb118, 2, none⟩ = some (.string a5_2) ∧ w'.cell? ⟨gb118, 3, none⟩ = some (.string a5_3) ∧ w'.cell? ⟨gb118, 4, none⟩ = some (.bool a5_4) ∧ w'.cell? ⟨gb118, 5, none⟩ = some (.int .u32 a5_5) ∧ w'.cell? ⟨gb118, 6, none⟩ = some (.int .i64 a5_6)) ∧ (Kd.R k31 31 w' w.heap.size (fun k_ => some k_ ≠ (s_.2.2 : Value).ownBlock ∧ k_ ≠ gb117 ∧ k_ ≠ gb118) s_.2.1 y123) ∧ (Kd.R k31 31 w' w.heap.size (fun k_ => some k_ ≠ (s_.2.1 : Value).ownBlock ∧ k_ ≠ gb117 ∧ k_ ≠ gb118) s_.2.2 y126) ∧ (w'.heap[gb116]? = some (.cells #[.slice A0_0 l0_0.length c0_0, .int .i64 a0_1, .string a0_2, .int .i64 a0_3, .string a0_4] 26 (0, 0))) ∧ (w'.heap[gb117]? = some (.cells #[.bool a3_0, .int .i64 a3_1, .string a3_2, .string a3_3, .bool a3_4, .int .u32 a3_5, .int .i64 a3_6] 31 (0, 0))) ∧ (w'.heap[gb118]? = some (.cells #[.bool a5_0, .int .i64 a5_1, .string a5_2, .string a5_3, .bool a5_4, .int .u32 a5_5, .int .i64 a5_6] 31 (0, 0))) ∧ (Below w.heap.size w w')) ?_ ?_
      rotate_left
      · intro hCont
        refine two_ (i := 0) (j := 4) (Ni := some 23) (Nj := some 27) #[true, true, false, true, false, false, false] #[false, true, false, true, true, false, false] rfl rfl rfl rfl (by kernel_rfl) (by decide) (by decide) (fun K hK => ?_) (fun K hK => ?_)
        · skip
          refine Kd.R_lit_step k31 _ 31 ?hg (N := 23) ?hd (xs := ([] : List (S31))) (inner := []) (ok := fun _ => True) (okp := fun _ => True) ?hr ?hp (fun _ hk => hk) trivial (Below.refl _ _) (Nat.le_refl _) (by simp) ?_; (case hd => rfl); (case hg => rfl); (case hr => first | (go_simp; done) | (go_simp; rfl)); (case hp => exact (Reps.none _ _))
          intro v121 w18 ho19 hb hg_ hnew_
          clear hg_ hnew_
          (first | rw [← Ny120.out] at ho19 | (simp only [Int.reduceToNat] at ho19; rw [← Ny120.out] at ho19))
          have n0_ := Aside0.mk (Kd.R_lower (Kd.R_newB (Kd.R_newB ho19 (g := gb117) (o := .cells #[.bool a3_0, .int .i64 a3_1, .string a3_2, .string a3_3, .bool a3_4, .int .u32 a3_5, .int .i64 a3_6] 31 (0, 0)) (by (with_reducible repeat (first | refine blk_drewN ?_ _ | refine blk_drew ?_ | refine blk_alloc ?_ _)); exact BK117.out)) (g := gb118) (o := .cells #[.bool a5_0, .int .i64 a5_1, .string a5_2, .string a5_3, .bool a5_4, .int .u32 a5_5, .int .i64 a5_6] 31 (0, 0)) (by (with_reducible repeat (first | refine blk_drewN ?_ _ | refine blk_drew ?_ | refine blk_alloc ?_ _)); exact BK118.out)) (below_size (by repeat (first | (with_reducible first | exact HB.out | apply below_alloc | apply pw_below_drewN | apply below_drew1 | refine below_set ?_ GE116.out | refine below_set ?_ GE117.out | refine below_set ?_ GE118.out) | exact HB.out))))
          have n1_ := Aside0.mk (blk_below (g := gb116) (o := .cells #[.slice A0_0 l0_0.length c0_0, .int .i64 a0_1, .string a0_2, .int .i64 a0_3, .string a0_4] 26 (0, 0)) (by (with_reducible repeat (first | refine blk_drewN ?_ _ | refine blk_drew ?_ | refine blk_alloc ?_ _)); exact BK116.out) hb)
          have n2_ := Aside0.mk (blk_below (g := gb117) (o := .cells #[.bool a3_0, .int .i64 a3_1, .string a3_2, .string a3_3, .bool a3_4, .int .u32 a3_5, .int .i64 a3_6] 31 (0, 0)) (by (with_reducible repeat (first | refine blk_drewN ?_ _ | refine blk_drew ?_ | refine blk_alloc ?_ _)); exact BK117.out) hb)
          have n3_ := Aside0.mk (blk_below (g := gb118) (o := .cells #[.bool a5_0, .int .i64 a5_1, .string a5_2, .string a5_3, .bool a5_4, .int .u32 a5_5, .int .i64 a5_6] 31 (0, 0)) (by (with_reducible repeat (first | refine blk_drewN ?_ _ | refine blk_drew ?_ | refine blk_alloc ?_ _)); exact BK118.out) hb)
          have n4_ := Aside0.mk (below_step (by repeat (first | (with_reducible first | exact HB.out | apply below_alloc | apply pw_below_drewN | apply below_drew1 | refine below_set ?_ GE116.out | refine below_set ?_ GE117.out | refine below_set ?_ GE118.out) | exact HB.out)) hb)
          clear BK116
          clear BK117
          clear BK118
          clear HB
          have HO122 := n0_
          have BK116 := n1_
          have BK117 := n2_
          have BK118 := n3_
          have HB := n4_
          clear n0_ n1_ n2_ n3_ n4_
          clear hb ho19
          refine hK.out _ _ ⟨(blk_cell BK118.out 0).trans rfl, (blk_cell BK118.out 1).trans rfl, (blk_cell BK118.out 2).trans rfl, (blk_cell BK118.out 3).trans rfl, (blk_cell BK118.out 4).trans rfl, (blk_cell BK118.out 5).trans rfl, (blk_cell BK118.out 6).trans rfl⟩ (fun hHeld => ?_)
          clear hK K
          refine norm_ (a' := ?_) ?_ ?_
          rotate_left
          · show Act.put _ (some 23) _ = _
            simp only [Act.put, List.setIfInBounds_toArray, List.set_cons_zero, List.set_cons_succ, i64_w, i32_w]
            rfl
          refine two_ (i := 2) (j := 4) (Ni := some 25) (Nj := some 27) #[true, true, true, true, false, false, false] #[true, true, false, true, true, false, false] rfl rfl rfl rfl (by kernel_rfl) (by decide) (by decide) (fun K hK => ?_) (fun K hK => ?_)
          · skip
            refine Kd.R_append_rows_step k31 (w0 := w) w.heap.size (by rfl) (.tmp 23) (.tmp 24) 32 31 (.agg #[(.bool false), (.int .i64 0), (.string ⟨#[]⟩), (.string ⟨#[]⟩), (.bool false), (.int .u32 0), (.int .i64 0)]) 64 rfl Tryz.underlying32 info31 rfl (by decide) (by omega) v121 y120 l4 _ _ _ (fun k_ => k_ ≠ gb117 ∧ k_ ≠ gb118) (fun _ => False) rfl rfl ?aO ?aR (fun _ _ h => h) (fun _ h => h.elim) ?aF ?aB ?aS ?aL ?_
            (case aR => repeat (first | exact (Kd.C_below HR4.out HB.out) | (with_reducible refine Kd.C_alloc ?_ _) | (with_reducible refine Kd.C_drewN ?_ _) | (with_reducible refine Kd.C_drew ?_)))
            (case aB => exact (by repeat (first | (with_reducible first | exact HB.out | apply below_alloc | apply pw_below_drewN | apply below_drew1 | refine below_set ?_ GE116.out | refine below_set ?_ GE117.out | refine below_set ?_ GE118.out) | exact HB.out)))
            (case aF => exact (fun k_ hk => ⟨Kd.freshB (g := gb117) (o := .cells #[.bool a3_0, .int .i64 a3_1, .string a3_2, .string a3_3, .bool a3_4, .int .u32 a3_5, .int .i64 a3_6] 31 (0, 0)) (by (with_reducible repeat (first | refine blk_drewN ?_ _ | refine blk_drew ?_ | refine blk_alloc ?_ _)); exact BK117.out) k_ hk, Kd.freshB (g := gb118) (o := .cells #[.bool a5_0, .int .i64 a5_1, .string a5_2, .string a5_3, .bool a5_4, .int .u32 a5_5, .int .i64 a5_6] 31 (0, 0)) (by (with_reducible repeat (first | refine blk_drewN ?_ _ | refine blk_drew ?_ | refine blk_alloc ?_ _)); exact BK118.out) k_ hk⟩))
            (case aO => exact (by (with_reducible repeat (first | apply Kd.R_alloc | apply Kd.R_drewN | apply Kd.R_drew)); exact Kd.R_mono HO122.out (fun _ hk => ⟨hk.1.2, hk.2⟩)))
            (case aS => exact (below_size (by repeat (first | (with_reducible first | exact HB.out | apply below_alloc | apply pw_below_drewN | apply below_drew1 | refine below_set ?_ GE116.out | refine below_set ?_ GE117.out | refine below_set ?_ GE118.out) | exact HB.out))))
            (case aL => have := LMc8.out; omega)
            intro v124 w20 ho hb hg hat
            rw [← Ny123.out] at ho
            have n0_ := Aside0.mk (blk_grown (g := gb116) (o := .cells #[.slice A0_0 l0_0.length c0_0, .int .i64 a0_1, .string a0_2, .int .i64 a0_3, .string a0_4] 26 (0, 0)) (by (with_reducible repeat (first | refine blk_drewN ?_ _ | refine blk_drew ?_ | refine blk_alloc ?_ _)); exact BK116.out) hg (Kd.R_ne HO122.out BK116.out (by decide)))
            have n1_ := Aside0.mk (blk_grown (g := gb117) (o := .cells #[.bool a3_0, .int .i64 a3_1, .string a3_2, .string a3_3, .bool a3_4, .int .u32 a3_5, .int .i64 a3_6] 31 (0, 0)) (by (with_reducible repeat (first | refine blk_drewN ?_ _ | refine blk_drew ?_ | refine blk_alloc ?_ _)); exact BK117.out) hg (Kd.R_away HO122.out (fun _ hk => hk.1.2)))
            have n2_ := Aside0.mk (blk_grown (g := gb118) (o := .cells #[.bool a5_0, .int .i64 a5_1, .string a5_2, .string a5_3, .bool a5_4, .int .u32 a5_5, .int .i64 a5_6] 31 (0, 0)) (by (with_reducible repeat (first | refine blk_drewN ?_ _ | refine blk_drew ?_ | refine blk_alloc ?_ _)); exact BK118.out) hg (Kd.R_away HO122.out (fun _ hk => hk.2)))
            have n3_ := Aside0.mk (hb)
            have n4_ := Aside0.mk (ho)
            clear BK116
            clear BK117
            clear BK118
            clear HB
            clear HO122
            have BK116 := n0_
            have BK117 := n1_
            have BK118 := n2_
            have HB := n3_
            have HO125 := n4_
            clear n0_ n1_ n2_ n3_ n4_
            clear ho hb hg hat
            refine hK.out _ _ ⟨(blk_cell BK118.out 0).trans rfl, (blk_cell BK118.out 1).trans rfl, (blk_cell BK118.out 2).trans rfl, (blk_cell BK118.out 3).trans rfl, (blk_cell BK118.out 4).trans rfl, (blk_cell BK118.out 5).trans rfl, (blk_cell BK118.out 6).trans rfl⟩ (fun hHeld => ?_)
            clear hK K
            refine norm_ (a' := ?_) ?_ ?_
            rotate_left
            · show Act.put _ (some 25) _ = _
              simp only [Act.put, List.setIfInBounds_toArray, List.set_cons_zero, List.set_cons_succ, i64_w, i32_w]
              rfl
            refine one_ (i := 4) (N := some 27) #[true, true, true, true, true, false, false] rfl rfl (by kernel_rfl) (by decide) (fun K hK => ?_)
            refine Kd.R_lit_step k31 _ 31 ?hg (N := 27) ?hd (xs := ([(⟨a5_0, a5_1, a5_2, (⟨a5_3, a5_4, a5_5⟩ : S29), a5_6⟩ : S31)] : List (S31))) (inner := [.bool a5_0, .int .i64 a5_1, .string a5_2, .string a5_3, .bool a5_4, .int .u32 a5_5, .int .i64 a5_6]) (ok := fun _ => True) (okp := fun _ => True) ?hr ?hp (fun _ hk => hk) trivial (Below.refl _ _) (Nat.le_refl _) (by simp) ?_; (case hd => rfl); (case hg => rfl); (case hr => first | (go_simp; done) | (go_simp; rfl)); (case hp => exact (Reps.c7 (show Kd.M k31 _ _ _ (⟨a5_0, a5_1, a5_2, (⟨a5_3, a5_4, a5_5⟩ : S29), a5_6⟩ : S31) [.bool a5_0, .int .i64 a5_1, .string a5_2, .string a5_3, .bool a5_4, .int .u32 a5_5, .int .i64 a5_6] from (k31_mkM _ _ _ (⟨a5_0, a5_1, a5_2, (⟨a5_3, a5_4, a5_5⟩ : S29), a5_6⟩ : S31) )) (Reps.none _ _)))
            intro v127 w21 ho22 hb hg_ hnew_
            clear hg_ hnew_
            (first | rw [← Ny126.out] at ho22 | (simp only [Int.reduceToNat] at ho22; rw [← Ny126.out] at ho22))
            have n0_ := Aside0.mk (Kd.R_elder' (by (with_reducible repeat (first | apply Kd.R_alloc | apply Kd.R_drewN | apply Kd.R_drew)); exact HO125.out) (Kd.R_base ho22) hb)
            have n1_ := Aside0.mk (Kd.R_lower (Kd.R_newB (Kd.R_newB (Kd.R_new' ho22 (Kd.R_lt (by (with_reducible repeat (first | apply Kd.R_alloc | apply Kd.R_drewN | apply Kd.R_drew)); exact HO125.out))) (g := gb117) (o := .cells #[.bool a3_0, .int .i64 a3_1, .string a3_2, .string a3_3, .bool a3_4, .int .u32 a3_5, .int .i64 a3_6] 31 (0, 0)) (by (with_reducible repeat (first | refine blk_drewN ?_ _ | refine blk_drew ?_ | refine blk_alloc ?_ _)); exact BK117.out)) (g := gb118) (o := .cells #[.bool a5_0, .int .i64 a5_1, .string a5_2, .string a5_3, .bool a5_4, .int .u32 a5_5, .int .i64 a5_6] 31 (0, 0)) (by (with_reducible repeat (first | refine blk_drewN ?_ _ | refine blk_drew ?_ | refine blk_alloc ?_ _)); exact BK118.out)) (below_size (by repeat (first | (with_reducible first | exact HB.out | apply below_alloc | apply pw_below_drewN | apply below_drew1 | refine below_set ?_ GE116.out | refine below_set ?_ GE117.out | refine below_set ?_ GE118.out) | exact HB.out))))
            have n2_ := Aside0.mk (blk_below (g := gb116) (o := .cells #[.slice A0_0 l0_0.length c0_0, .int .i64 a0_1, .string a0_2, .int .i64 a0_3, .string a0_4] 26 (0, 0)) (by (with_reducible repeat (first | refine blk_drewN ?_ _ | refine blk_drew ?_ | refine blk_alloc ?_ _)); exact BK116.out) hb)
            have n3_ := Aside0.mk (blk_below (g := gb117) (o := .cells #[.bool a3_0, .int .i64 a3_1, .string a3_2, .string a3_3, .bool a3_4, .int .u32 a3_5, .int .i64 a3_6] 31 (0, 0)) (by (with_reducible repeat (first | refine blk_drewN ?_ _ | refine blk_drew ?_ | refine blk_alloc ?_ _)); exact BK117.out) hb)
            have n4_ := Aside0.mk (blk_below (g := gb118) (o := .cells #[.bool a5_0, .int .i64 a5_1, .string a5_2, .string a5_3, .bool a5_4, .int .u32 a5_5, .int .i64 a5_6] 31 (0, 0)) (by (with_reducible repeat (first | refine blk_drewN ?_ _ | refine blk_drew ?_ | refine blk_alloc ?_ _)); exact BK118.out) hb)
            have n5_ := Aside0.mk (below_step (by repeat (first | (with_reducible first | exact HB.out | apply below_alloc | apply pw_below_drewN | apply below_drew1 | refine below_set ?_ GE116.out | refine below_set ?_ GE117.out | refine below_set ?_ GE118.out) | exact HB.out)) hb)
            clear HO125
            clear BK116
            clear BK117
            clear BK118
            clear HB
            have HO125 := n0_
            have HO128 := n1_
            have BK116 := n2_
            have BK117 := n3_
            have BK118 := n4_
            have HB := n5_
            clear n0_ n1_ n2_ n3_ n4_ n5_
            clear hb ho22
            refine hK.out _ _ ⟨(blk_cell BK118.out 0).trans rfl, (blk_cell BK118.out 1).trans rfl, (blk_cell BK118.out 2).trans rfl, (blk_cell BK118.out 3).trans rfl, (blk_cell BK118.out 4).trans rfl, (blk_cell BK118.out 5).trans rfl, (blk_cell BK118.out 6).trans rfl⟩ (fun hHeld => ?_)
            clear hK K
            refine norm_ (a' := ?_) ?_ ?_
            rotate_left
            · show Act.put _ (some 27) _ = _
              simp only [Act.put, List.setIfInBounds_toArray, List.set_cons_zero, List.set_cons_succ, i64_w, i32_w]
              rfl
            exact norm_ (by simp only [putAll, Act.put, List.setIfInBounds_toArray, List.set_cons_zero, List.set_cons_succ]) (hCont (v121, v124, v127) _ ⟨hHeld, (by (with_reducible repeat (first | apply Kd.R_alloc | apply Kd.R_drewN | apply Kd.R_drew)); exact Kd.R_mono HO125.out (fun _ hk => ⟨hk.2, ⟨hk.1.1, hk.1.2⟩⟩)), (by (with_reducible repeat (first | apply Kd.R_alloc | apply Kd.R_drewN | apply Kd.R_drew)); exact Kd.R_mono HO128.out (fun _ hk => ⟨hk.1.1.2, ⟨hk.1.2, hk.2⟩⟩)), (by (with_reducible repeat (first | refine blk_drewN ?_ _ | refine blk_drew ?_ | refine blk_alloc ?_ _)); exact BK116.out), (by (with_reducible repeat (first | refine blk_drewN ?_ _ | refine blk_drew ?_ | refine blk_alloc ?_ _)); exact BK117.out), (by (with_reducible repeat (first | refine blk_drewN ?_ _ | refine blk_drew ?_ | refine blk_alloc ?_ _)); exact BK118.out), (by repeat (first | (with_reducible first | exact HB.out | apply below_alloc | apply pw_below_drewN | apply below_drew1 | refine below_set ?_ GE116.out | refine below_set ?_ GE117.out | refine below_set ?_ GE118.out) | exact HB.out))⟩)
          · skip
            refine Kd.R_lit_step k31 _ 31 ?hg (N := 27) ?hd (xs := ([(⟨a5_0, a5_1, a5_2, (⟨a5_3, a5_4, a5_5⟩ : S29), a5_6⟩ : S31)] : List (S31))) (inner := [.bool a5_0, .int .i64 a5_1, .string a5_2, .string a5_3, .bool a5_4, .int .u32 a5_5, .int .i64 a5_6]) (ok := fun _ => True) (okp := fun _ => True) ?hr ?hp (fun _ hk => hk) trivial (Below.refl _ _) (Nat.le_refl _) (by simp) ?_; (case hd => rfl); (case hg => rfl); (case hr => first | (go_simp; done) | (go_simp; rfl)); (case hp => exact (Reps.c7 (show Kd.M k31 _ _ _ (⟨a5_0, a5_1, a5_2, (⟨a5_3, a5_4, a5_5⟩ : S29), a5_6⟩ : S31) [.bool a5_0, .int .i64 a5_1, .string a5_2, .string a5_3, .bool a5_4, .int .u32 a5_5, .int .i64 a5_6] from (k31_mkM _ _ _ (⟨a5_0, a5_1, a5_2, (⟨a5_3, a5_4, a5_5⟩ : S29), a5_6⟩ : S31) )) (Reps.none _ _)))
            intro v127 w20 ho21 hb hg_ hnew_
            clear hg_ hnew_
            (first | rw [← Ny126.out] at ho21 | (simp only [Int.reduceToNat] at ho21; rw [← Ny126.out] at ho21))
            have n0_ := Aside0.mk (Kd.R_elder' (by (with_reducible repeat (first | apply Kd.R_alloc | apply Kd.R_drewN | apply Kd.R_drew)); exact HO122.out) (Kd.R_base ho21) hb)
            have n1_ := Aside0.mk (Kd.R_lower (Kd.R_newB (Kd.R_newB (Kd.R_new' ho21 (Kd.R_lt (by (with_reducible repeat (first | apply Kd.R_alloc | apply Kd.R_drewN | apply Kd.R_drew)); exact HO122.out))) (g := gb117) (o := .cells #[.bool a3_0, .int .i64 a3_1, .string a3_2, .string a3_3, .bool a3_4, .int .u32 a3_5, .int .i64 a3_6] 31 (0, 0)) (by (with_reducible repeat (first | refine blk_drewN ?_ _ | refine blk_drew ?_ | refine blk_alloc ?_ _)); exact BK117.out)) (g := gb118) (o := .cells #[.bool a5_0, .int .i64 a5_1, .string a5_2, .string a5_3, .bool a5_4, .int .u32 a5_5, .int .i64 a5_6] 31 (0, 0)) (by (with_reducible repeat (first | refine blk_drewN ?_ _ | refine blk_drew ?_ | refine blk_alloc ?_ _)); exact BK118.out)) (below_size (by repeat (first | (with_reducible first | exact HB.out | apply below_alloc | apply pw_below_drewN | apply below_drew1 | refine below_set ?_ GE116.out | refine below_set ?_ GE117.out | refine below_set ?_ GE118.out) | exact HB.out))))
            have n2_ := Aside0.mk (blk_below (g := gb116) (o := .cells #[.slice A0_0 l0_0.length c0_0, .int .i64 a0_1, .string a0_2, .int .i64 a0_3, .string a0_4] 26 (0, 0)) (by (with_reducible repeat (first | refine blk_drewN ?_ _ | refine blk_drew ?_ | refine blk_alloc ?_ _)); exact BK116.out) hb)
            have n3_ := Aside0.mk (blk_below (g := gb117) (o := .cells #[.bool a3_0, .int .i64 a3_1, .string a3_2, .string a3_3, .bool a3_4, .int .u32 a3_5, .int .i64 a3_6] 31 (0, 0)) (by (with_reducible repeat (first | refine blk_drewN ?_ _ | refine blk_drew ?_ | refine blk_alloc ?_ _)); exact BK117.out) hb)
            have n4_ := Aside0.mk (blk_below (g := gb118) (o := .cells #[.bool a5_0, .int .i64 a5_1, .string a5_2, .string a5_3, .bool a5_4, .int .u32 a5_5, .int .i64 a5_6] 31 (0, 0)) (by (with_reducible repeat (first | refine blk_drewN ?_ _ | refine blk_drew ?_ | refine blk_alloc ?_ _)); exact BK118.out) hb)
            have n5_ := Aside0.mk (below_step (by repeat (first | (with_reducible first | exact HB.out | apply below_alloc | apply pw_below_drewN | apply below_drew1 | refine below_set ?_ GE116.out | refine below_set ?_ GE117.out | refine below_set ?_ GE118.out) | exact HB.out)) hb)
            clear HO122
            clear BK116
            clear BK117
            clear BK118
            clear HB
            have HO122 := n0_
            have HO128 := n1_
            have BK116 := n2_
            have BK117 := n3_
            have BK118 := n4_
            have HB := n5_
            clear n0_ n1_ n2_ n3_ n4_ n5_
            clear hb ho21
            refine hK.out _ _ ⟨(blk_cell BK118.out 0).trans rfl, (blk_cell BK118.out 1).trans rfl, (blk_cell BK118.out 2).trans rfl, (blk_cell BK118.out 3).trans rfl, (blk_cell BK118.out 4).trans rfl, (blk_cell BK118.out 5).trans rfl, (blk_cell BK118.out 6).trans rfl⟩ (fun hHeld => ?_)
            clear hK K
            refine norm_ (a' := ?_) ?_ ?_
            rotate_left
            · show Act.put _ (some 27) _ = _
              simp only [Act.put, List.setIfInBounds_toArray, List.set_cons_zero, List.set_cons_succ, i64_w, i32_w]
              rfl
            refine one_ (i := 2) (N := some 25) #[true, true, true, true, true, false, false] rfl rfl (by kernel_rfl) (by decide) (fun K hK => ?_)
            refine Kd.R_append_rows_step k31 (w0 := w) w.heap.size (by rfl) (.tmp 23) (.tmp 24) 32 31 (.agg #[(.bool false), (.int .i64 0), (.string ⟨#[]⟩), (.string ⟨#[]⟩), (.bool false), (.int .u32 0), (.int .i64 0)]) 64 rfl Tryz.underlying32 info31 rfl (by decide) (by omega) v121 y120 l4 _ _ _ (fun k_ => some k_ ≠ (v127 : Value).ownBlock ∧ k_ ≠ gb117 ∧ k_ ≠ gb118) (fun _ => False) rfl rfl ?aO ?aR (fun _ _ h => h) (fun _ h => h.elim) ?aF ?aB ?aS ?aL ?_
            (case aR => repeat (first | exact (Kd.C_below HR4.out HB.out) | (with_reducible refine Kd.C_alloc ?_ _) | (with_reducible refine Kd.C_drewN ?_ _) | (with_reducible refine Kd.C_drew ?_)))
            (case aB => exact (by repeat (first | (with_reducible first | exact HB.out | apply below_alloc | apply pw_below_drewN | apply below_drew1 | refine below_set ?_ GE116.out | refine below_set ?_ GE117.out | refine below_set ?_ GE118.out) | exact HB.out)))
            (case aF => exact (fun k_ hk => ⟨Kd.fresh' (Kd.R_lt (by (with_reducible repeat (first | apply Kd.R_alloc | apply Kd.R_drewN | apply Kd.R_drew)); exact HO128.out)) k_ hk, Kd.freshB (g := gb117) (o := .cells #[.bool a3_0, .int .i64 a3_1, .string a3_2, .string a3_3, .bool a3_4, .int .u32 a3_5, .int .i64 a3_6] 31 (0, 0)) (by (with_reducible repeat (first | refine blk_drewN ?_ _ | refine blk_drew ?_ | refine blk_alloc ?_ _)); exact BK117.out) k_ hk, Kd.freshB (g := gb118) (o := .cells #[.bool a5_0, .int .i64 a5_1, .string a5_2, .string a5_3, .bool a5_4, .int .u32 a5_5, .int .i64 a5_6] 31 (0, 0)) (by (with_reducible repeat (first | refine blk_drewN ?_ _ | refine blk_drew ?_ | refine blk_alloc ?_ _)); exact BK118.out) k_ hk⟩))
            (case aO => exact (by (with_reducible repeat (first | apply Kd.R_alloc | apply Kd.R_drewN | apply Kd.R_drew)); exact Kd.R_mono HO122.out (fun _ hk => ⟨hk.2, ⟨hk.1.1.2, hk.1.2⟩⟩)))
            (case aS => exact (below_size (by repeat (first | (with_reducible first | exact HB.out | apply below_alloc | apply pw_below_drewN | apply below_drew1 | refine below_set ?_ GE116.out | refine below_set ?_ GE117.out | refine below_set ?_ GE118.out) | exact HB.out))))
            (case aL => have := LMc8.out; omega)
            intro v124 w22 ho hb hg hat
            rw [← Ny123.out] at ho
            have n0_ := Aside0.mk (blk_grown (g := gb116) (o := .cells #[.slice A0_0 l0_0.length c0_0, .int .i64 a0_1, .string a0_2, .int .i64 a0_3, .string a0_4] 26 (0, 0)) (by (with_reducible repeat (first | refine blk_drewN ?_ _ | refine blk_drew ?_ | refine blk_alloc ?_ _)); exact BK116.out) hg (Kd.R_ne HO122.out BK116.out (by decide)))
            have n1_ := Aside0.mk (blk_grown (g := gb117) (o := .cells #[.bool a3_0, .int .i64 a3_1, .string a3_2, .string a3_3, .bool a3_4, .int .u32 a3_5, .int .i64 a3_6] 31 (0, 0)) (by (with_reducible repeat (first | refine blk_drewN ?_ _ | refine blk_drew ?_ | refine blk_alloc ?_ _)); exact BK117.out) hg (Kd.R_away HO122.out (fun _ hk => hk.1.1.2)))
            have n2_ := Aside0.mk (blk_grown (g := gb118) (o := .cells #[.bool a5_0, .int .i64 a5_1, .string a5_2, .string a5_3, .bool a5_4, .int .u32 a5_5, .int .i64 a5_6] 31 (0, 0)) (by (with_reducible repeat (first | refine blk_drewN ?_ _ | refine blk_drew ?_ | refine blk_alloc ?_ _)); exact BK118.out) hg (Kd.R_away HO122.out (fun _ hk => hk.1.2)))
            have n3_ := Aside0.mk (Kd.R_after (ok := (fun k_ => k_ ≠ gb117 ∧ k_ ≠ gb118)) (by (with_reducible repeat (first | apply Kd.R_alloc | apply Kd.R_drewN | apply Kd.R_drew)); exact Kd.R_mono HO128.out (fun _ hk => ⟨⟨hk.1.2, hk.2⟩, hk.1.1.2⟩)) hg hat)
            have n4_ := Aside0.mk (hb)
            have n5_ := Aside0.mk (ho)
            clear BK116
            clear BK117
            clear BK118
            clear HO128
            clear HB
            clear HO122
            have BK116 := n0_
            have BK117 := n1_
            have BK118 := n2_
            have HO128 := n3_
            have HB := n4_
            have HO125 := n5_
            clear n0_ n1_ n2_ n3_ n4_ n5_
            clear ho hb hg hat
            refine hK.out _ _ ⟨(blk_cell BK118.out 0).trans rfl, (blk_cell BK118.out 1).trans rfl, (blk_cell BK118.out 2).trans rfl, (blk_cell BK118.out 3).trans rfl, (blk_cell BK118.out 4).trans rfl, (blk_cell BK118.out 5).trans rfl, (blk_cell BK118.out 6).trans rfl⟩ (fun hHeld => ?_)
            clear hK K
            refine norm_ (a' := ?_) ?_ ?_
            rotate_left
            · show Act.put _ (some 25) _ = _
              simp only [Act.put, List.setIfInBounds_toArray, List.set_cons_zero, List.set_cons_succ, i64_w, i32_w]
              rfl
            exact norm_ (by simp only [putAll, Act.put, List.setIfInBounds_toArray, List.set_cons_zero, List.set_cons_succ]) (hCont (v121, v124, v127) _ ⟨hHeld, (by (with_reducible repeat (first | apply Kd.R_alloc | apply Kd.R_drewN | apply Kd.R_drew)); exact HO125.out), (by (with_reducible repeat (first | apply Kd.R_alloc | apply Kd.R_drewN | apply Kd.R_drew)); exact Kd.R_mono HO128.out (fun _ hk => ⟨hk.2, ⟨hk.1.1, hk.1.2⟩⟩)), (by (with_reducible repeat (first | refine blk_drewN ?_ _ | refine blk_drew ?_ | refine blk_alloc ?_ _)); exact BK116.out), (by (with_reducible repeat (first | refine blk_drewN ?_ _ | refine blk_drew ?_ | refine blk_alloc ?_ _)); exact BK117.out), (by (with_reducible repeat (first | refine blk_drewN ?_ _ | refine blk_drew ?_ | refine blk_alloc ?_ _)); exact BK118.out), (by repeat (first | (with_reducible first | exact HB.out | apply below_alloc | apply pw_below_drewN | apply below_drew1 | refine below_set ?_ GE116.out | refine below_set ?_ GE117.out | refine below_set ?_ GE118.out) | exact HB.out))⟩)
        · skip
          refine Kd.R_lit_step k31 _ 31 ?hg (N := 27) ?hd (xs := ([(⟨a5_0, a5_1, a5_2, (⟨a5_3, a5_4, a5_5⟩ : S29), a5_6⟩ : S31)] : List (S31))) (inner := [.bool a5_0, .int .i64 a5_1, .string a5_2, .string a5_3, .bool a5_4, .int .u32 a5_5, .int .i64 a5_6]) (ok := fun _ => True) (okp := fun _ => True) ?hr ?hp (fun _ hk => hk) trivial (Below.refl _ _) (Nat.le_refl _) (by simp) ?_; (case hd => rfl); (case hg => rfl); (case hr => first | (go_simp; done) | (go_simp; rfl)); (case hp => exact (Reps.c7 (show Kd.M k31 _ _ _ (⟨a5_0, a5_1, a5_2, (⟨a5_3, a5_4, a5_5⟩ : S29), a5_6⟩ : S31) [.bool a5_0, .int .i64 a5_1, .string a5_2, .string a5_3, .bool a5_4, .int .u32 a5_5, .int .i64 a5_6] from (k31_mkM _ _ _ (⟨a5_0, a5_1, a5_2, (⟨a5_3, a5_4, a5_5⟩ : S29), a5_6⟩ : S31) )) (Reps.none _ _)))
          intro v127 w18 ho19 hb hg_ hnew_
          clear hg_ hnew_
          (first | rw [← Ny126.out] at ho19 | (simp only [Int.reduceToNat] at ho19; rw [← Ny126.out] at ho19))
          have n0_ := Aside0.mk (Kd.R_lower (Kd.R_newB (Kd.R_newB ho19 (g := gb117) (o := .cells #[.bool a3_0, .int .i64 a3_1, .string a3_2, .string a3_3, .bool a3_4, .int .u32 a3_5, .int .i64 a3_6] 31 (0, 0)) (by (with_reducible repeat (first | refine blk_drewN ?_ _ | refine blk_drew ?_ | refine blk_alloc ?_ _)); exact BK117.out)) (g := gb118) (o := .cells #[.bool a5_0, .int .i64 a5_1, .string a5_2, .string a5_3, .bool a5_4, .int .u32 a5_5, .int .i64 a5_6] 31 (0, 0)) (by (with_reducible repeat (first | refine blk_drewN ?_ _ | refine blk_drew ?_ | refine blk_alloc ?_ _)); exact BK118.out)) (below_size (by repeat (first | (with_reducible first | exact HB.out | apply below_alloc | apply pw_below_drewN | apply below_drew1 | refine below_set ?_ GE116.out | refine below_set ?_ GE117.out | refine below_set ?_ GE118.out) | exact HB.out))))
          have n1_ := Aside0.mk (blk_below (g := gb116) (o := .cells #[.slice A0_0 l0_0.length c0_0, .int .i64 a0_1, .string a0_2, .int .i64 a0_3, .string a0_4] 26 (0, 0)) (by (with_reducible repeat (first | refine blk_drewN ?_ _ | refine blk_drew ?_ | refine blk_alloc ?_ _)); exact BK116.out) hb)
          have n2_ := Aside0.mk (blk_below (g := gb117) (o := .cells #[.bool a3_0, .int .i64 a3_1, .string a3_2, .string a3_3, .bool a3_4, .int .u32 a3_5, .int .i64 a3_6] 31 (0, 0)) (by (with_reducible repeat (first | refine blk_drewN ?_ _ | refine blk_drew ?_ | refine blk_alloc ?_ _)); exact BK117.out) hb)
          have n3_ := Aside0.mk (blk_below (g := gb118) (o := .cells #[.bool a5_0, .int .i64 a5_1, .string a5_2, .string a5_3, .bool a5_4, .int .u32 a5_5, .int .i64 a5_6] 31 (0, 0)) (by (with_reducible repeat (first | refine blk_drewN ?_ _ | refine blk_drew ?_ | refine blk_alloc ?_ _)); exact BK118.out) hb)
          have n4_ := Aside0.mk (below_step (by repeat (first | (with_reducible first | exact HB.out | apply below_alloc | apply pw_below_drewN | apply below_drew1 | refine below_set ?_ GE116.out | refine below_set ?_ GE117.out | refine below_set ?_ GE118.out) | exact HB.out)) hb)
          clear BK116
          clear BK117
          clear BK118
          clear HB
          have HO128 := n0_
          have BK116 := n1_
          have BK117 := n2_
          have BK118 := n3_
          have HB := n4_
          clear n0_ n1_ n2_ n3_ n4_
          clear hb ho19
          refine hK.out _ _ ⟨(blk_cell BK118.out 0).trans rfl, (blk_cell BK118.out 1).trans rfl, (blk_cell BK118.out 2).trans rfl, (blk_cell BK118.out 3).trans rfl, (blk_cell BK118.out 4).trans rfl, (blk_cell BK118.out 5).trans rfl, (blk_cell BK118.out 6).trans rfl⟩ (fun hHeld => ?_)
          clear hK K
          refine norm_ (a' := ?_) ?_ ?_
          rotate_left
          · show Act.put _ (some 27) _ = _
            simp only [Act.put, List.setIfInBounds_toArray, List.set_cons_zero, List.set_cons_succ, i64_w, i32_w]
            rfl
          refine one_ (i := 0) (N := some 23) #[true, true, false, true, true, false, false] rfl rfl (by kernel_rfl) (by decide) (fun K hK => ?_)
          refine Kd.R_lit_step k31 _ 31 ?hg (N := 23) ?hd (xs := ([] : List (S31))) (inner := []) (ok := fun _ => True) (okp := fun _ => True) ?hr ?hp (fun _ hk => hk) trivial (Below.refl _ _) (Nat.le_refl _) (by simp) ?_; (case hd => rfl); (case hg => rfl); (case hr => first | (go_simp; done) | (go_simp; rfl)); (case hp => exact (Reps.none _ _))
          intro v121 w20 ho21 hb hg_ hnew_
          clear hg_ hnew_
          (first | rw [← Ny120.out] at ho21 | (simp only [Int.reduceToNat] at ho21; rw [← Ny120.out] at ho21))
          have n0_ := Aside0.mk (Kd.R_elder' (by (with_reducible repeat (first | apply Kd.R_alloc | apply Kd.R_drewN | apply Kd.R_drew)); exact HO128.out) (Kd.R_base ho21) hb)
          have n1_ := Aside0.mk (Kd.R_lower (Kd.R_newB (Kd.R_newB (Kd.R_new' ho21 (Kd.R_lt (by (with_reducible repeat (first | apply Kd.R_alloc | apply Kd.R_drewN | apply Kd.R_drew)); exact HO128.out))) (g := gb117) (o := .cells #[.bool a3_0, .int .i64 a3_1, .string a3_2, .string a3_3, .bool a3_4, .int .u32 a3_5, .int .i64 a3_6] 31 (0, 0)) (by (with_reducible repeat (first | refine blk_drewN ?_ _ | refine blk_drew ?_ | refine blk_alloc ?_ _)); exact BK117.out)) (g := gb118) (o := .cells #[.bool a5_0, .int .i64 a5_1, .string a5_2, .string a5_3, .bool a5_4, .int .u32 a5_5, .int .i64 a5_6] 31 (0, 0)) (by (with_reducible repeat (first | refine blk_drewN ?_ _ | refine blk_drew ?_ | refine blk_alloc ?_ _)); exact BK118.out)) (below_size (by repeat (first | (with_reducible first | exact HB.out | apply below_alloc | apply pw_below_drewN | apply below_drew1 | refine below_set ?_ GE116.out | refine below_set ?_ GE117.out | refine below_set ?_ GE118.out) | exact HB.out))))
          have n2_ := Aside0.mk (blk_below (g := gb116) (o := .cells #[.slice A0_0 l0_0.length c0_0, .int .i64 a0_1, .string a0_2, .int .i64 a0_3, .string a0_4] 26 (0, 0)) (by (with_reducible repeat (first | refine blk_drewN ?_ _ | refine blk_drew ?_ | refine blk_alloc ?_ _)); exact BK116.out) hb)
          have n3_ := Aside0.mk (blk_below (g := gb117) (o := .cells #[.bool a3_0, .int .i64 a3_1, .string a3_2, .string a3_3, .bool a3_4, .int .u32 a3_5, .int .i64 a3_6] 31 (0, 0)) (by (with_reducible repeat (first | refine blk_drewN ?_ _ | refine blk_drew ?_ | refine blk_alloc ?_ _)); exact BK117.out) hb)
          have n4_ := Aside0.mk (blk_below (g := gb118) (o := .cells #[.bool a5_0, .int .i64 a5_1, .string a5_2, .string a5_3, .bool a5_4, .int .u32 a5_5, .int .i64 a5_6] 31 (0, 0)) (by (with_reducible repeat (first | refine blk_drewN ?_ _ | refine blk_drew ?_ | refine blk_alloc ?_ _)); exact BK118.out) hb)
          have n5_ := Aside0.mk (below_step (by repeat (first | (with_reducible first | exact HB.out | apply below_alloc | apply pw_below_drewN | apply below_drew1 | refine below_set ?_ GE116.out | refine below_set ?_ GE117.out | refine below_set ?_ GE118.out) | exact HB.out)) hb)
          clear HO128
          clear BK116
          clear BK117
          clear BK118
          clear HB
          have HO128 := n0_
          have HO122 := n1_
          have BK116 := n2_
          have BK117 := n3_
          have BK118 := n4_
          have HB := n5_
          clear n0_ n1_ n2_ n3_ n4_ n5_
          clear hb ho21
          refine hK.out _ _ ⟨(blk_cell BK118.out 0).trans rfl, (blk_cell BK118.out 1).trans rfl, (blk_cell BK118.out 2).trans rfl, (blk_cell BK118.out 3).trans rfl, (blk_cell BK118.out 4).trans rfl, (blk_cell BK118.out 5).trans rfl, (blk_cell BK118.out 6).trans rfl⟩ (fun hHeld => ?_)
          clear hK K
          refine norm_ (a' := ?_) ?_ ?_
          rotate_left
          · show Act.put _ (some 23) _ = _
            simp only [Act.put, List.setIfInBounds_toArray, List.set_cons_zero, List.set_cons_succ, i64_w, i32_w]
            rfl
          refine one_ (i := 2) (N := some 25) #[true, true, true, true, true, false, false] rfl rfl (by kernel_rfl) (by decide) (fun K hK => ?_)
          refine Kd.R_append_rows_step k31 (w0 := w) w.heap.size (by rfl) (.tmp 23) (.tmp 24) 32 31 (.agg #[(.bool false), (.int .i64 0), (.string ⟨#[]⟩), (.string ⟨#[]⟩), (.bool false), (.int .u32 0), (.int .i64 0)]) 64 rfl Tryz.underlying32 info31 rfl (by decide) (by omega) v121 y120 l4 _ _ _ (fun k_ => some k_ ≠ (v127 : Value).ownBlock ∧ k_ ≠ gb117 ∧ k_ ≠ gb118) (fun _ => False) rfl rfl ?aO ?aR (fun _ _ h => h) (fun _ h => h.elim) ?aF ?aB ?aS ?aL ?_
          (case aR => repeat (first | exact (Kd.C_below HR4.out HB.out) | (with_reducible refine Kd.C_alloc ?_ _) | (with_reducible refine Kd.C_drewN ?_ _) | (with_reducible refine Kd.C_drew ?_)))
          (case aB => exact (by repeat (first | (with_reducible first | exact HB.out | apply below_alloc | apply pw_below_drewN | apply below_drew1 | refine below_set ?_ GE116.out | refine below_set ?_ GE117.out | refine below_set ?_ GE118.out) | exact HB.out)))
          (case aF => exact (fun k_ hk => ⟨Kd.fresh' (Kd.R_lt (by (with_reducible repeat (first | apply Kd.R_alloc | apply Kd.R_drewN | apply Kd.R_drew)); exact HO128.out)) k_ hk, Kd.freshB (g := gb117) (o := .cells #[.bool a3_0, .int .i64 a3_1, .string a3_2, .string a3_3, .bool a3_4, .int .u32 a3_5, .int .i64 a3_6] 31 (0, 0)) (by (with_reducible repeat (first | refine blk_drewN ?_ _ | refine blk_drew ?_ | refine blk_alloc ?_ _)); exact BK117.out) k_ hk, Kd.freshB (g := gb118) (o := .cells #[.bool a5_0, .int .i64 a5_1, .string a5_2, .string a5_3, .bool a5_4, .int .u32 a5_5, .int .i64 a5_6] 31 (0, 0)) (by (with_reducible repeat (first | refine blk_drewN ?_ _ | refine blk_drew ?_ | refine blk_alloc ?_ _)); exact BK118.out) k_ hk⟩))
          (case aO => exact (by (with_reducible repeat (first | apply Kd.R_alloc | apply Kd.R_drewN | apply Kd.R_drew)); exact Kd.R_mono HO122.out (fun _ hk => ⟨hk.1.1.2, ⟨hk.1.2, hk.2⟩⟩)))
          (case aS => exact (below_size (by repeat (first | (with_reducible first | exact HB.out | apply below_alloc | apply pw_below_drewN | apply below_drew1 | refine below_set ?_ GE116.out | refine below_set ?_ GE117.out | refine below_set ?_ GE118.out) | exact HB.out))))
          (case aL => have := LMc8.out; omega)
          intro v124 w22 ho hb hg hat
          rw [← Ny123.out] at ho
          have n0_ := Aside0.mk (blk_grown (g := gb116) (o := .cells #[.slice A0_0 l0_0.length c0_0, .int .i64 a0_1, .string a0_2, .int .i64 a0_3, .string a0_4] 26 (0, 0)) (by (with_reducible repeat (first | refine blk_drewN ?_ _ | refine blk_drew ?_ | refine blk_alloc ?_ _)); exact BK116.out) hg (Kd.R_ne HO122.out BK116.out (by decide)))
          have n1_ := Aside0.mk (blk_grown (g := gb117) (o := .cells #[.bool a3_0, .int .i64 a3_1, .string a3_2, .string a3_3, .bool a3_4, .int .u32 a3_5, .int .i64 a3_6] 31 (0, 0)) (by (with_reducible repeat (first | refine blk_drewN ?_ _ | refine blk_drew ?_ | refine blk_alloc ?_ _)); exact BK117.out) hg (Kd.R_away HO122.out (fun _ hk => hk.1.2)))
          have n2_ := Aside0.mk (blk_grown (g := gb118) (o := .cells #[.bool a5_0, .int .i64 a5_1, .string a5_2, .string a5_3, .bool a5_4, .int .u32 a5_5, .int .i64 a5_6] 31 (0, 0)) (by (with_reducible repeat (first | refine blk_drewN ?_ _ | refine blk_drew ?_ | refine blk_alloc ?_ _)); exact BK118.out) hg (Kd.R_away HO122.out (fun _ hk => hk.2)))
          have n3_ := Aside0.mk (Kd.R_after (ok := (fun k_ => k_ ≠ gb117 ∧ k_ ≠ gb118)) (by (with_reducible repeat (first | apply Kd.R_alloc | apply Kd.R_drewN | apply Kd.R_drew)); exact Kd.R_mono HO128.out (fun _ hk => ⟨⟨hk.1.1.2, hk.1.2⟩, hk.2⟩)) hg hat)
          have n4_ := Aside0.mk (hb)
          have n5_ := Aside0.mk (ho)
          clear BK116
          clear BK117
          clear BK118
          clear HO128
          clear HB
          clear HO122
          have BK116 := n0_
          have BK117 := n1_
          have BK118 := n2_
          have HO128 := n3_
          have HB := n4_
          have HO125 := n5_
          clear n0_ n1_ n2_ n3_ n4_ n5_
          clear ho hb hg hat
          refine hK.out _ _ ⟨(blk_cell BK118.out 0).trans rfl, (blk_cell BK118.out 1).trans rfl, (blk_cell BK118.out 2).trans rfl, (blk_cell BK118.out 3).trans rfl, (blk_cell BK118.out 4).trans rfl, (blk_cell BK118.out 5).trans rfl, (blk_cell BK118.out 6).trans rfl⟩ (fun hHeld => ?_)
          clear hK K
          refine norm_ (a' := ?_) ?_ ?_
          rotate_left
          · show Act.put _ (some 25) _ = _
            simp only [Act.put, List.setIfInBounds_toArray, List.set_cons_zero, List.set_cons_succ, i64_w, i32_w]
            rfl
          exact norm_ (by simp only [putAll, Act.put, List.setIfInBounds_toArray, List.set_cons_zero, List.set_cons_succ]) (hCont (v121, v124, v127) _ ⟨hHeld, (by (with_reducible repeat (first | apply Kd.R_alloc | apply Kd.R_drewN | apply Kd.R_drew)); exact HO125.out), (by (with_reducible repeat (first | apply Kd.R_alloc | apply Kd.R_drewN | apply Kd.R_drew)); exact Kd.R_mono HO128.out (fun _ hk => ⟨hk.2, ⟨hk.1.1, hk.1.2⟩⟩)), (by (with_reducible repeat (first | refine blk_drewN ?_ _ | refine blk_drew ?_ | refine blk_alloc ?_ _)); exact BK116.out), (by (with_reducible repeat (first | refine blk_drewN ?_ _ | refine blk_drew ?_ | refine blk_alloc ?_ _)); exact BK117.out), (by (with_reducible repeat (first | refine blk_drewN ?_ _ | refine blk_drew ?_ | refine blk_alloc ?_ _)); exact BK118.out), (by repeat (first | (with_reducible first | exact HB.out | apply below_alloc | apply pw_below_drewN | apply below_drew1 | refine below_set ?_ GE116.out | refine below_set ?_ GE117.out | refine below_set ?_ GE118.out) | exact HB.out))⟩)
      rintro ⟨v121, v124, v127⟩ w23 ⟨hS_, h0_, h1_, h2_, h3_, h4_, h5_⟩
      have n0_ : Aside0 (Kd.R k31 31 w23 w.heap.size (fun k_ => some k_ ≠ (v127 : Value).ownBlock ∧ k_ ≠ gb117 ∧ k_ ≠ gb118) v124 y123) := ⟨h0_⟩
      have n1_ : Aside0 (Kd.R k31 31 w23 w.heap.size (fun k_ => some k_ ≠ (v124 : Value).ownBlock ∧ k_ ≠ gb117 ∧ k_ ≠ gb118) v127 y126) := ⟨h1_⟩
      have n2_ : Aside0 (w23.heap[gb116]? = some (.cells #[.slice A0_0 l0_0.length c0_0, .int .i64 a0_1, .string a0_2, .int .i64 a0_3, .string a0_4] 26 (0, 0))) := ⟨h2_⟩
      have n3_ : Aside0 (w23.heap[gb117]? = some (.cells #[.bool a3_0, .int .i64 a3_1, .string a3_2, .string a3_3, .bool a3_4, .int .u32 a3_5, .int .i64 a3_6] 31 (0, 0))) := ⟨h3_⟩
      have n4_ : Aside0 (w23.heap[gb118]? = some (.cells #[.bool a5_0, .int .i64 a5_1, .string a5_2, .string a5_3, .bool a5_4, .int .u32 a5_5, .int .i64 a5_6] 31 (0, 0))) := ⟨h4_⟩
      have n5_ : Aside0 (Below w.heap.size w w23) := ⟨h5_⟩
      clear BK116
      clear BK117
      clear BK118
      clear HB
      clear h0_ h1_ h2_ h3_ h4_ h5_
      have HO125 := n0_
      have HO128 := n1_
      have BK116 := n2_
      have BK117 := n3_
      have BK118 := n4_
      have HB := n5_
      clear n0_ n1_ n2_ n3_ n4_ n5_
      have hHeld : w23.cell? ⟨gb118, 0, none⟩ = some (.bool a5_0) ∧ w23.cell? ⟨gb118, 1, none⟩ = some (.int .i64 a5_1) ∧ w23.cell? ⟨gb118, 2, none⟩ = some (.string a5_2) ∧ w23.cell? ⟨gb118, 3, none⟩ = some (.string a5_3) ∧ w23.cell? ⟨gb118, 4, none⟩ = some (.bool a5_4) ∧ w23.cell? ⟨gb118, 5, none⟩ = some (.int .u32 a5_5) ∧ w23.cell? ⟨gb118, 6, none⟩ = some (.int .i64 a5_6) := hS_
      obtain ⟨Ao25, co25, eo25⟩ := Kd.R_slice HO128.out
      (first | subst eo25 | (injection eo25 with f1_ f2_ f3_; have f4_ := f1_.symm; have f5_ := f3_.symm; clear f1_ f2_ f3_; subst f4_; subst f5_))
      refine norm_ (a' := ?_) ?_ ?_
      rotate_left
      · simp only [putAll, Act.put, List.setIfInBounds_toArray, List.set_cons_zero, List.set_cons_succ]
        rfl
      refine one_ (i := 5) (N := some 28) #[true, true, true, true, true, true, false] rfl rfl (by kernel_rfl) (by decide) (fun K hK => ?_)
      refine Kd.R_append_rows_step k31 (w0 := w) w.heap.size (by rfl) (.tmp 25) (.tmp 27) 32 31 (.agg #[(.bool false), (.int .i64 0), (.string ⟨#[]⟩), (.string ⟨#[]⟩), (.bool false), (.int .u32 0), (.int .i64 0)]) 64 rfl Tryz.underlying32 info31 rfl (by decide) (by omega) v124 y123 y126 _ _ _ (fun k_ => some k_ ≠ (.slice Ao25 y126.length co25 : Value).ownBlock ∧ k_ ≠ gb117 ∧ k_ ≠ gb118) (fun _ => False) rfl rfl ?aO ?aR (fun _ _ h => h) (fun _ h => h.elim) ?aF ?aB ?aS ?aL ?_
      (case aR => repeat (first | exact (Kd.R_reads' HO128.out).2.2 | (with_reducible refine Kd.C_alloc ?_ _) | (with_reducible refine Kd.C_drewN ?_ _) | (with_reducible refine Kd.C_drew ?_)))
      (case aB => exact (by repeat (first | (with_reducible first | exact HB.out | apply below_alloc | apply pw_below_drewN | apply below_drew1 | refine below_set ?_ GE116.out | refine below_set ?_ GE117.out | refine below_set ?_ GE118.out) | exact HB.out)))
      (case aF => exact (fun k_ hk => ⟨Kd.fresh' (Kd.R_lt (by (with_reducible repeat (first | apply Kd.R_alloc | apply Kd.R_drewN | apply Kd.R_drew)); exact HO128.out)) k_ hk, Kd.freshB (g := gb117) (o := .cells #[.bool a3_0, .int .i64 a3_1, .string a3_2, .string a3_3, .bool a3_4, .int .u32 a3_5, .int .i64 a3_6] 31 (0, 0)) (by (with_reducible repeat (first | refine blk_drewN ?_ _ | refine blk_drew ?_ | refine blk_alloc ?_ _)); exact BK117.out) k_ hk, Kd.freshB (g := gb118) (o := .cells #[.bool a5_0, .int .i64 a5_1, .string a5_2, .string a5_3, .bool a5_4, .int .u32 a5_5, .int .i64 a5_6] 31 (0, 0)) (by (with_reducible repeat (first | refine blk_drewN ?_ _ | refine blk_drew ?_ | refine blk_alloc ?_ _)); exact BK118.out) k_ hk⟩))
      (case aO => exact (by (with_reducible repeat (first | apply Kd.R_alloc | apply Kd.R_drewN | apply Kd.R_drew)); exact HO125.out))
      (case aS => exact (below_size (by repeat (first | (with_reducible first | exact HB.out | apply below_alloc | apply pw_below_drewN | apply below_drew1 | refine below_set ?_ GE116.out | refine below_set ?_ GE117.out | refine below_set ?_ GE118.out) | exact HB.out))))
      (case aL => have := LMc9.out; omega)
      intro v130 w24 ho hb hg hat
      rw [← Ny129.out] at ho
      have n0_ := Aside0.mk (blk_grown (g := gb116) (o := .cells #[.slice A0_0 l0_0.length c0_0, .int .i64 a0_1, .string a0_2, .int .i64 a0_3, .string a0_4] 26 (0, 0)) (by (with_reducible repeat (first | refine blk_drewN ?_ _ | refine blk_drew ?_ | refine blk_alloc ?_ _)); exact BK116.out) hg (Kd.R_ne HO125.out BK116.out (by decide)))
      have n1_ := Aside0.mk (blk_grown (g := gb117) (o := .cells #[.bool a3_0, .int .i64 a3_1, .string a3_2, .string a3_3, .bool a3_4, .int .u32 a3_5, .int .i64 a3_6] 31 (0, 0)) (by (with_reducible repeat (first | refine blk_drewN ?_ _ | refine blk_drew ?_ | refine blk_alloc ?_ _)); exact BK117.out) hg (Kd.R_away HO125.out (fun _ hk => hk.2.1)))
      have n2_ := Aside0.mk (blk_grown (g := gb118) (o := .cells #[.bool a5_0, .int .i64 a5_1, .string a5_2, .string a5_3, .bool a5_4, .int .u32 a5_5, .int .i64 a5_6] 31 (0, 0)) (by (with_reducible repeat (first | refine blk_drewN ?_ _ | refine blk_drew ?_ | refine blk_alloc ?_ _)); exact BK118.out) hg (Kd.R_away HO125.out (fun _ hk => hk.2.2)))
      have n3_ := Aside0.mk (Kd.R_after (ok := (fun k_ => k_ ≠ gb117 ∧ k_ ≠ gb118)) (by (with_reducible repeat (first | apply Kd.R_alloc | apply Kd.R_drewN | apply Kd.R_drew)); exact Kd.R_mono HO128.out (fun _ hk => ⟨⟨hk.2.1, hk.2.2⟩, hk.1⟩)) hg hat)
      have n4_ := Aside0.mk (hb)
      have n5_ := Aside0.mk (ho)
      clear BK116
      clear BK117
      clear BK118
      clear HO128
      clear HB
      clear HO125
      have BK116 := n0_
      have BK117 := n1_
      have BK118 := n2_
      have HO128 := n3_
      have HB := n4_
      have HO131 := n5_
      clear n0_ n1_ n2_ n3_ n4_ n5_
      clear ho hb hg hat
      refine hK.out _ _ ⟨(blk_cell BK118.out 0).trans rfl, (blk_cell BK118.out 1).trans rfl, (blk_cell BK118.out 2).trans rfl, (blk_cell BK118.out 3).trans rfl, (blk_cell BK118.out 4).trans rfl, (blk_cell BK118.out 5).trans rfl, (blk_cell BK118.out 6).trans rfl⟩ (fun hHeld => ?_)
      clear hK K
      refine norm_ (a' := ?_) ?_ ?_
      rotate_left
      · show Act.put _ (some 28) _ = _
        simp only [Act.put, List.setIfInBounds_toArray, List.set_cons_zero, List.set_cons_succ, i64_w, i32_w]
        rfl
      refine pure_ (i := 6) (N := some 14) (v := ?_) (a' := ?_) #[true, true, true, true, true, true, true] rfl rfl (by kernel_rfl) (fun _ _ _ h => h) (Or.inl ⟨by rfl, ?_⟩) ?_ ?_
      rotate_left
      · intro w'
        go_simp
        with_reducible rfl
      rotate_left
      · simp only [Act.put, List.setIfInBounds_toArray, List.set_cons_zero, List.set_cons_succ, i64_w, i32_w]
        rfl
      refine done_ (by kernel_rfl) ?_
      have hnb26 := NB117_116.out
      have hnc26 := NB116_117.out
      have hnb27 := NB117_118.out
      have hnc27 := NB118_117.out
      have hcz28_0 : w24.cell? ⟨gb117, 0, none⟩ = some (.bool a3_0) := (blk_cell BK117.out 0).trans rfl
      have hcz28_1 : w24.cell? ⟨gb117, 1, none⟩ = some (.int .i64 a3_1) := (blk_cell BK117.out 1).trans rfl
      have hcz28_2 : w24.cell? ⟨gb117, 2, none⟩ = some (.string a3_2) := (blk_cell BK117.out 2).trans rfl
      have hcz28_3 : w24.cell? ⟨gb117, 3, none⟩ = some (.string a3_3) := (blk_cell BK117.out 3).trans rfl
      have hcz28_4 : w24.cell? ⟨gb117, 4, none⟩ = some (.bool a3_4) := (blk_cell BK117.out 4).trans rfl
      have hcz28_5 : w24.cell? ⟨gb117, 5, none⟩ = some (.int .u32 a3_5) := (blk_cell BK117.out 5).trans rfl
      have hcz28_6 : w24.cell? ⟨gb117, 6, none⟩ = some (.int .i64 a3_6) := (blk_cell BK117.out 6).trans rfl
      have hfz28_0 := blk_frozen BK117.out 0
      have hfz28_1 := blk_frozen BK117.out 1
      have hfz28_2 := blk_frozen BK117.out 2
      have hfz28_3 := blk_frozen BK117.out 3
      have hfz28_4 := blk_frozen BK117.out 4
      have hfz28_5 := blk_frozen BK117.out 5
      have hfz28_6 := blk_frozen BK117.out 6
      obtain ⟨Ao29, co29, eo29⟩ := Kd.R_slice HO131.out
      subst eo29
      go_upto_region 5 with (first | ((with_reducible refine gate_callee (f := 11) rfl ?_); refine goesL_ (some 31) rfl rfl Tryz.func11 (by kernel_rfl) rfl #[.agg #[.bool a3_0, .int .i64 a3_1, .string a3_2, .string a3_3, .bool a3_4, .int .u32 a3_5, .int .i64 a3_6], .slice Ao29 y129.length co29] rfl (by (try simp only [List.map_toArray, List.map_cons, List.map_nil]); first | done | rfl | (simp only [List.length_drop, List.length_take]; rfl)) ?_; (with_reducible refine (glacislaw18_few.calls k a3_0 a3_1 a3_2 a3_3 a3_4 a3_5 a3_6 _ _ y129 t132 _ ?side1 ?side2 A10.out).mono ?_); (case side1 => repeat (first | exact (Kd.R_reads' HO131.out).2.2 | (with_reducible refine Kd.C_alloc ?_ _) | (with_reducible refine Kd.C_drewN ?_ _) | (with_reducible refine Kd.C_drew ?_))); (case side2 => exact (Kd.R_reads' HO131.out).2.1); rintro e w30 ⟨rfl, hb⟩; refine ⟨_, rfl, ?_⟩; have n0_ := Aside0.mk (Kd.R_below (by (with_reducible repeat (first | apply Kd.R_alloc | apply Kd.R_drewN | apply Kd.R_drew)); exact HO128.out) hb); have n1_ := Aside0.mk (Kd.R_below (by (with_reducible repeat (first | apply Kd.R_alloc | apply Kd.R_drewN | apply Kd.R_drew)); exact HO131.out) hb); have n2_ := Aside0.mk (blk_below (g := gb116) (o := .cells #[.slice A0_0 l0_0.length c0_0, .int .i64 a0_1, .string a0_2, .int .i64 a0_3, .string a0_4] 26 (0, 0)) (by (with_reducible repeat (first | refine blk_drewN ?_ _ | refine blk_drew ?_ | refine blk_alloc ?_ _)); exact BK116.out) hb); have n3_ := Aside0.mk (blk_below (g := gb117) (o := .cells #[.bool a3_0, .int .i64 a3_1, .string a3_2, .string a3_3, .bool a3_4, .int .u32 a3_5, .int .i64 a3_6] 31 (0, 0)) (by (with_reducible repeat (first | refine blk_drewN ?_ _ | refine blk_drew ?_ | refine blk_alloc ?_ _)); exact BK117.out) hb); have n4_ := Aside0.mk (blk_below (g := gb118) (o := .cells #[.bool a5_0, .int .i64 a5_1, .string a5_2, .string a5_3, .bool a5_4, .int .u32 a5_5, .int .i64 a5_6] 31 (0, 0)) (by (with_reducible repeat (first | refine blk_drewN ?_ _ | refine blk_drew ?_ | refine blk_alloc ?_ _)); exact BK118.out) hb); have n5_ := Aside0.mk (below_step (by repeat (first | (with_reducible first | exact HB.out | apply below_alloc | apply pw_below_drewN | apply below_drew1 | refine below_set ?_ GE116.out | refine below_set ?_ GE117.out | refine below_set ?_ GE118.out) | exact HB.out)) hb); clear HO128; clear HO131; clear BK116; clear BK117; clear BK118; clear HB; have HO128 := n0_; have HO131 := n1_; have BK116 := n2_; have BK117 := n3_; have BK118 := n4_; have HB := n5_; clear n0_ n1_ n2_ n3_ n4_ n5_; (try clear hb); (try clear hb2); (try clear hk); (try clear hi); have hnb31 := NB116_118.out; have hnc31 := NB118_116.out; have hcz32_0 : w30.cell? ⟨gb116, 0, none⟩ = some (.slice A0_0 l0_0.length c0_0) := (blk_cell BK116.out 0).trans rfl; have hcz32_1 : w30.cell? ⟨gb116, 1, none⟩ = some (.int .i64 a0_1) := (blk_cell BK116.out 1).trans rfl; have hcz32_2 : w30.cell? ⟨gb116, 2, none⟩ = some (.string a0_2) := (blk_cell BK116.out 2).trans rfl; have hcz32_3 : w30.cell? ⟨gb116, 3, none⟩ = some (.int .i64 a0_3) := (blk_cell BK116.out 3).trans rfl; have hcz32_4 : w30.cell? ⟨gb116, 4, none⟩ = some (.string a0_4) := (blk_cell BK116.out 4).trans rfl; have hfz32_0 := blk_frozen BK116.out 0; have hfz32_1 := blk_frozen BK116.out 1; have hfz32_2 := blk_frozen BK116.out 2; have hfz32_3 := blk_frozen BK116.out 3; have hfz32_4 := blk_frozen BK116.out 4) | ((with_reducible refine gate_callee (f := 12) rfl ?_); refine goesL_ (some 33) rfl rfl Tryz.func12 (by kernel_rfl) rfl #[.agg #[.slice A0_0 l0_0.length c0_0, .int .i64 a0_1, .string a0_2, .int .i64 a0_3, .string a0_4]] rfl (by (try simp only [List.map_toArray, List.map_cons, List.map_nil]); first | done | rfl | (simp only [List.length_drop, List.length_take]; rfl)) ?_; (with_reducible refine (glacislaw15_Little.calls k _ _ l0_0 a0_1 a0_2 a0_3 a0_4 t133 _ ?side1 ?side2 A11.out).mono ?_); (case side1 => repeat (first | exact (Kd.C_below HR0_0.out HB.out) | (with_reducible refine Kd.C_alloc ?_ _) | (with_reducible refine Kd.C_drewN ?_ _) | (with_reducible refine Kd.C_drew ?_))); (case side2 => exact HC0_0.out); rintro e w33 ⟨rfl, hb⟩; refine ⟨_, rfl, ?_⟩; have n0_ := Aside0.mk (Kd.R_below (by (with_reducible repeat (first | apply Kd.R_alloc | apply Kd.R_drewN | apply Kd.R_drew)); exact HO128.out) hb); have n1_ := Aside0.mk (Kd.R_below (by (with_reducible repeat (first | apply Kd.R_alloc | apply Kd.R_drewN | apply Kd.R_drew)); exact HO131.out) hb); have n2_ := Aside0.mk (blk_below (g := gb116) (o := .cells #[.slice A0_0 l0_0.length c0_0, .int .i64 a0_1, .string a0_2, .int .i64 a0_3, .string a0_4] 26 (0, 0)) (by (with_reducible repeat (first | refine blk_drewN ?_ _ | refine blk_drew ?_ | refine blk_alloc ?_ _)); exact BK116.out) hb); have n3_ := Aside0.mk (blk_below (g := gb117) (o := .cells #[.bool a3_0, .int .i64 a3_1, .string a3_2, .string a3_3, .bool a3_4, .int .u32 a3_5, .int .i64 a3_6] 31 (0, 0)) (by (with_reducible repeat (first | refine blk_drewN ?_ _ | refine blk_drew ?_ | refine blk_alloc ?_ _)); exact BK117.out) hb); have n4_ := Aside0.mk (blk_below (g := gb118) (o := .cells #[.bool a5_0, .int .i64 a5_1, .string a5_2, .string a5_3, .bool a5_4, .int .u32 a5_5, .int .i64 a5_6] 31 (0, 0)) (by (with_reducible repeat (first | refine blk_drewN ?_ _ | refine blk_drew ?_ | refine blk_alloc ?_ _)); exact BK118.out) hb); have n5_ := Aside0.mk (below_step (by repeat (first | (with_reducible first | exact HB.out | apply below_alloc | apply pw_below_drewN | apply below_drew1 | refine below_set ?_ GE116.out | refine below_set ?_ GE117.out | refine below_set ?_ GE118.out) | exact HB.out)) hb); clear HO128; clear HO131; clear BK116; clear BK117; clear BK118; clear HB; have HO128 := n0_; have HO131 := n1_; have BK116 := n2_; have BK117 := n3_; have BK118 := n4_; have HB := n5_; clear n0_ n1_ n2_ n3_ n4_ n5_; (try clear hb); (try clear hb2); (try clear hk); (try clear hi)))
      (try simp only [Act.put, List.setIfInBounds_toArray, List.set_cons_zero, List.set_cons_succ])
      go_cut [39] (fun v39 wc => ∃ (kq : Nat) (x39_11 : Bool), v39 = .bool x39_11 ∧ Aside0 (glacislaw18_EmbedMore.j0 kq a1 a2 l4 t119 y129 x39_11 l0_0 a0_1 a0_2 a0_3 a0_4 a3_0 a3_1 a3_2 a3_3 a3_4 a3_5 a3_6 = some r) ∧ Aside0 (kq ≤ k) ∧ Aside0 (Kd.R k31 31 wc w.heap.size (fun k_ => k_ ≠ gb117 ∧ k_ ≠ gb118) (.slice Ao29 y129.length co29) y129) ∧ Aside0 (wc.heap[gb116]? = some (.cells #[(.slice A0_0 l0_0.length c0_0), .int .i64 a0_1, .string a0_2, .int .i64 a0_3, .string a0_4] 26 (0, 0))) ∧ Aside0 (wc.heap[gb117]? = some (.cells #[.bool a3_0, .int .i64 a3_1, .string a3_2, .string a3_3, .bool a3_4, .int .u32 a3_5, .int .i64 a3_6] 31 (0, 0))) ∧ Aside0 (wc.heap[gb118]? = some (.cells #[.bool a5_0, .int .i64 a5_1, .string a5_2, .string a5_3, .bool a5_4, .int .u32 a5_5, .int .i64 a5_6] 31 (0, 0))) ∧ Aside0 (Below w.heap.size w wc))
      case first =>
        have H := HC12.out
        clear HC12
        by_cases c34 : t132 = true
        · subst c34
          have H1 : (glacislaw18_EmbedMore.j0 k a1 a2 l4 t119 y129 (!t133) l0_0 a0_1 a0_2 a0_3 a0_4 a3_0 a3_1 a3_2 a3_3 a3_4 a3_5 a3_6) = some r := by rw [if_pos rfl] at H; exact H
          clear H
          have H := H1
          clear H1
          have H' := Aside0.mk H
          clear H
          go_wp2
          go_meet
          case rel => exact ⟨_, (!t133), (by first | rfl | (simp; done) | (simp [*]; done) | (simp [ne_nil_bool]; done)), H', ⟨by first | omega | exact Nat.le_refl _⟩, ⟨by (with_reducible repeat (first | apply Kd.R_alloc | apply Kd.R_drewN | apply Kd.R_drew)); exact Kd.R_mono HO131.out (fun _ hk => ⟨hk.2.1, hk.2.2⟩)⟩, ⟨by (with_reducible repeat (first | refine blk_drewN ?_ _ | refine blk_drew ?_ | refine blk_alloc ?_ _)); exact BK116.out⟩, ⟨by (with_reducible repeat (first | refine blk_drewN ?_ _ | refine blk_drew ?_ | refine blk_alloc ?_ _)); exact BK117.out⟩, ⟨by (with_reducible repeat (first | refine blk_drewN ?_ _ | refine blk_drew ?_ | refine blk_alloc ?_ _)); exact BK118.out⟩, ⟨by repeat (first | (with_reducible first | exact HB.out | apply below_alloc | apply pw_below_drewN | apply below_drew1 | refine below_set ?_ GE116.out | refine below_set ?_ GE117.out | refine below_set ?_ GE118.out) | exact HB.out)⟩⟩
        · replace c34 := Bool.eq_false_iff.mpr c34
          subst c34
          have H1 : (glacislaw18_EmbedMore.j0 k a1 a2 l4 t119 y129 true l0_0 a0_1 a0_2 a0_3 a0_4 a3_0 a3_1 a3_2 a3_3 a3_4 a3_5 a3_6) = some r := by rw [if_neg (show ¬ (false = true) by decide)] at H; exact H
          clear H
          have H := H1
          clear H1
          have H' := Aside0.mk H
          clear H
          go_wp2
          go_meet
          case rel => exact ⟨_, (true), (by first | rfl | (simp; done) | (simp [*]; done) | (simp [ne_nil_bool]; done)), H', ⟨by first | omega | exact Nat.le_refl _⟩, ⟨by (with_reducible repeat (first | apply Kd.R_alloc | apply Kd.R_drewN | apply Kd.R_drew)); exact Kd.R_mono HO131.out (fun _ hk => ⟨hk.2.1, hk.2.2⟩)⟩, ⟨by (with_reducible repeat (first | refine blk_drewN ?_ _ | refine blk_drew ?_ | refine blk_alloc ?_ _)); exact BK116.out⟩, ⟨by (with_reducible repeat (first | refine blk_drewN ?_ _ | refine blk_drew ?_ | refine blk_alloc ?_ _)); exact BK117.out⟩, ⟨by (with_reducible repeat (first | refine blk_drewN ?_ _ | refine blk_drew ?_ | refine blk_alloc ?_ _)); exact BK118.out⟩, ⟨by repeat (first | (with_reducible first | exact HB.out | apply below_alloc | apply pw_below_drewN | apply below_drew1 | refine below_set ?_ GE116.out | refine below_set ?_ GE117.out | refine below_set ?_ GE118.out) | exact HB.out)⟩⟩
      case rest =>
        clear HC12
        try clear c1
        try clear c2
        try clear p2
        try clear c3
        try clear c4
        try clear c5
        try clear c7
        try clear c8
        try clear c9
        try clear c10
        try clear c11
        try clear c12
        try clear c26
        try clear c27
        try clear c31
        try clear c34
        try clear hcz28_0
        try clear hcz28_1
        try clear hcz28_2
        try clear hcz28_3
        try clear hcz28_4
        try clear hcz28_5
        try clear hcz28_6
        try clear hcz32_0
        try clear hcz32_1
        try clear hcz32_2
        try clear hcz32_3
        try clear hcz32_4
        try clear hfz28_0
        try clear hfz28_1
        try clear hfz28_2
        try clear hfz28_3
        try clear hfz28_4
        try clear hfz28_5
        try clear hfz28_6
        try clear hfz32_0
        try clear hfz32_1
        try clear hfz32_2
        try clear hfz32_3
        try clear hfz32_4
        obtain ⟨kq, x39_11, rfl, HA, HJ11, HO_14, BK116, BK117, BK118, HB⟩ := hcut
        cases kq with
        | zero => exact absurd HA.out (by simp [glacislaw18_EmbedMore.j0])
        | succ kj11 =>
          have H := HA.out
          clear HA
          simp only [glacislaw18_EmbedMore.j0] at H
          by_cases c35 : x39_11 = true
          · subst c35
            have H1 : (some t119) = some r := by rw [if_pos rfl] at H; exact H
            clear H
            have H := H1
            clear H1
            obtain rfl := Option.some.inj H
            go_wp2
            go_ret
            exact ⟨by first | rfl | (simp [errW_none, errW_some] <;> rfl) | (simp [*, errW_none, errW_some] <;> rfl), by repeat (first | (with_reducible first | exact HB.out | apply below_alloc | apply pw_below_drewN | apply below_drew1 | refine below_set ?_ GE116.out | refine below_set ?_ GE117.out | refine below_set ?_ GE118.out) | exact HB.out)⟩
          · replace c35 := Bool.eq_false_iff.mpr c35
            subst c35
            have H1 : ((embed_Frame.f l0_0 a0_1 a0_2 a0_3 a0_4 a1 a3_0 a3_1 a3_2 a3_3 a3_4 a3_5 a3_6 l4).bind fun t134 => ((embed_Frame.f l0_0 a0_1 a0_2 a0_3 a0_4 a1 a3_0 a3_1 a3_2 a3_3 a3_4 a3_5 a3_6 y129).bind fun t135 => (glacislaw18_EmbedMore.l0 kj11 a1 a2 t119 y129 t134 t135 false 0 l0_0 a0_1 a0_2 a0_3 a0_4 a3_0 a3_1 a3_2 a3_3 a3_4 a3_5 a3_6))) = some r := by rw [if_neg (show ¬ (false = true) by decide)] at H; exact H
            clear H
            have H := H1
            clear H1
            replace H := Option.bind_eq_some_iff.mp H
            obtain ⟨t134, A360, H⟩ := H
            replace H : ((embed_Frame.f l0_0 a0_1 a0_2 a0_3 a0_4 a1 a3_0 a3_1 a3_2 a3_3 a3_4 a3_5 a3_6 y129).bind fun t135 => (glacislaw18_EmbedMore.l0 kj11 a1 a2 t119 y129 t134 t135 false 0 l0_0 a0_1 a0_2 a0_3 a0_4 a3_0 a3_1 a3_2 a3_3 a3_4 a3_5 a3_6)) = some r := H
            have A36 := Aside0.mk A360
            clear A360
            replace H := Option.bind_eq_some_iff.mp H
            obtain ⟨t135, A370, H⟩ := H
            replace H : (glacislaw18_EmbedMore.l0 kj11 a1 a2 t119 y129 t134 t135 false 0 l0_0 a0_1 a0_2 a0_3 a0_4 a3_0 a3_1 a3_2 a3_3 a3_4 a3_5 a3_6) = some r := H
            have A37 := Aside0.mk A370
            clear A370
            have H' := Aside0.mk H
            clear H
            have hnb38 := NB116_117.out
            have hnc38 := NB117_116.out
            have hnb39 := NB116_118.out
            have hnc39 := NB118_116.out
            have hcz40_0 : wc.cell? ⟨gb116, 0, none⟩ = some (.slice A0_0 l0_0.length c0_0) := (blk_cell BK116.out 0).trans rfl
            have hcz40_1 : wc.cell? ⟨gb116, 1, none⟩ = some (.int .i64 a0_1) := (blk_cell BK116.out 1).trans rfl
            have hcz40_2 : wc.cell? ⟨gb116, 2, none⟩ = some (.string a0_2) := (blk_cell BK116.out 2).trans rfl
            have hcz40_3 : wc.cell? ⟨gb116, 3, none⟩ = some (.int .i64 a0_3) := (blk_cell BK116.out 3).trans rfl
            have hcz40_4 : wc.cell? ⟨gb116, 4, none⟩ = some (.string a0_4) := (blk_cell BK116.out 4).trans rfl
            have hfz40_0 := blk_frozen BK116.out 0
            have hfz40_1 := blk_frozen BK116.out 1
            have hfz40_2 := blk_frozen BK116.out 2
            have hfz40_3 := blk_frozen BK116.out 3
            have hfz40_4 := blk_frozen BK116.out 4
            have hnb41 := NB117_118.out
            have hnc41 := NB118_117.out
            have hcz42_0 : wc.cell? ⟨gb117, 0, none⟩ = some (.bool a3_0) := (blk_cell BK117.out 0).trans rfl
            have hcz42_1 : wc.cell? ⟨gb117, 1, none⟩ = some (.int .i64 a3_1) := (blk_cell BK117.out 1).trans rfl
            have hcz42_2 : wc.cell? ⟨gb117, 2, none⟩ = some (.string a3_2) := (blk_cell BK117.out 2).trans rfl
            have hcz42_3 : wc.cell? ⟨gb117, 3, none⟩ = some (.string a3_3) := (blk_cell BK117.out 3).trans rfl
            have hcz42_4 : wc.cell? ⟨gb117, 4, none⟩ = some (.bool a3_4) := (blk_cell BK117.out 4).trans rfl
            have hcz42_5 : wc.cell? ⟨gb117, 5, none⟩ = some (.int .u32 a3_5) := (blk_cell BK117.out 5).trans rfl
            have hcz42_6 : wc.cell? ⟨gb117, 6, none⟩ = some (.int .i64 a3_6) := (blk_cell BK117.out 6).trans rfl
            have hfz42_0 := blk_frozen BK117.out 0
            have hfz42_1 := blk_frozen BK117.out 1
            have hfz42_2 := blk_frozen BK117.out 2
            have hfz42_3 := blk_frozen BK117.out 3
            have hfz42_4 := blk_frozen BK117.out 4
            have hfz42_5 := blk_frozen BK117.out 5
            have hfz42_6 := blk_frozen BK117.out 6
            go_wp2_with (first | ((with_reducible refine gate_callee (f := 15) rfl ?_); refine goesL_ (some 45) rfl rfl Tryz.func15 (by kernel_rfl) rfl #[.agg #[.slice A0_0 l0_0.length c0_0, .int .i64 a0_1, .string a0_2, .int .i64 a0_3, .string a0_4], .int .i64 a1, .agg #[.bool a3_0, .int .i64 a3_1, .string a3_2, .string a3_3, .bool a3_4, .int .u32 a3_5, .int .i64 a3_6], .slice A4 l4.length c4] rfl (by (try simp only [List.map_toArray, List.map_cons, List.map_nil]); first | done | rfl | (simp only [List.length_drop, List.length_take]; rfl)) ?_; (with_reducible refine (embed_Frame.calls _ _ l0_0 a0_1 a0_2 a0_3 a0_4 a1 a3_0 a3_1 a3_2 a3_3 a3_4 a3_5 a3_6 _ _ l4 t134 _ ?side1 ?side2 ?side3 ?side4 (Gw.to HG_.out (by repeat (first | (with_reducible first | exact HB.out | apply below_alloc | apply pw_below_drewN | apply below_drew1 | refine below_set ?_ GE116.out | refine below_set ?_ GE117.out | refine below_set ?_ GE118.out) | exact HB.out))) A36.out).mono ?_); (case side1 => repeat (first | exact (Kd.C_below HR0_0.out HB.out) | (with_reducible refine Kd.C_alloc ?_ _) | (with_reducible refine Kd.C_drewN ?_ _) | (with_reducible refine Kd.C_drew ?_))); (case side2 => exact HC0_0.out); (case side3 => repeat (first | exact (Kd.C_below HR4.out HB.out) | (with_reducible refine Kd.C_alloc ?_ _) | (with_reducible refine Kd.C_drewN ?_ _) | (with_reducible refine Kd.C_drew ?_))); (case side4 => exact HC4.out); rintro e w43 ⟨rfl, hb⟩; refine ⟨_, rfl, ?_⟩; have n0_ := Aside0.mk (Kd.R_below (by (with_reducible repeat (first | apply Kd.R_alloc | apply Kd.R_drewN | apply Kd.R_drew)); exact HO_14.out) hb); have n1_ := Aside0.mk (blk_below (g := gb116) (o := .cells #[.slice A0_0 l0_0.length c0_0, .int .i64 a0_1, .string a0_2, .int .i64 a0_3, .string a0_4] 26 (0, 0)) (by (with_reducible repeat (first | refine blk_drewN ?_ _ | refine blk_drew ?_ | refine blk_alloc ?_ _)); exact BK116.out) hb); have n2_ := Aside0.mk (blk_below (g := gb117) (o := .cells #[.bool a3_0, .int .i64 a3_1, .string a3_2, .string a3_3, .bool a3_4, .int .u32 a3_5, .int .i64 a3_6] 31 (0, 0)) (by (with_reducible repeat (first | refine blk_drewN ?_ _ | refine blk_drew ?_ | refine blk_alloc ?_ _)); exact BK117.out) hb); have n3_ := Aside0.mk (blk_below (g := gb118) (o := .cells #[.bool a5_0, .int .i64 a5_1, .string a5_2, .string a5_3, .bool a5_4, .int .u32 a5_5, .int .i64 a5_6] 31 (0, 0)) (by (with_reducible repeat (first | refine blk_drewN ?_ _ | refine blk_drew ?_ | refine blk_alloc ?_ _)); exact BK118.out) hb); have n4_ := Aside0.mk (below_step (by repeat (first | (with_reducible first | exact HB.out | apply below_alloc | apply pw_below_drewN | apply below_drew1 | refine below_set ?_ GE116.out | refine below_set ?_ GE117.out | refine below_set ?_ GE118.out) | exact HB.out)) hb); clear HO_14; clear BK116; clear BK117; clear BK118; clear HB; have HO_14 := n0_; have BK116 := n1_; have BK117 := n2_; have BK118 := n3_; have HB := n4_; clear n0_ n1_ n2_ n3_ n4_; (try clear hb); (try clear hb2); (try clear hk); (try clear hi); have hcz44_0 : w43.cell? ⟨gb116, 0, none⟩ = some (.slice A0_0 l0_0.length c0_0) := (blk_cell BK116.out 0).trans rfl; have hcz44_1 : w43.cell? ⟨gb116, 1, none⟩ = some (.int .i64 a0_1) := (blk_cell BK116.out 1).trans rfl; have hcz44_2 : w43.cell? ⟨gb116, 2, none⟩ = some (.string a0_2) := (blk_cell BK116.out 2).trans rfl; have hcz44_3 : w43.cell? ⟨gb116, 3, none⟩ = some (.int .i64 a0_3) := (blk_cell BK116.out 3).trans rfl; have hcz44_4 : w43.cell? ⟨gb116, 4, none⟩ = some (.string a0_4) := (blk_cell BK116.out 4).trans rfl; have hfz44_0 := blk_frozen BK116.out 0; have hfz44_1 := blk_frozen BK116.out 1; have hfz44_2 := blk_frozen BK116.out 2; have hfz44_3 := blk_frozen BK116.out 3; have hfz44_4 := blk_frozen BK116.out 4; have hcz45_0 : w43.cell? ⟨gb117, 0, none⟩ = some (.bool a3_0) := (blk_cell BK117.out 0).trans rfl; have hcz45_1 : w43.cell? ⟨gb117, 1, none⟩ = some (.int .i64 a3_1) := (blk_cell BK117.out 1).trans rfl; have hcz45_2 : w43.cell? ⟨gb117, 2, none⟩ = some (.string a3_2) := (blk_cell BK117.out 2).trans rfl; have hcz45_3 : w43.cell? ⟨gb117, 3, none⟩ = some (.string a3_3) := (blk_cell BK117.out 3).trans rfl; have hcz45_4 : w43.cell? ⟨gb117, 4, none⟩ = some (.bool a3_4) := (blk_cell BK117.out 4).trans rfl; have hcz45_5 : w43.cell? ⟨gb117, 5, none⟩ = some (.int .u32 a3_5) := (blk_cell BK117.out 5).trans rfl; have hcz45_6 : w43.cell? ⟨gb117, 6, none⟩ = some (.int .i64 a3_6) := (blk_cell BK117.out 6).trans rfl; have hfz45_0 := blk_frozen BK117.out 0; have hfz45_1 := blk_frozen BK117.out 1; have hfz45_2 := blk_frozen BK117.out 2; have hfz45_3 := blk_frozen BK117.out 3; have hfz45_4 := blk_frozen BK117.out 4; have hfz45_5 := blk_frozen BK117.out 5; have hfz45_6 := blk_frozen BK117.out 6) | ((with_reducible refine gate_callee (f := 15) rfl ?_); refine goesL_ (some 50) rfl rfl Tryz.func15 (by kernel_rfl) rfl #[.agg #[.slice A0_0 l0_0.length c0_0, .int .i64 a0_1, .string a0_2, .int .i64 a0_3, .string a0_4], .int .i64 a1, .agg #[.bool a3_0, .int .i64 a3_1, .string a3_2, .string a3_3, .bool a3_4, .int .u32 a3_5, .int .i64 a3_6], .slice Ao29 y129.length co29] rfl (by (try simp only [List.map_toArray, List.map_cons, List.map_nil]); first | done | rfl | (simp only [List.length_drop, List.length_take]; rfl)) ?_; (with_reducible refine (embed_Frame.calls _ _ l0_0 a0_1 a0_2 a0_3 a0_4 a1 a3_0 a3_1 a3_2 a3_3 a3_4 a3_5 a3_6 _ _ y129 t135 _ ?side1 ?side2 ?side3 ?side4 (Gw.to HG_.out (by repeat (first | (with_reducible first | exact HB.out | apply below_alloc | apply pw_below_drewN | apply below_drew1 | refine below_set ?_ GE116.out | refine below_set ?_ GE117.out | refine below_set ?_ GE118.out) | exact HB.out))) A37.out).mono ?_); (case side1 => repeat (first | exact (Kd.C_below HR0_0.out HB.out) | (with_reducible refine Kd.C_alloc ?_ _) | (with_reducible refine Kd.C_drewN ?_ _) | (with_reducible refine Kd.C_drew ?_))); (case side2 => exact HC0_0.out); (case side3 => repeat (first | exact (Kd.R_reads' HO_14.out).2.2 | (with_reducible refine Kd.C_alloc ?_ _) | (with_reducible refine Kd.C_drewN ?_ _) | (with_reducible refine Kd.C_drew ?_))); (case side4 => exact (Kd.R_reads' HO_14.out).2.1); rintro e w46 ⟨rfl, hb⟩; refine ⟨_, rfl, ?_⟩; have n0_ := Aside0.mk (Kd.R_below (by (with_reducible repeat (first | apply Kd.R_alloc | apply Kd.R_drewN | apply Kd.R_drew)); exact HO_14.out) hb); have n1_ := Aside0.mk (blk_below (g := gb116) (o := .cells #[.slice A0_0 l0_0.length c0_0, .int .i64 a0_1, .string a0_2, .int .i64 a0_3, .string a0_4] 26 (0, 0)) (by (with_reducible repeat (first | refine blk_drewN ?_ _ | refine blk_drew ?_ | refine blk_alloc ?_ _)); exact BK116.out) hb); have n2_ := Aside0.mk (blk_below (g := gb117) (o := .cells #[.bool a3_0, .int .i64 a3_1, .string a3_2, .string a3_3, .bool a3_4, .int .u32 a3_5, .int .i64 a3_6] 31 (0, 0)) (by (with_reducible repeat (first | refine blk_drewN ?_ _ | refine blk_drew ?_ | refine blk_alloc ?_ _)); exact BK117.out) hb); have n3_ := Aside0.mk (blk_below (g := gb118) (o := .cells #[.bool a5_0, .int .i64 a5_1, .string a5_2, .string a5_3, .bool a5_4, .int .u32 a5_5, .int .i64 a5_6] 31 (0, 0)) (by (with_reducible repeat (first | refine blk_drewN ?_ _ | refine blk_drew ?_ | refine blk_alloc ?_ _)); exact BK118.out) hb); have n4_ := Aside0.mk (below_step (by repeat (first | (with_reducible first | exact HB.out | apply below_alloc | apply pw_below_drewN | apply below_drew1 | refine below_set ?_ GE116.out | refine below_set ?_ GE117.out | refine below_set ?_ GE118.out) | exact HB.out)) hb); clear HO_14; clear BK116; clear BK117; clear BK118; clear HB; have HO_14 := n0_; have BK116 := n1_; have BK117 := n2_; have BK118 := n3_; have HB := n4_; clear n0_ n1_ n2_ n3_ n4_; (try clear hb); (try clear hb2); (try clear hk); (try clear hi)))
            go_loopg [19, 20] kj11 (fun kq v19 v20 w' => ∃ (x19_2 : Bool) (x20_2 : Int), v19 = .bool x19_2 ∧ v20 = .int .i64 x20_2 ∧ Aside0 (glacislaw18_EmbedMore.l0 kq a1 a2 t119 y129 t134 t135 x19_2 x20_2 l0_0 a0_1 a0_2 a0_3 a0_4 a3_0 a3_1 a3_2 a3_3 a3_4 a3_5 a3_6 = some r) ∧ Aside0 (kq ≤ kj11) ∧ Aside0 (Kd.R k31 31 w' w.heap.size (fun k_ => k_ ≠ gb117 ∧ k_ ≠ gb118) (.slice Ao29 y129.length co29) y129) ∧ Aside0 (w'.heap[gb116]? = some (.cells #[(.slice A0_0 l0_0.length c0_0), .int .i64 a0_1, .string a0_2, .int .i64 a0_3, .string a0_4] 26 (0, 0))) ∧ Aside0 (w'.heap[gb117]? = some (.cells #[.bool a3_0, .int .i64 a3_1, .string a3_2, .string a3_3, .bool a3_4, .int .u32 a3_5, .int .i64 a3_6] 31 (0, 0))) ∧ Aside0 (w'.heap[gb118]? = some (.cells #[.bool a5_0, .int .i64 a5_1, .string a5_2, .string a5_3, .bool a5_4, .int .u32 a5_5, .int .i64 a5_6] 31 (0, 0))) ∧ Aside0 (Below w.heap.size w w'))
            case atStart => exact ⟨(false), (0), (by first | rfl | (simp; done) | (simp [*]; done) | (simp [ne_nil_bool]; done)), (by first | rfl | (simp; done) | (simp [*]; done) | (simp [ne_nil_bool]; done)), H', ⟨Nat.le_refl _⟩, ⟨by (with_reducible repeat (first | apply Kd.R_alloc | apply Kd.R_drewN | apply Kd.R_drew)); exact HO_14.out⟩, ⟨by (with_reducible repeat (first | refine blk_drewN ?_ _ | refine blk_drew ?_ | refine blk_alloc ?_ _)); exact BK116.out⟩, ⟨by (with_reducible repeat (first | refine blk_drewN ?_ _ | refine blk_drew ?_ | refine blk_alloc ?_ _)); exact BK117.out⟩, ⟨by (with_reducible repeat (first | refine blk_drewN ?_ _ | refine blk_drew ?_ | refine blk_alloc ?_ _)); exact BK118.out⟩, ⟨by repeat (first | (with_reducible first | exact HB.out | apply below_alloc | apply pw_below_drewN | apply below_drew1 | refine below_set ?_ GE116.out | refine below_set ?_ GE117.out | refine below_set ?_ GE118.out) | exact HB.out)⟩⟩
            case round =>
              clear H'
              try clear c1
              try clear c2
              try clear p2
              try clear c3
              try clear c4
              try clear c5
              try clear c7
              try clear c8
              try clear c9
              try clear c10
              try clear c11
              try clear c12
              try clear c15
              try clear c26
              try clear c27
              try clear c31
              try clear c34
              try clear c35
              try clear c38
              try clear c39
              try clear c41
              try clear hcz28_0
              try clear hcz28_1
              try clear hcz28_2
              try clear hcz28_3
              try clear hcz28_4
              try clear hcz28_5
              try clear hcz28_6
              try clear hcz32_0
              try clear hcz32_1
              try clear hcz32_2
              try clear hcz32_3
              try clear hcz32_4
              try clear hcz40_0
              try clear hcz40_1
              try clear hcz40_2
              try clear hcz40_3
              try clear hcz40_4
              try clear hcz42_0
              try clear hcz42_1
              try clear hcz42_2
              try clear hcz42_3
              try clear hcz42_4
              try clear hcz42_5
              try clear hcz42_6
              try clear hcz44_0
              try clear hcz44_1
              try clear hcz44_2
              try clear hcz44_3
              try clear hcz44_4
              try clear hcz45_0
              try clear hcz45_1
              try clear hcz45_2
              try clear hcz45_3
              try clear hcz45_4
              try clear hcz45_5
              try clear hcz45_6
              try clear hfz28_0
              try clear hfz28_1
              try clear hfz28_2
              try clear hfz28_3
              try clear hfz28_4
              try clear hfz28_5
              try clear hfz28_6
              try clear hfz32_0
              try clear hfz32_1
              try clear hfz32_2
              try clear hfz32_3
              try clear hfz32_4
              try clear hfz40_0
              try clear hfz40_1
              try clear hfz40_2
              try clear hfz40_3
              try clear hfz40_4
              try clear hfz42_0
              try clear hfz42_1
              try clear hfz42_2
              try clear hfz42_3
              try clear hfz42_4
              try clear hfz42_5
              try clear hfz42_6
              try clear hfz44_0
              try clear hfz44_1
              try clear hfz44_2
              try clear hfz44_3
              try clear hfz44_4
              try clear hfz45_0
              try clear hfz45_1
              try clear hfz45_2
              try clear hfz45_3
              try clear hfz45_4
              try clear hfz45_5
              try clear hfz45_6
              try clear p2
              obtain ⟨x19_2, x20_2, rfl, rfl, HA, HK2, HO_14, BK116, BK117, BK118, HB⟩ := hrel
              cases gk with
              | zero => exact absurd HA.out (by simp [glacislaw18_EmbedMore.l0])
              | succ k2 =>
                have H := HA.out
                clear HA
                simp only [glacislaw18_EmbedMore.l0] at H
                by_cases c47 : x20_2 < (l0_0.length : Int)
                · rw [if_pos c47] at H
                  have c47b0 : decide (x20_2 < (l0_0.length : Int)) = true := decide_eq_true c47
                  clear c47
                  have HC48 := Aside0.mk H
                  clear H
                  have hnb49 := NB116_117.out
                  have hnc49 := NB117_116.out
                  have hnb50 := NB116_118.out
                  have hnc50 := NB118_116.out
                  have hcz51_0 : wr.cell? ⟨gb116, 0, none⟩ = some (.slice A0_0 l0_0.length c0_0) := (blk_cell BK116.out 0).trans rfl
                  have hcz51_1 : wr.cell? ⟨gb116, 1, none⟩ = some (.int .i64 a0_1) := (blk_cell BK116.out 1).trans rfl
                  have hcz51_2 : wr.cell? ⟨gb116, 2, none⟩ = some (.string a0_2) := (blk_cell BK116.out 2).trans rfl
                  have hcz51_3 : wr.cell? ⟨gb116, 3, none⟩ = some (.int .i64 a0_3) := (blk_cell BK116.out 3).trans rfl
                  have hcz51_4 : wr.cell? ⟨gb116, 4, none⟩ = some (.string a0_4) := (blk_cell BK116.out 4).trans rfl
                  have hfz51_0 := blk_frozen BK116.out 0
                  have hfz51_1 := blk_frozen BK116.out 1
                  have hfz51_2 := blk_frozen BK116.out 2
                  have hfz51_3 := blk_frozen BK116.out 3
                  have hfz51_4 := blk_frozen BK116.out 4
                  go_upto_block 1 with (fail)
                  go_cut [19] (fun v19 wc => ∃ (kq : Nat) (x19_47 : Bool), v19 = .bool x19_47 ∧ Aside0 (glacislaw18_EmbedMore.j2 kq a1 a2 t119 y129 t134 t135 x19_47 x20_2 l0_0 a0_1 a0_2 a0_3 a0_4 a3_0 a3_1 a3_2 a3_3 a3_4 a3_5 a3_6 = some r) ∧ Aside0 (kq ≤ k2) ∧ Aside0 (Kd.R k31 31 wc w.heap.size (fun k_ => k_ ≠ gb117 ∧ k_ ≠ gb118) (.slice Ao29 y129.length co29) y129) ∧ Aside0 (wc.heap[gb116]? = some (.cells #[(.slice A0_0 l0_0.length c0_0), .int .i64 a0_1, .string a0_2, .int .i64 a0_3, .string a0_4] 26 (0, 0))) ∧ Aside0 (wc.heap[gb117]? = some (.cells #[.bool a3_0, .int .i64 a3_1, .string a3_2, .string a3_3, .bool a3_4, .int .u32 a3_5, .int .i64 a3_6] 31 (0, 0))) ∧ Aside0 (wc.heap[gb118]? = some (.cells #[.bool a5_0, .int .i64 a5_1, .string a5_2, .string a5_3, .bool a5_4, .int .u32 a5_5, .int .i64 a5_6] 31 (0, 0))) ∧ Aside0 (Below w.heap.size w wc))
                  case first =>
                    have H := HC48.out
                    clear HC48
                    by_cases c52 : x19_2 = true
                    · subst c52
                      have H1 : (glacislaw18_EmbedMore.j2 k2 a1 a2 t119 y129 t134 t135 true x20_2 l0_0 a0_1 a0_2 a0_3 a0_4 a3_0 a3_1 a3_2 a3_3 a3_4 a3_5 a3_6) = some r := by rw [if_pos rfl] at H; exact H
                      clear H
                      have H := H1
                      clear H1
                      have H' := Aside0.mk H
                      clear H
                      go_wp2
                      go_meet
                      case rel => exact ⟨_, (true), (by first | rfl | (simp; done) | (simp [*]; done) | (simp [ne_nil_bool]; done)), H', ⟨by have := HJ11.out; have := HK2.out; first | omega | exact Nat.le_refl _⟩, ⟨by (with_reducible repeat (first | apply Kd.R_alloc | apply Kd.R_drewN | apply Kd.R_drew)); exact HO_14.out⟩, ⟨by (with_reducible repeat (first | refine blk_drewN ?_ _ | refine blk_drew ?_ | refine blk_alloc ?_ _)); exact BK116.out⟩, ⟨by (with_reducible repeat (first | refine blk_drewN ?_ _ | refine blk_drew ?_ | refine blk_alloc ?_ _)); exact BK117.out⟩, ⟨by (with_reducible repeat (first | refine blk_drewN ?_ _ | refine blk_drew ?_ | refine blk_alloc ?_ _)); exact BK118.out⟩, ⟨by repeat (first | (with_reducible first | exact HB.out | apply below_alloc | apply pw_below_drewN | apply below_drew1 | refine below_set ?_ GE116.out | refine below_set ?_ GE117.out | refine below_set ?_ GE118.out) | exact HB.out)⟩⟩
                    · replace c52 := Bool.eq_false_iff.mpr c52
                      subst c52
                      have H1 : (if 0 ≤ x20_2 then (glacislaw18_EmbedMore.j2 k2 a1 a2 t119 y129 t134 t135 ((rd_T45 l0_0 x20_2).f0) x20_2 l0_0 a0_1 a0_2 a0_3 a0_4 a3_0 a3_1 a3_2 a3_3 a3_4 a3_5 a3_6) else (none)) = some r := by rw [if_neg (show ¬ (false = true) by decide)] at H; exact H
                      clear H
                      have H := H1
                      clear H1
                      by_cases c53 : 0 ≤ x20_2
                      · rw [if_pos c53] at H
                        have c53b0 : decide (0 ≤ x20_2) = true := decide_eq_true c53
                        clear c53
                        (first | rw [c53b0] | (simp only [i64_w, i32_w]; rw [c53b0]) | skip)
                        have H' := Aside0.mk H
                        clear H
                        have hnb54 := NB116_117.out
                        have hnc54 := NB117_116.out
                        have hnb55 := NB116_118.out
                        have hnc55 := NB118_116.out
                        have hcz56_0 : wr.cell? ⟨gb116, 0, none⟩ = some (.slice A0_0 l0_0.length c0_0) := (blk_cell BK116.out 0).trans rfl
                        have hcz56_1 : wr.cell? ⟨gb116, 1, none⟩ = some (.int .i64 a0_1) := (blk_cell BK116.out 1).trans rfl
                        have hcz56_2 : wr.cell? ⟨gb116, 2, none⟩ = some (.string a0_2) := (blk_cell BK116.out 2).trans rfl
                        have hcz56_3 : wr.cell? ⟨gb116, 3, none⟩ = some (.int .i64 a0_3) := (blk_cell BK116.out 3).trans rfl
                        have hcz56_4 : wr.cell? ⟨gb116, 4, none⟩ = some (.string a0_4) := (blk_cell BK116.out 4).trans rfl
                        have hfz56_0 := blk_frozen BK116.out 0
                        have hfz56_1 := blk_frozen BK116.out 1
                        have hfz56_2 := blk_frozen BK116.out 2
                        have hfz56_3 := blk_frozen BK116.out 3
                        have hfz56_4 := blk_frozen BK116.out 4
                        have p136 : 0 ≤ (x20_2 : Int) := of_decide_eq_true (by first | (with_reducible assumption) | assumption)
                        have q136 : x20_2 < (l0_0.length : Int) := of_decide_eq_true (by first | (with_reducible assumption) | assumption)
                        obtain ⟨ad136, A136_1, c136_1, A136_3, c136_3, e136, hx136_0, hx136_1, hx136_2, hx136_3, hl136_1, hi136_1, hl136_3, hi136_3⟩ := at_T45 HR0_0.out x20_2 p136 q136
                        cases e136
                        replace hx136_0 := (HB.out.cell (World.block_lt_of_cell? w _ hx136_0)).trans hx136_0
                        replace hx136_1 := (HB.out.cell (World.block_lt_of_cell? w _ hx136_1)).trans hx136_1
                        replace hx136_2 := (HB.out.cell (World.block_lt_of_cell? w _ hx136_2)).trans hx136_2
                        replace hx136_3 := (HB.out.cell (World.block_lt_of_cell? w _ hx136_3)).trans hx136_3
                        have HR136_1 := Aside0.mk hi136_1
                        have HC136_1 := Aside0.mk hl136_1
                        clear hi136_1 hl136_1
                        have HR136_3 := Aside0.mk hi136_3
                        have HC136_3 := Aside0.mk hl136_3
                        clear hi136_3 hl136_3
                        replace p136 := eq_true p136
                        replace q136 := eq_true q136
                        go_wp2
                        go_meet
                        case rel => exact ⟨_, ((rd_T45 l0_0 x20_2).f0), (by first | rfl | (simp; done) | (simp [*]; done) | (simp [ne_nil_bool]; done)), H', ⟨by have := HJ11.out; have := HK2.out; first | omega | exact Nat.le_refl _⟩, ⟨by (with_reducible repeat (first | apply Kd.R_alloc | apply Kd.R_drewN | apply Kd.R_drew)); exact HO_14.out⟩, ⟨by (with_reducible repeat (first | refine blk_drewN ?_ _ | refine blk_drew ?_ | refine blk_alloc ?_ _)); exact BK116.out⟩, ⟨by (with_reducible repeat (first | refine blk_drewN ?_ _ | refine blk_drew ?_ | refine blk_alloc ?_ _)); exact BK117.out⟩, ⟨by (with_reducible repeat (first | refine blk_drewN ?_ _ | refine blk_drew ?_ | refine blk_alloc ?_ _)); exact BK118.out⟩, ⟨by repeat (first | (with_reducible first | exact HB.out | apply below_alloc | apply pw_below_drewN | apply below_drew1 | refine below_set ?_ GE116.out | refine below_set ?_ GE117.out | refine below_set ?_ GE118.out) | exact HB.out)⟩⟩
                      · rw [if_neg c53] at H
                        exact absurd H (by simp)
                  case rest =>
                    clear HC48
                    try clear c1
                    try clear p1
                    try clear q1
                    try clear hx1
                    try clear c2
                    try clear p2
                    try clear c3
                    try clear c4
                    try clear c5
                    try clear c7
                    try clear c8
                    try clear c9
                    try clear c10
                    try clear c11
                    try clear c12
                    try clear c13
                    try clear p13
                    try clear q13
                    try clear hx13
                    try clear c15
                    try clear c26
                    try clear c27
                    try clear c31
                    try clear c34
                    try clear c35
                    try clear c38
                    try clear c39
                    try clear c41
                    try clear c47
                    try clear c47b0
                    try clear c49
                    try clear c50
                    try clear c52
                    try clear c53
                    try clear c53b0
                    try clear c54
                    try clear c55
                    try clear hcz28_0
                    try clear hcz28_1
                    try clear hcz28_2
                    try clear hcz28_3
                    try clear hcz28_4
                    try clear hcz28_5
                    try clear hcz28_6
                    try clear hcz32_0
                    try clear hcz32_1
                    try clear hcz32_2
                    try clear hcz32_3
                    try clear hcz32_4
                    try clear hcz40_0
                    try clear hcz40_1
                    try clear hcz40_2
                    try clear hcz40_3
                    try clear hcz40_4
                    try clear hcz42_0
                    try clear hcz42_1
                    try clear hcz42_2
                    try clear hcz42_3
                    try clear hcz42_4
                    try clear hcz42_5
                    try clear hcz42_6
                    try clear hcz44_0
                    try clear hcz44_1
                    try clear hcz44_2
                    try clear hcz44_3
                    try clear hcz44_4
                    try clear hcz45_0
                    try clear hcz45_1
                    try clear hcz45_2
                    try clear hcz45_3
                    try clear hcz45_4
                    try clear hcz45_5
                    try clear hcz45_6
                    try clear hcz51_0
                    try clear hcz51_1
                    try clear hcz51_2
                    try clear hcz51_3
                    try clear hcz51_4
                    try clear hcz56_0
                    try clear hcz56_1
                    try clear hcz56_2
                    try clear hcz56_3
                    try clear hcz56_4
                    try clear hfz28_0
                    try clear hfz28_1
                    try clear hfz28_2
                    try clear hfz28_3
                    try clear hfz28_4
                    try clear hfz28_5
                    try clear hfz28_6
                    try clear hfz32_0
                    try clear hfz32_1
                    try clear hfz32_2
                    try clear hfz32_3
                    try clear hfz32_4
                    try clear hfz40_0
                    try clear hfz40_1
                    try clear hfz40_2
                    try clear hfz40_3
                    try clear hfz40_4
                    try clear hfz42_0
                    try clear hfz42_1
                    try clear hfz42_2
                    try clear hfz42_3
                    try clear hfz42_4
                    try clear hfz42_5
                    try clear hfz42_6
                    try clear hfz44_0
                    try clear hfz44_1
                    try clear hfz44_2
                    try clear hfz44_3
                    try clear hfz44_4
                    try clear hfz45_0
                    try clear hfz45_1
                    try clear hfz45_2
                    try clear hfz45_3
                    try clear hfz45_4
                    try clear hfz45_5
                    try clear hfz45_6
                    try clear hfz51_0
                    try clear hfz51_1
                    try clear hfz51_2
                    try clear hfz51_3
                    try clear hfz51_4
                    try clear hfz56_0
                    try clear hfz56_1
                    try clear hfz56_2
                    try clear hfz56_3
                    try clear hfz56_4
                    try clear hx136_0
                    try clear hx136_1
                    try clear hx136_2
                    try clear hx136_3
                    try clear p136
                    try clear p2
                    try clear q136
                    obtain ⟨kq, x19_47, rfl, HA, HJ47, HO_14, BK116, BK117, BK118, HB⟩ := hcut
                    cases kq with
                    | zero => exact absurd HA.out (by simp [glacislaw18_EmbedMore.j2])
                    | succ kj47 =>
                      have H := HA.out
                      clear HA
                      simp only [glacislaw18_EmbedMore.j2] at H
                      have H' := Aside0.mk H
                      clear H
                      go_wp2
                      go_roundg kj47
                      case measure => have := HJ11.out; have := HK2.out; have := HJ47.out; omega
                      case rel => exact ⟨(x19_47), (wrap64 (x20_2 + 1)), (by first | rfl | (simp; done) | (simp [*]; done) | (simp [ne_nil_bool]; done)), (by first | rfl | (simp; done) | (simp [*]; done) | (simp [ne_nil_bool]; done)), H', ⟨by have := HJ11.out; have := HK2.out; have := HJ47.out; omega⟩, ⟨by (with_reducible repeat (first | apply Kd.R_alloc | apply Kd.R_drewN | apply Kd.R_drew)); exact HO_14.out⟩, ⟨by (with_reducible repeat (first | refine blk_drewN ?_ _ | refine blk_drew ?_ | refine blk_alloc ?_ _)); exact BK116.out⟩, ⟨by (with_reducible repeat (first | refine blk_drewN ?_ _ | refine blk_drew ?_ | refine blk_alloc ?_ _)); exact BK117.out⟩, ⟨by (with_reducible repeat (first | refine blk_drewN ?_ _ | refine blk_drew ?_ | refine blk_alloc ?_ _)); exact BK118.out⟩, ⟨by repeat (first | (with_reducible first | exact HB.out | apply below_alloc | apply pw_below_drewN | apply below_drew1 | refine below_set ?_ GE116.out | refine below_set ?_ GE117.out | refine below_set ?_ GE118.out) | exact HB.out)⟩⟩
                · rw [if_neg c47] at H
                  have c47b0 : decide (x20_2 < (l0_0.length : Int)) = false := decide_eq_false c47
                  clear c47
                  by_cases c57 : x19_2 = true
                  · subst c57
                    have H1 : ((embed_Frame.f l0_0 a0_1 a0_2 a0_3 a0_4 a2 a3_0 a3_1 a3_2 a3_3 a3_4 a3_5 a3_6 y129).bind fun t137 => (if t137 = t135 then ((embed_Frame.f l0_0 a0_1 a0_2 a0_3 a0_4 a1 a3_0 a3_1 a3_2 a3_3 a3_4 a3_5 a3_6 ([] : List (S31))).bind fun t138 => (if t119 = true then (if t138 = 0 then (if t134 = 0 then (if t135 = 3 then (glacislaw18_EmbedMore.j3 k2 false) else (if t135 = 2 then (glacislaw18_EmbedMore.j3 k2 true) else (glacislaw18_EmbedMore.j3 k2 true))) else (if t135 = 0 then (glacislaw18_EmbedMore.j3 k2 false) else (if t135 = 3 then (glacislaw18_EmbedMore.j3 k2 false) else (if t135 = 2 then (glacislaw18_EmbedMore.j3 k2 true) else (glacislaw18_EmbedMore.j3 k2 true))))) else (glacislaw18_EmbedMore.j3 k2 false)) else (glacislaw18_EmbedMore.j3 k2 false))) else (some false))) = some r := by rw [if_pos rfl] at H; exact H
                    clear H
                    have H := H1
                    clear H1
                    replace H := Option.bind_eq_some_iff.mp H
                    obtain ⟨t137, A580, H⟩ := H
                    replace H : (if t137 = t135 then ((embed_Frame.f l0_0 a0_1 a0_2 a0_3 a0_4 a1 a3_0 a3_1 a3_2 a3_3 a3_4 a3_5 a3_6 ([] : List (S31))).bind fun t138 => (if t119 = true then (if t138 = 0 then (if t134 = 0 then (if t135 = 3 then (glacislaw18_EmbedMore.j3 k2 false) else (if t135 = 2 then (glacislaw18_EmbedMore.j3 k2 true) else (glacislaw18_EmbedMore.j3 k2 true))) else (if t135 = 0 then (glacislaw18_EmbedMore.j3 k2 false) else (if t135 = 3 then (glacislaw18_EmbedMore.j3 k2 false) else (if t135 = 2 then (glacislaw18_EmbedMore.j3 k2 true) else (glacislaw18_EmbedMore.j3 k2 true))))) else (glacislaw18_EmbedMore.j3 k2 false)) else (glacislaw18_EmbedMore.j3 k2 false))) else (some false)) = some r := H
                    have A58 := Aside0.mk A580
                    clear A580
                    by_cases c59 : t137 = t135
                    · rw [if_pos c59] at H
                      have c59b0 : (t137 == t135) = true := beq_iff_eq.mpr c59
                      have c59b1 : (t137 != t135) = false := bne_eq_false_iff_eq.mpr c59
                      clear c59
                      replace H := Option.bind_eq_some_iff.mp H
                      obtain ⟨t138, A600, H⟩ := H
                      replace H : (if t119 = true then (if t138 = 0 then (if t134 = 0 then (if t135 = 3 then (glacislaw18_EmbedMore.j3 k2 false) else (if t135 = 2 then (glacislaw18_EmbedMore.j3 k2 true) else (glacislaw18_EmbedMore.j3 k2 true))) else (if t135 = 0 then (glacislaw18_EmbedMore.j3 k2 false) else (if t135 = 3 then (glacislaw18_EmbedMore.j3 k2 false) else (if t135 = 2 then (glacislaw18_EmbedMore.j3 k2 true) else (glacislaw18_EmbedMore.j3 k2 true))))) else (glacislaw18_EmbedMore.j3 k2 false)) else (glacislaw18_EmbedMore.j3 k2 false)) = some r := H
                      have A60 := Aside0.mk A600
                      clear A600
                      have HC61 := Aside0.mk H
                      clear H
                      have hnb62 := NB116_117.out
                      have hnc62 := NB117_116.out
                      have hnb63 := NB116_118.out
                      have hnc63 := NB118_116.out
                      have hcz64_0 : wr.cell? ⟨gb116, 0, none⟩ = some (.slice A0_0 l0_0.length c0_0) := (blk_cell BK116.out 0).trans rfl
                      have hcz64_1 : wr.cell? ⟨gb116, 1, none⟩ = some (.int .i64 a0_1) := (blk_cell BK116.out 1).trans rfl
                      have hcz64_2 : wr.cell? ⟨gb116, 2, none⟩ = some (.string a0_2) := (blk_cell BK116.out 2).trans rfl
                      have hcz64_3 : wr.cell? ⟨gb116, 3, none⟩ = some (.int .i64 a0_3) := (blk_cell BK116.out 3).trans rfl
                      have hcz64_4 : wr.cell? ⟨gb116, 4, none⟩ = some (.string a0_4) := (blk_cell BK116.out 4).trans rfl
                      have hfz64_0 := blk_frozen BK116.out 0
                      have hfz64_1 := blk_frozen BK116.out 1
                      have hfz64_2 := blk_frozen BK116.out 2
                      have hfz64_3 := blk_frozen BK116.out 3
                      have hfz64_4 := blk_frozen BK116.out 4
                      have hnb65 := NB117_118.out
                      have hnc65 := NB118_117.out
                      have hcz66_0 : wr.cell? ⟨gb117, 0, none⟩ = some (.bool a3_0) := (blk_cell BK117.out 0).trans rfl
                      have hcz66_1 : wr.cell? ⟨gb117, 1, none⟩ = some (.int .i64 a3_1) := (blk_cell BK117.out 1).trans rfl
                      have hcz66_2 : wr.cell? ⟨gb117, 2, none⟩ = some (.string a3_2) := (blk_cell BK117.out 2).trans rfl
                      have hcz66_3 : wr.cell? ⟨gb117, 3, none⟩ = some (.string a3_3) := (blk_cell BK117.out 3).trans rfl
                      have hcz66_4 : wr.cell? ⟨gb117, 4, none⟩ = some (.bool a3_4) := (blk_cell BK117.out 4).trans rfl
                      have hcz66_5 : wr.cell? ⟨gb117, 5, none⟩ = some (.int .u32 a3_5) := (blk_cell BK117.out 5).trans rfl
                      have hcz66_6 : wr.cell? ⟨gb117, 6, none⟩ = some (.int .i64 a3_6) := (blk_cell BK117.out 6).trans rfl
                      have hfz66_0 := blk_frozen BK117.out 0
                      have hfz66_1 := blk_frozen BK117.out 1
                      have hfz66_2 := blk_frozen BK117.out 2
                      have hfz66_3 := blk_frozen BK117.out 3
                      have hfz66_4 := blk_frozen BK117.out 4
                      have hfz66_5 := blk_frozen BK117.out 5
                      have hfz66_6 := blk_frozen BK117.out 6
                      go_upto_region 17 with (first | (go_at_call 15; (with_reducible refine (embed_Frame.calls _ _ l0_0 a0_1 a0_2 a0_3 a0_4 a2 a3_0 a3_1 a3_2 a3_3 a3_4 a3_5 a3_6 _ _ y129 t137 _ ?side1 ?side2 ?side3 ?side4 (Gw.to HG_.out (by repeat (first | (with_reducible first | exact HB.out | apply below_alloc | apply pw_below_drewN | apply below_drew1 | refine below_set ?_ GE116.out | refine below_set ?_ GE117.out | refine below_set ?_ GE118.out) | exact HB.out))) A58.out).mono ?_); (case side1 => repeat (first | exact (Kd.C_below HR0_0.out HB.out) | (with_reducible refine Kd.C_alloc ?_ _) | (with_reducible refine Kd.C_drewN ?_ _) | (with_reducible refine Kd.C_drew ?_))); (case side2 => exact HC0_0.out); (case side3 => repeat (first | exact (Kd.R_reads' HO_14.out).2.2 | (with_reducible refine Kd.C_alloc ?_ _) | (with_reducible refine Kd.C_drewN ?_ _) | (with_reducible refine Kd.C_drew ?_))); (case side4 => exact (Kd.R_reads' HO_14.out).2.1); rintro e w67 ⟨rfl, hb⟩; have n0_ := Aside0.mk (Kd.R_below (by (with_reducible repeat (first | apply Kd.R_alloc | apply Kd.R_drewN | apply Kd.R_drew)); exact HO_14.out) hb); have n1_ := Aside0.mk (blk_below (g := gb116) (o := .cells #[.slice A0_0 l0_0.length c0_0, .int .i64 a0_1, .string a0_2, .int .i64 a0_3, .string a0_4] 26 (0, 0)) (by (with_reducible repeat (first | refine blk_drewN ?_ _ | refine blk_drew ?_ | refine blk_alloc ?_ _)); exact BK116.out) hb); have n2_ := Aside0.mk (blk_below (g := gb117) (o := .cells #[.bool a3_0, .int .i64 a3_1, .string a3_2, .string a3_3, .bool a3_4, .int .u32 a3_5, .int .i64 a3_6] 31 (0, 0)) (by (with_reducible repeat (first | refine blk_drewN ?_ _ | refine blk_drew ?_ | refine blk_alloc ?_ _)); exact BK117.out) hb); have n3_ := Aside0.mk (blk_below (g := gb118) (o := .cells #[.bool a5_0, .int .i64 a5_1, .string a5_2, .string a5_3, .bool a5_4, .int .u32 a5_5, .int .i64 a5_6] 31 (0, 0)) (by (with_reducible repeat (first | refine blk_drewN ?_ _ | refine blk_drew ?_ | refine blk_alloc ?_ _)); exact BK118.out) hb); have n4_ := Aside0.mk (below_step (by repeat (first | (with_reducible first | exact HB.out | apply below_alloc | apply pw_below_drewN | apply below_drew1 | refine below_set ?_ GE116.out | refine below_set ?_ GE117.out | refine below_set ?_ GE118.out) | exact HB.out)) hb); clear HO_14; clear BK116; clear BK117; clear BK118; clear HB; have HO_14 := n0_; have BK116 := n1_; have BK117 := n2_; have BK118 := n3_; have HB := n4_; clear n0_ n1_ n2_ n3_ n4_; (try clear hb); (try clear hb2); (try clear hk); (try clear hi); have hcz68_0 : w67.cell? ⟨gb116, 0, none⟩ = some (.slice A0_0 l0_0.length c0_0) := (blk_cell BK116.out 0).trans rfl; have hcz68_1 : w67.cell? ⟨gb116, 1, none⟩ = some (.int .i64 a0_1) := (blk_cell BK116.out 1).trans rfl; have hcz68_2 : w67.cell? ⟨gb116, 2, none⟩ = some (.string a0_2) := (blk_cell BK116.out 2).trans rfl; have hcz68_3 : w67.cell? ⟨gb116, 3, none⟩ = some (.int .i64 a0_3) := (blk_cell BK116.out 3).trans rfl; have hcz68_4 : w67.cell? ⟨gb116, 4, none⟩ = some (.string a0_4) := (blk_cell BK116.out 4).trans rfl; have hfz68_0 := blk_frozen BK116.out 0; have hfz68_1 := blk_frozen BK116.out 1; have hfz68_2 := blk_frozen BK116.out 2; have hfz68_3 := blk_frozen BK116.out 3; have hfz68_4 := blk_frozen BK116.out 4; have hcz69_0 : w67.cell? ⟨gb117, 0, none⟩ = some (.bool a3_0) := (blk_cell BK117.out 0).trans rfl; have hcz69_1 : w67.cell? ⟨gb117, 1, none⟩ = some (.int .i64 a3_1) := (blk_cell BK117.out 1).trans rfl; have hcz69_2 : w67.cell? ⟨gb117, 2, none⟩ = some (.string a3_2) := (blk_cell BK117.out 2).trans rfl; have hcz69_3 : w67.cell? ⟨gb117, 3, none⟩ = some (.string a3_3) := (blk_cell BK117.out 3).trans rfl; have hcz69_4 : w67.cell? ⟨gb117, 4, none⟩ = some (.bool a3_4) := (blk_cell BK117.out 4).trans rfl; have hcz69_5 : w67.cell? ⟨gb117, 5, none⟩ = some (.int .u32 a3_5) := (blk_cell BK117.out 5).trans rfl; have hcz69_6 : w67.cell? ⟨gb117, 6, none⟩ = some (.int .i64 a3_6) := (blk_cell BK117.out 6).trans rfl; have hfz69_0 := blk_frozen BK117.out 0; have hfz69_1 := blk_frozen BK117.out 1; have hfz69_2 := blk_frozen BK117.out 2; have hfz69_3 := blk_frozen BK117.out 3; have hfz69_4 := blk_frozen BK117.out 4; have hfz69_5 := blk_frozen BK117.out 5; have hfz69_6 := blk_frozen BK117.out 6) | ((with_reducible refine gate_callee (f := 15) rfl ?_); refine goesL_ (some 80) rfl rfl Tryz.func15 (by kernel_rfl) rfl #[.agg #[.slice A0_0 l0_0.length c0_0, .int .i64 a0_1, .string a0_2, .int .i64 a0_3, .string a0_4], .int .i64 a1, .agg #[.bool a3_0, .int .i64 a3_1, .string a3_2, .string a3_3, .bool a3_4, .int .u32 a3_5, .int .i64 a3_6], .slice none 0 0] rfl (by (try simp only [List.map_toArray, List.map_cons, List.map_nil]); first | done | rfl | (simp only [List.length_drop, List.length_take]; rfl)) ?_; (refine (embed_Frame.calls _ _ l0_0 a0_1 a0_2 a0_3 a0_4 a1 a3_0 a3_1 a3_2 a3_3 a3_4 a3_5 a3_6 _ _ ([] : List (S31)) t138 _ ?side1 ?side2 ?side3 ?side4 (Gw.to HG_.out (by repeat (first | (with_reducible first | exact HB.out | apply below_alloc | apply pw_below_drewN | apply below_drew1 | refine below_set ?_ GE116.out | refine below_set ?_ GE117.out | refine below_set ?_ GE118.out) | exact HB.out))) A60.out).mono ?_); (case side1 => repeat (first | exact (Kd.C_below HR0_0.out HB.out) | (with_reducible refine Kd.C_alloc ?_ _) | (with_reducible refine Kd.C_drewN ?_ _) | (with_reducible refine Kd.C_drew ?_))); (case side2 => exact HC0_0.out); (case side3 => exact Kd.C_nil _ _); (case side4 => exact Nat.le_refl _); rintro e w70 ⟨rfl, hb⟩; refine ⟨_, rfl, ?_⟩; have n0_ := Aside0.mk (Kd.R_below (by (with_reducible repeat (first | apply Kd.R_alloc | apply Kd.R_drewN | apply Kd.R_drew)); exact HO_14.out) hb); have n1_ := Aside0.mk (blk_below (g := gb116) (o := .cells #[.slice A0_0 l0_0.length c0_0, .int .i64 a0_1, .string a0_2, .int .i64 a0_3, .string a0_4] 26 (0, 0)) (by (with_reducible repeat (first | refine blk_drewN ?_ _ | refine blk_drew ?_ | refine blk_alloc ?_ _)); exact BK116.out) hb); have n2_ := Aside0.mk (blk_below (g := gb117) (o := .cells #[.bool a3_0, .int .i64 a3_1, .string a3_2, .string a3_3, .bool a3_4, .int .u32 a3_5, .int .i64 a3_6] 31 (0, 0)) (by (with_reducible repeat (first | refine blk_drewN ?_ _ | refine blk_drew ?_ | refine blk_alloc ?_ _)); exact BK117.out) hb); have n3_ := Aside0.mk (blk_below (g := gb118) (o := .cells #[.bool a5_0, .int .i64 a5_1, .string a5_2, .string a5_3, .bool a5_4, .int .u32 a5_5, .int .i64 a5_6] 31 (0, 0)) (by (with_reducible repeat (first | refine blk_drewN ?_ _ | refine blk_drew ?_ | refine blk_alloc ?_ _)); exact BK118.out) hb); have n4_ := Aside0.mk (below_step (by repeat (first | (with_reducible first | exact HB.out | apply below_alloc | apply pw_below_drewN | apply below_drew1 | refine below_set ?_ GE116.out | refine below_set ?_ GE117.out | refine below_set ?_ GE118.out) | exact HB.out)) hb); clear HO_14; clear BK116; clear BK117; clear BK118; clear HB; have HO_14 := n0_; have BK116 := n1_; have BK117 := n2_; have BK118 := n3_; have HB := n4_; clear n0_ n1_ n2_ n3_ n4_; (try clear hb); (try clear hb2); (try clear hk); (try clear hi)))
                      (try simp only [Act.put, List.setIfInBounds_toArray, List.set_cons_zero, List.set_cons_succ])
                      go_cut [12] (fun v12 wc => ∃ (kq : Nat) (x12_60 : Bool), v12 = .bool x12_60 ∧ Aside0 (glacislaw18_EmbedMore.j3 kq x12_60 = some r) ∧ Aside0 (kq ≤ k2) ∧ Aside0 (wc.heap[gb116]? = some (.cells #[(.slice A0_0 l0_0.length c0_0), .int .i64 a0_1, .string a0_2, .int .i64 a0_3, .string a0_4] 26 (0, 0))) ∧ Aside0 (wc.heap[gb117]? = some (.cells #[.bool a3_0, .int .i64 a3_1, .string a3_2, .string a3_3, .bool a3_4, .int .u32 a3_5, .int .i64 a3_6] 31 (0, 0))) ∧ Aside0 (wc.heap[gb118]? = some (.cells #[.bool a5_0, .int .i64 a5_1, .string a5_2, .string a5_3, .bool a5_4, .int .u32 a5_5, .int .i64 a5_6] 31 (0, 0))) ∧ Aside0 (Below w.heap.size w wc))
                      case first =>
                        have H := HC61.out
                        clear HC61
                        by_cases c71 : t119 = true
                        · subst c71
                          have H1 : (if t138 = 0 then (if t134 = 0 then (if t135 = 3 then (glacislaw18_EmbedMore.j3 k2 false) else (if t135 = 2 then (glacislaw18_EmbedMore.j3 k2 true) else (glacislaw18_EmbedMore.j3 k2 true))) else (if t135 = 0 then (glacislaw18_EmbedMore.j3 k2 false) else (if t135 = 3 then (glacislaw18_EmbedMore.j3 k2 false) else (if t135 = 2 then (glacislaw18_EmbedMore.j3 k2 true) else (glacislaw18_EmbedMore.j3 k2 true))))) else (glacislaw18_EmbedMore.j3 k2 false)) = some r := by rw [if_pos rfl] at H; exact H
                          clear H
                          have H := H1
                          clear H1
                          by_cases c72 : t138 = 0
                          · rw [if_pos c72] at H
                            have c72b0 : (t138 == 0) = true := beq_iff_eq.mpr c72
                            have c72b1 : (t138 != 0) = false := bne_eq_false_iff_eq.mpr c72
                            clear c72
                            (first | rw [c72b0] | (simp only [i64_w, i32_w]; rw [c72b0]) | skip)
                            by_cases c73 : t134 = 0
                            · rw [if_pos c73] at H
                              have c73b0 : (t134 == 0) = true := beq_iff_eq.mpr c73
                              have c73b1 : (t134 != 0) = false := bne_eq_false_iff_eq.mpr c73
                              clear c73
                              by_cases c74 : t135 = 3
                              · rw [if_pos c74] at H
                                have c74b0 : (t135 == 3) = true := beq_iff_eq.mpr c74
                                have c74b1 : (t135 != 3) = false := bne_eq_false_iff_eq.mpr c74
                                clear c74
                                have H' := Aside0.mk H
                                clear H
                                go_wp2
                                go_meet
                                case rel => exact ⟨_, (false), (by first | rfl | (simp; done) | (simp [*]; done) | (simp [ne_nil_bool]; done)), H', ⟨by have := HJ11.out; have := HK2.out; first | omega | exact Nat.le_refl _⟩, ⟨by (with_reducible repeat (first | refine blk_drewN ?_ _ | refine blk_drew ?_ | refine blk_alloc ?_ _)); exact BK116.out⟩, ⟨by (with_reducible repeat (first | refine blk_drewN ?_ _ | refine blk_drew ?_ | refine blk_alloc ?_ _)); exact BK117.out⟩, ⟨by (with_reducible repeat (first | refine blk_drewN ?_ _ | refine blk_drew ?_ | refine blk_alloc ?_ _)); exact BK118.out⟩, ⟨by repeat (first | (with_reducible first | exact HB.out | apply below_alloc | apply pw_below_drewN | apply below_drew1 | refine below_set ?_ GE116.out | refine below_set ?_ GE117.out | refine below_set ?_ GE118.out) | exact HB.out)⟩⟩
                              · rw [if_neg c74] at H
                                have c74b0 : (t135 == 3) = false := beq_eq_false_iff_ne.mpr c74
                                have c74b1 : (t135 != 3) = true := bne_iff_ne.mpr c74
                                by_cases c75 : t135 = 2
                                · rw [if_pos c75] at H
                                  have c75b0 : (t135 == 2) = true := beq_iff_eq.mpr c75
                                  have c75b1 : (t135 != 2) = false := bne_eq_false_iff_eq.mpr c75
                                  clear c75
                                  have H' := Aside0.mk H
                                  clear H
                                  go_wp2
                                  go_meet
                                  case rel => exact ⟨_, (true), (by first | rfl | (simp; done) | (simp [*]; done) | (simp [ne_nil_bool]; done)), H', ⟨by have := HJ11.out; have := HK2.out; first | omega | exact Nat.le_refl _⟩, ⟨by (with_reducible repeat (first | refine blk_drewN ?_ _ | refine blk_drew ?_ | refine blk_alloc ?_ _)); exact BK116.out⟩, ⟨by (with_reducible repeat (first | refine blk_drewN ?_ _ | refine blk_drew ?_ | refine blk_alloc ?_ _)); exact BK117.out⟩, ⟨by (with_reducible repeat (first | refine blk_drewN ?_ _ | refine blk_drew ?_ | refine blk_alloc ?_ _)); exact BK118.out⟩, ⟨by repeat (first | (with_reducible first | exact HB.out | apply below_alloc | apply pw_below_drewN | apply below_drew1 | refine below_set ?_ GE116.out | refine below_set ?_ GE117.out | refine below_set ?_ GE118.out) | exact HB.out)⟩⟩
                                · rw [if_neg c75] at H
                                  have c75b0 : (t135 == 2) = false := beq_eq_false_iff_ne.mpr c75
                                  have c75b1 : (t135 != 2) = true := bne_iff_ne.mpr c75
                                  have H' := Aside0.mk H
                                  clear H
                                  go_wp2
                                  go_meet
                                  case rel => exact ⟨_, (true), (by first | rfl | (simp; done) | (simp [*]; done) | (simp [ne_nil_bool]; done)), H', ⟨by have := HJ11.out; have := HK2.out; first | omega | exact Nat.le_refl _⟩, ⟨by (with_reducible repeat (first | refine blk_drewN ?_ _ | refine blk_drew ?_ | refine blk_alloc ?_ _)); exact BK116.out⟩, ⟨by (with_reducible repeat (first | refine blk_drewN ?_ _ | refine blk_drew ?_ | refine blk_alloc ?_ _)); exact BK117.out⟩, ⟨by (with_reducible repeat (first | refine blk_drewN ?_ _ | refine blk_drew ?_ | refine blk_alloc ?_ _)); exact BK118.out⟩, ⟨by repeat (first | (with_reducible first | exact HB.out | apply below_alloc | apply pw_below_drewN | apply below_drew1 | refine below_set ?_ GE116.out | refine below_set ?_ GE117.out | refine below_set ?_ GE118.out) | exact HB.out)⟩⟩
                            · rw [if_neg c73] at H
                              have c73b0 : (t134 == 0) = false := beq_eq_false_iff_ne.mpr c73
                              have c73b1 : (t134 != 0) = true := bne_iff_ne.mpr c73
                              by_cases c76 : t135 = 0
                              · rw [if_pos c76] at H
                                have c76b0 : (t135 == 0) = true := beq_iff_eq.mpr c76
                                have c76b1 : (t135 != 0) = false := bne_eq_false_iff_eq.mpr c76
                                clear c76
                                have H' := Aside0.mk H
                                clear H
                                go_wp2
                                go_meet
                                case rel => exact ⟨_, (false), (by first | rfl | (simp; done) | (simp [*]; done) | (simp [ne_nil_bool]; done)), H', ⟨by have := HJ11.out; have := HK2.out; first | omega | exact Nat.le_refl _⟩, ⟨by (with_reducible repeat (first | refine blk_drewN ?_ _ | refine blk_drew ?_ | refine blk_alloc ?_ _)); exact BK116.out⟩, ⟨by (with_reducible repeat (first | refine blk_drewN ?_ _ | refine blk_drew ?_ | refine blk_alloc ?_ _)); exact BK117.out⟩, ⟨by (with_reducible repeat (first | refine blk_drewN ?_ _ | refine blk_drew ?_ | refine blk_alloc ?_ _)); exact BK118.out⟩, ⟨by repeat (first | (with_reducible first | exact HB.out | apply below_alloc | apply pw_below_drewN | apply below_drew1 | refine below_set ?_ GE116.out | refine below_set ?_ GE117.out | refine below_set ?_ GE118.out) | exact HB.out)⟩⟩
                              · rw [if_neg c76] at H
                                have c76b0 : (t135 == 0) = false := beq_eq_false_iff_ne.mpr c76
                                have c76b1 : (t135 != 0) = true := bne_iff_ne.mpr c76
                                by_cases c77 : t135 = 3
                                · rw [if_pos c77] at H
                                  have c77b0 : (t135 == 3) = true := beq_iff_eq.mpr c77
                                  have c77b1 : (t135 != 3) = false := bne_eq_false_iff_eq.mpr c77
                                  clear c77
                                  have H' := Aside0.mk H
                                  clear H
                                  go_wp2
                                  go_meet
                                  case rel => exact ⟨_, (false), (by first | rfl | (simp; done) | (simp [*]; done) | (simp [ne_nil_bool]; done)), H', ⟨by have := HJ11.out; have := HK2.out; first | omega | exact Nat.le_refl _⟩, ⟨by (with_reducible repeat (first | refine blk_drewN ?_ _ | refine blk_drew ?_ | refine blk_alloc ?_ _)); exact BK116.out⟩, ⟨by (with_reducible repeat (first | refine blk_drewN ?_ _ | refine blk_drew ?_ | refine blk_alloc ?_ _)); exact BK117.out⟩, ⟨by (with_reducible repeat (first | refine blk_drewN ?_ _ | refine blk_drew ?_ | refine blk_alloc ?_ _)); exact BK118.out⟩, ⟨by repeat (first | (with_reducible first | exact HB.out | apply below_alloc | apply pw_below_drewN | apply below_drew1 | refine below_set ?_ GE116.out | refine below_set ?_ GE117.out | refine below_set ?_ GE118.out) | exact HB.out)⟩⟩
                                · rw [if_neg c77] at H
                                  have c77b0 : (t135 == 3) = false := beq_eq_false_iff_ne.mpr c77
                                  have c77b1 : (t135 != 3) = true := bne_iff_ne.mpr c77
                                  by_cases c78 : t135 = 2
                                  · rw [if_pos c78] at H
                                    have c78b0 : (t135 == 2) = true := beq_iff_eq.mpr c78
                                    have c78b1 : (t135 != 2) = false := bne_eq_false_iff_eq.mpr c78
                                    clear c78
                                    have H' := Aside0.mk H
                                    clear H
                                    go_wp2
                                    go_meet
                                    case rel => exact ⟨_, (true), (by first | rfl | (simp; done) | (simp [*]; done) | (simp [ne_nil_bool]; done)), H', ⟨by have := HJ11.out; have := HK2.out; first | omega | exact Nat.le_refl _⟩, ⟨by (with_reducible repeat (first | refine blk_drewN ?_ _ | refine blk_drew ?_ | refine blk_alloc ?_ _)); exact BK116.out⟩, ⟨by (with_reducible repeat (first | refine blk_drewN ?_ _ | refine blk_drew ?_ | refine blk_alloc ?_ _)); exact BK117.out⟩, ⟨by (with_reducible repeat (first | refine blk_drewN ?_ _ | refine blk_drew ?_ | refine blk_alloc ?_ _)); exact BK118.out⟩, ⟨by repeat (first | (with_reducible first | exact HB.out | apply below_alloc | apply pw_below_drewN | apply below_drew1 | refine below_set ?_ GE116.out | refine below_set ?_ GE117.out | refine below_set ?_ GE118.out) | exact HB.out)⟩⟩
                                  · rw [if_neg c78] at H
                                    have c78b0 : (t135 == 2) = false := beq_eq_false_iff_ne.mpr c78
                                    have c78b1 : (t135 != 2) = true := bne_iff_ne.mpr c78
                                    have H' := Aside0.mk H
                                    clear H
                                    go_wp2
                                    go_meet
                                    case rel => exact ⟨_, (true), (by first | rfl | (simp; done) | (simp [*]; done) | (simp [ne_nil_bool]; done)), H', ⟨by have := HJ11.out; have := HK2.out; first | omega | exact Nat.le_refl _⟩, ⟨by (with_reducible repeat (first | refine blk_drewN ?_ _ | refine blk_drew ?_ | refine blk_alloc ?_ _)); exact BK116.out⟩, ⟨by (with_reducible repeat (first | refine blk_drewN ?_ _ | refine blk_drew ?_ | refine blk_alloc ?_ _)); exact BK117.out⟩, ⟨by (with_reducible repeat (first | refine blk_drewN ?_ _ | refine blk_drew ?_ | refine blk_alloc ?_ _)); exact BK118.out⟩, ⟨by repeat (first | (with_reducible first | exact HB.out | apply below_alloc | apply pw_below_drewN | apply below_drew1 | refine below_set ?_ GE116.out | refine below_set ?_ GE117.out | refine below_set ?_ GE118.out) | exact HB.out)⟩⟩
                          · rw [if_neg c72] at H
                            have c72b0 : (t138 == 0) = false := beq_eq_false_iff_ne.mpr c72
                            have c72b1 : (t138 != 0) = true := bne_iff_ne.mpr c72
                            (first | rw [c72b0] | (simp only [i64_w, i32_w]; rw [c72b0]) | skip)
                            have H' := Aside0.mk H
                            clear H
                            go_wp2
                            go_meet
                            case rel => exact ⟨_, (false), (by first | rfl | (simp; done) | (simp [*]; done) | (simp [ne_nil_bool]; done)), H', ⟨by have := HJ11.out; have := HK2.out; first | omega | exact Nat.le_refl _⟩, ⟨by (with_reducible repeat (first | refine blk_drewN ?_ _ | refine blk_drew ?_ | refine blk_alloc ?_ _)); exact BK116.out⟩, ⟨by (with_reducible repeat (first | refine blk_drewN ?_ _ | refine blk_drew ?_ | refine blk_alloc ?_ _)); exact BK117.out⟩, ⟨by (with_reducible repeat (first | refine blk_drewN ?_ _ | refine blk_drew ?_ | refine blk_alloc ?_ _)); exact BK118.out⟩, ⟨by repeat (first | (with_reducible first | exact HB.out | apply below_alloc | apply pw_below_drewN | apply below_drew1 | refine below_set ?_ GE116.out | refine below_set ?_ GE117.out | refine below_set ?_ GE118.out) | exact HB.out)⟩⟩
                        · replace c71 := Bool.eq_false_iff.mpr c71
                          subst c71
                          have H1 : (glacislaw18_EmbedMore.j3 k2 false) = some r := by rw [if_neg (show ¬ (false = true) by decide)] at H; exact H
                          clear H
                          have H := H1
                          clear H1
                          have H' := Aside0.mk H
                          clear H
                          go_wp2
                          go_meet
                          case rel => exact ⟨_, (false), (by first | rfl | (simp; done) | (simp [*]; done) | (simp [ne_nil_bool]; done)), H', ⟨by have := HJ11.out; have := HK2.out; first | omega | exact Nat.le_refl _⟩, ⟨by (with_reducible repeat (first | refine blk_drewN ?_ _ | refine blk_drew ?_ | refine blk_alloc ?_ _)); exact BK116.out⟩, ⟨by (with_reducible repeat (first | refine blk_drewN ?_ _ | refine blk_drew ?_ | refine blk_alloc ?_ _)); exact BK117.out⟩, ⟨by (with_reducible repeat (first | refine blk_drewN ?_ _ | refine blk_drew ?_ | refine blk_alloc ?_ _)); exact BK118.out⟩, ⟨by repeat (first | (with_reducible first | exact HB.out | apply below_alloc | apply pw_below_drewN | apply below_drew1 | refine below_set ?_ GE116.out | refine below_set ?_ GE117.out | refine below_set ?_ GE118.out) | exact HB.out)⟩⟩
                      case rest =>
                        clear HC61
                        try clear c1
                        try clear p1
                        try clear q1
                        try clear hx1
                        try clear c2
                        try clear p2
                        try clear c3
                        try clear c4
                        try clear c5
                        try clear c6
                        try clear p6
                        try clear c7
                        try clear c8
                        try clear c9
                        try clear c10
                        try clear c11
                        try clear c12
                        try clear c13
                        try clear p13
                        try clear q13
                        try clear hx13
                        try clear c15
                        try clear c26
                        try clear c27
                        try clear c31
                        try clear c34
                        try clear c35
                        try clear c38
                        try clear c39
                        try clear c41
                        try clear c47
                        try clear c47b0
                        try clear c49
                        try clear c50
                        try clear c52
                        try clear c53
                        try clear c53b0
                        try clear c54
                        try clear c55
                        try clear c57
                        try clear c59
                        try clear c59b0
                        try clear c59b1
                        try clear c62
                        try clear c63
                        try clear p64
                        try clear c65
                        try clear c71
                        try clear c72
                        try clear c72b0
                        try clear c72b1
                        try clear c73
                        try clear c73b0
                        try clear c73b1
                        try clear c74
                        try clear c74b0
                        try clear c74b1
                        try clear c75
                        try clear c75b0
                        try clear c75b1
                        try clear c76
                        try clear c76b0
                        try clear c76b1
                        try clear c77
                        try clear c77b0
                        try clear c77b1
                        try clear c78
                        try clear c78b0
                        try clear c78b1
                        try clear hcz28_0
                        try clear hcz28_1
                        try clear hcz28_2
                        try clear hcz28_3
                        try clear hcz28_4
                        try clear hcz28_5
                        try clear hcz28_6
                        try clear hcz32_0
                        try clear hcz32_1
                        try clear hcz32_2
                        try clear hcz32_3
                        try clear hcz32_4
                        try clear hcz40_0
                        try clear hcz40_1
                        try clear hcz40_2
                        try clear hcz40_3
                        try clear hcz40_4
                        try clear hcz42_0
                        try clear hcz42_1
                        try clear hcz42_2
                        try clear hcz42_3
                        try clear hcz42_4
                        try clear hcz42_5
                        try clear hcz42_6
                        try clear hcz44_0
                        try clear hcz44_1
                        try clear hcz44_2
                        try clear hcz44_3
                        try clear hcz44_4
                        try clear hcz45_0
                        try clear hcz45_1
                        try clear hcz45_2
                        try clear hcz45_3
                        try clear hcz45_4
                        try clear hcz45_5
                        try clear hcz45_6
                        try clear hcz51_0
                        try clear hcz51_1
                        try clear hcz51_2
                        try clear hcz51_3
                        try clear hcz51_4
                        try clear hcz56_0
                        try clear hcz56_1
                        try clear hcz56_2
                        try clear hcz56_3
                        try clear hcz56_4
                        try clear hcz64_0
                        try clear hcz64_1
                        try clear hcz64_2
                        try clear hcz64_3
                        try clear hcz64_4
                        try clear hcz66_0
                        try clear hcz66_1
                        try clear hcz66_2
                        try clear hcz66_3
                        try clear hcz66_4
                        try clear hcz66_5
                        try clear hcz66_6
                        try clear hcz68_0
                        try clear hcz68_1
                        try clear hcz68_2
                        try clear hcz68_3
                        try clear hcz68_4
                        try clear hcz69_0
                        try clear hcz69_1
                        try clear hcz69_2
                        try clear hcz69_3
                        try clear hcz69_4
                        try clear hcz69_5
                        try clear hcz69_6
                        try clear hfz28_0
                        try clear hfz28_1
                        try clear hfz28_2
                        try clear hfz28_3
                        try clear hfz28_4
                        try clear hfz28_5
                        try clear hfz28_6
                        try clear hfz32_0
                        try clear hfz32_1
                        try clear hfz32_2
                        try clear hfz32_3
                        try clear hfz32_4
                        try clear hfz40_0
                        try clear hfz40_1
                        try clear hfz40_2
                        try clear hfz40_3
                        try clear hfz40_4
                        try clear hfz42_0
                        try clear hfz42_1
                        try clear hfz42_2
                        try clear hfz42_3
                        try clear hfz42_4
                        try clear hfz42_5
                        try clear hfz42_6
                        try clear hfz44_0
                        try clear hfz44_1
                        try clear hfz44_2
                        try clear hfz44_3
                        try clear hfz44_4
                        try clear hfz45_0
                        try clear hfz45_1
                        try clear hfz45_2
                        try clear hfz45_3
                        try clear hfz45_4
                        try clear hfz45_5
                        try clear hfz45_6
                        try clear hfz51_0
                        try clear hfz51_1
                        try clear hfz51_2
                        try clear hfz51_3
                        try clear hfz51_4
                        try clear hfz56_0
                        try clear hfz56_1
                        try clear hfz56_2
                        try clear hfz56_3
                        try clear hfz56_4
                        try clear hfz64_0
                        try clear hfz64_1
                        try clear hfz64_2
                        try clear hfz64_3
                        try clear hfz64_4
                        try clear hfz66_0
                        try clear hfz66_1
                        try clear hfz66_2
                        try clear hfz66_3
                        try clear hfz66_4
                        try clear hfz66_5
                        try clear hfz66_6
                        try clear hfz68_0
                        try clear hfz68_1
                        try clear hfz68_2
                        try clear hfz68_3
                        try clear hfz68_4
                        try clear hfz69_0
                        try clear hfz69_1
                        try clear hfz69_2
                        try clear hfz69_3
                        try clear hfz69_4
                        try clear hfz69_5
                        try clear hfz69_6
                        try clear hx136_0
                        try clear hx136_1
                        try clear hx136_2
                        try clear hx136_3
                        try clear p1
                        try clear p13
                        try clear p136
                        try clear p2
                        try clear q1
                        try clear q13
                        try clear q136
                        obtain ⟨kq, x12_60, rfl, HA, HJ60, BK116, BK117, BK118, HB⟩ := hcut
                        cases kq with
                        | zero => exact absurd HA.out (by simp [glacislaw18_EmbedMore.j3])
                        | succ kj60 =>
                          have H := HA.out
                          clear HA
                          simp only [glacislaw18_EmbedMore.j3] at H
                          obtain rfl := Option.some.inj H
                          go_wp2
                          go_ret
                          exact ⟨by first | rfl | (simp [errW_none, errW_some] <;> rfl) | (simp [*, errW_none, errW_some] <;> rfl), by repeat (first | (with_reducible first | exact HB.out | apply below_alloc | apply pw_below_drewN | apply below_drew1 | refine below_set ?_ GE116.out | refine below_set ?_ GE117.out | refine below_set ?_ GE118.out) | exact HB.out)⟩
                    · rw [if_neg c59] at H
                      have c59b0 : (t137 == t135) = false := beq_eq_false_iff_ne.mpr c59
                      have c59b1 : (t137 != t135) = true := bne_iff_ne.mpr c59
                      obtain rfl := Option.some.inj H
                      have hnb79 := NB116_117.out
                      have hnc79 := NB117_116.out
                      have hnb80 := NB116_118.out
                      have hnc80 := NB118_116.out
                      have hcz81_0 : wr.cell? ⟨gb116, 0, none⟩ = some (.slice A0_0 l0_0.length c0_0) := (blk_cell BK116.out 0).trans rfl
                      have hcz81_1 : wr.cell? ⟨gb116, 1, none⟩ = some (.int .i64 a0_1) := (blk_cell BK116.out 1).trans rfl
                      have hcz81_2 : wr.cell? ⟨gb116, 2, none⟩ = some (.string a0_2) := (blk_cell BK116.out 2).trans rfl
                      have hcz81_3 : wr.cell? ⟨gb116, 3, none⟩ = some (.int .i64 a0_3) := (blk_cell BK116.out 3).trans rfl
                      have hcz81_4 : wr.cell? ⟨gb116, 4, none⟩ = some (.string a0_4) := (blk_cell BK116.out 4).trans rfl
                      have hfz81_0 := blk_frozen BK116.out 0
                      have hfz81_1 := blk_frozen BK116.out 1
                      have hfz81_2 := blk_frozen BK116.out 2
                      have hfz81_3 := blk_frozen BK116.out 3
                      have hfz81_4 := blk_frozen BK116.out 4
                      have hnb82 := NB117_118.out
                      have hnc82 := NB118_117.out
                      have hcz83_0 : wr.cell? ⟨gb117, 0, none⟩ = some (.bool a3_0) := (blk_cell BK117.out 0).trans rfl
                      have hcz83_1 : wr.cell? ⟨gb117, 1, none⟩ = some (.int .i64 a3_1) := (blk_cell BK117.out 1).trans rfl
                      have hcz83_2 : wr.cell? ⟨gb117, 2, none⟩ = some (.string a3_2) := (blk_cell BK117.out 2).trans rfl
                      have hcz83_3 : wr.cell? ⟨gb117, 3, none⟩ = some (.string a3_3) := (blk_cell BK117.out 3).trans rfl
                      have hcz83_4 : wr.cell? ⟨gb117, 4, none⟩ = some (.bool a3_4) := (blk_cell BK117.out 4).trans rfl
                      have hcz83_5 : wr.cell? ⟨gb117, 5, none⟩ = some (.int .u32 a3_5) := (blk_cell BK117.out 5).trans rfl
                      have hcz83_6 : wr.cell? ⟨gb117, 6, none⟩ = some (.int .i64 a3_6) := (blk_cell BK117.out 6).trans rfl
                      have hfz83_0 := blk_frozen BK117.out 0
                      have hfz83_1 := blk_frozen BK117.out 1
                      have hfz83_2 := blk_frozen BK117.out 2
                      have hfz83_3 := blk_frozen BK117.out 3
                      have hfz83_4 := blk_frozen BK117.out 4
                      have hfz83_5 := blk_frozen BK117.out 5
                      have hfz83_6 := blk_frozen BK117.out 6
                      go_wp2_with (first | (go_at_call 15; (with_reducible refine (embed_Frame.calls _ _ l0_0 a0_1 a0_2 a0_3 a0_4 a2 a3_0 a3_1 a3_2 a3_3 a3_4 a3_5 a3_6 _ _ y129 t137 _ ?side1 ?side2 ?side3 ?side4 (Gw.to HG_.out (by repeat (first | (with_reducible first | exact HB.out | apply below_alloc | apply pw_below_drewN | apply below_drew1 | refine below_set ?_ GE116.out | refine below_set ?_ GE117.out | refine below_set ?_ GE118.out) | exact HB.out))) A58.out).mono ?_); (case side1 => repeat (first | exact (Kd.C_below HR0_0.out HB.out) | (with_reducible refine Kd.C_alloc ?_ _) | (with_reducible refine Kd.C_drewN ?_ _) | (with_reducible refine Kd.C_drew ?_))); (case side2 => exact HC0_0.out); (case side3 => repeat (first | exact (Kd.R_reads' HO_14.out).2.2 | (with_reducible refine Kd.C_alloc ?_ _) | (with_reducible refine Kd.C_drewN ?_ _) | (with_reducible refine Kd.C_drew ?_))); (case side4 => exact (Kd.R_reads' HO_14.out).2.1); rintro e w84 ⟨rfl, hb⟩; have n0_ := Aside0.mk (Kd.R_below (by (with_reducible repeat (first | apply Kd.R_alloc | apply Kd.R_drewN | apply Kd.R_drew)); exact HO_14.out) hb); have n1_ := Aside0.mk (blk_below (g := gb116) (o := .cells #[.slice A0_0 l0_0.length c0_0, .int .i64 a0_1, .string a0_2, .int .i64 a0_3, .string a0_4] 26 (0, 0)) (by (with_reducible repeat (first | refine blk_drewN ?_ _ | refine blk_drew ?_ | refine blk_alloc ?_ _)); exact BK116.out) hb); have n2_ := Aside0.mk (blk_below (g := gb117) (o := .cells #[.bool a3_0, .int .i64 a3_1, .string a3_2, .string a3_3, .bool a3_4, .int .u32 a3_5, .int .i64 a3_6] 31 (0, 0)) (by (with_reducible repeat (first | refine blk_drewN ?_ _ | refine blk_drew ?_ | refine blk_alloc ?_ _)); exact BK117.out) hb); have n3_ := Aside0.mk (blk_below (g := gb118) (o := .cells #[.bool a5_0, .int .i64 a5_1, .string a5_2, .string a5_3, .bool a5_4, .int .u32 a5_5, .int .i64 a5_6] 31 (0, 0)) (by (with_reducible repeat (first | refine blk_drewN ?_ _ | refine blk_drew ?_ | refine blk_alloc ?_ _)); exact BK118.out) hb); have n4_ := Aside0.mk (below_step (by repeat (first | (with_reducible first | exact HB.out | apply below_alloc | apply pw_below_drewN | apply below_drew1 | refine below_set ?_ GE116.out | refine below_set ?_ GE117.out | refine below_set ?_ GE118.out) | exact HB.out)) hb); clear HO_14; clear BK116; clear BK117; clear BK118; clear HB; have HO_14 := n0_; have BK116 := n1_; have BK117 := n2_; have BK118 := n3_; have HB := n4_; clear n0_ n1_ n2_ n3_ n4_; (try clear hb); (try clear hb2); (try clear hk); (try clear hi)))
                      go_ret
                      exact ⟨by first | rfl | (simp [errW_none, errW_some] <;> rfl) | (simp [*, errW_none, errW_some] <;> rfl), by repeat (first | (with_reducible first | exact HB.out | apply below_alloc | apply pw_below_drewN | apply below_drew1 | refine below_set ?_ GE116.out | refine below_set ?_ GE117.out | refine below_set ?_ GE118.out) | exact HB.out)⟩
                  · replace c57 := Bool.eq_false_iff.mpr c57
                    subst c57
                    have H1 : ((embed_Frame.f l0_0 a0_1 a0_2 a0_3 a0_4 a1 a3_0 a3_1 a3_2 a3_3 a3_4 a3_5 a3_6 ([] : List (S31))).bind fun t139 => (if t119 = true then (if t139 = 0 then (if t134 = 0 then (if t135 = 3 then (if t135 = 2 then (glacislaw18_EmbedMore.j4 k2 false) else (glacislaw18_EmbedMore.j4 k2 true)) else (if t135 = 2 then (glacislaw18_EmbedMore.j4 k2 false) else (glacislaw18_EmbedMore.j4 k2 true))) else (if t135 = 0 then (glacislaw18_EmbedMore.j4 k2 false) else (if t135 = 3 then (if t135 = 2 then (glacislaw18_EmbedMore.j4 k2 false) else (glacislaw18_EmbedMore.j4 k2 true)) else (if t135 = 2 then (glacislaw18_EmbedMore.j4 k2 false) else (glacislaw18_EmbedMore.j4 k2 true))))) else (glacislaw18_EmbedMore.j4 k2 false)) else (glacislaw18_EmbedMore.j4 k2 false))) = some r := by rw [if_neg (show ¬ (false = true) by decide)] at H; exact H
                    clear H
                    have H := H1
                    clear H1
                    replace H := Option.bind_eq_some_iff.mp H
                    obtain ⟨t139, A850, H⟩ := H
                    replace H : (if t119 = true then (if t139 = 0 then (if t134 = 0 then (if t135 = 3 then (if t135 = 2 then (glacislaw18_EmbedMore.j4 k2 false) else (glacislaw18_EmbedMore.j4 k2 true)) else (if t135 = 2 then (glacislaw18_EmbedMore.j4 k2 false) else (glacislaw18_EmbedMore.j4 k2 true))) else (if t135 = 0 then (glacislaw18_EmbedMore.j4 k2 false) else (if t135 = 3 then (if t135 = 2 then (glacislaw18_EmbedMore.j4 k2 false) else (glacislaw18_EmbedMore.j4 k2 true)) else (if t135 = 2 then (glacislaw18_EmbedMore.j4 k2 false) else (glacislaw18_EmbedMore.j4 k2 true))))) else (glacislaw18_EmbedMore.j4 k2 false)) else (glacislaw18_EmbedMore.j4 k2 false)) = some r := H
                    have A85 := Aside0.mk A850
                    clear A850
                    have HC86 := Aside0.mk H
                    clear H
                    have hnb87 := NB116_117.out
                    have hnc87 := NB117_116.out
                    have hnb88 := NB116_118.out
                    have hnc88 := NB118_116.out
                    have hcz89_0 : wr.cell? ⟨gb116, 0, none⟩ = some (.slice A0_0 l0_0.length c0_0) := (blk_cell BK116.out 0).trans rfl
                    have hcz89_1 : wr.cell? ⟨gb116, 1, none⟩ = some (.int .i64 a0_1) := (blk_cell BK116.out 1).trans rfl
                    have hcz89_2 : wr.cell? ⟨gb116, 2, none⟩ = some (.string a0_2) := (blk_cell BK116.out 2).trans rfl
                    have hcz89_3 : wr.cell? ⟨gb116, 3, none⟩ = some (.int .i64 a0_3) := (blk_cell BK116.out 3).trans rfl
                    have hcz89_4 : wr.cell? ⟨gb116, 4, none⟩ = some (.string a0_4) := (blk_cell BK116.out 4).trans rfl
                    have hfz89_0 := blk_frozen BK116.out 0
                    have hfz89_1 := blk_frozen BK116.out 1
                    have hfz89_2 := blk_frozen BK116.out 2
                    have hfz89_3 := blk_frozen BK116.out 3
                    have hfz89_4 := blk_frozen BK116.out 4
                    have hnb90 := NB117_118.out
                    have hnc90 := NB118_117.out
                    have hcz91_0 : wr.cell? ⟨gb117, 0, none⟩ = some (.bool a3_0) := (blk_cell BK117.out 0).trans rfl
                    have hcz91_1 : wr.cell? ⟨gb117, 1, none⟩ = some (.int .i64 a3_1) := (blk_cell BK117.out 1).trans rfl
                    have hcz91_2 : wr.cell? ⟨gb117, 2, none⟩ = some (.string a3_2) := (blk_cell BK117.out 2).trans rfl
                    have hcz91_3 : wr.cell? ⟨gb117, 3, none⟩ = some (.string a3_3) := (blk_cell BK117.out 3).trans rfl
                    have hcz91_4 : wr.cell? ⟨gb117, 4, none⟩ = some (.bool a3_4) := (blk_cell BK117.out 4).trans rfl
                    have hcz91_5 : wr.cell? ⟨gb117, 5, none⟩ = some (.int .u32 a3_5) := (blk_cell BK117.out 5).trans rfl
                    have hcz91_6 : wr.cell? ⟨gb117, 6, none⟩ = some (.int .i64 a3_6) := (blk_cell BK117.out 6).trans rfl
                    have hfz91_0 := blk_frozen BK117.out 0
                    have hfz91_1 := blk_frozen BK117.out 1
                    have hfz91_2 := blk_frozen BK117.out 2
                    have hfz91_3 := blk_frozen BK117.out 3
                    have hfz91_4 := blk_frozen BK117.out 4
                    have hfz91_5 := blk_frozen BK117.out 5
                    have hfz91_6 := blk_frozen BK117.out 6
                    go_upto_region 17 with (first | ((with_reducible refine gate_callee (f := 15) rfl ?_); refine goesL_ (some 80) rfl rfl Tryz.func15 (by kernel_rfl) rfl #[.agg #[.slice A0_0 l0_0.length c0_0, .int .i64 a0_1, .string a0_2, .int .i64 a0_3, .string a0_4], .int .i64 a1, .agg #[.bool a3_0, .int .i64 a3_1, .string a3_2, .string a3_3, .bool a3_4, .int .u32 a3_5, .int .i64 a3_6], .slice none 0 0] rfl (by (try simp only [List.map_toArray, List.map_cons, List.map_nil]); first | done | rfl | (simp only [List.length_drop, List.length_take]; rfl)) ?_; (refine (embed_Frame.calls _ _ l0_0 a0_1 a0_2 a0_3 a0_4 a1 a3_0 a3_1 a3_2 a3_3 a3_4 a3_5 a3_6 _ _ ([] : List (S31)) t139 _ ?side1 ?side2 ?side3 ?side4 (Gw.to HG_.out (by repeat (first | (with_reducible first | exact HB.out | apply below_alloc | apply pw_below_drewN | apply below_drew1 | refine below_set ?_ GE116.out | refine below_set ?_ GE117.out | refine below_set ?_ GE118.out) | exact HB.out))) A85.out).mono ?_); (case side1 => repeat (first | exact (Kd.C_below HR0_0.out HB.out) | (with_reducible refine Kd.C_alloc ?_ _) | (with_reducible refine Kd.C_drewN ?_ _) | (with_reducible refine Kd.C_drew ?_))); (case side2 => exact HC0_0.out); (case side3 => exact Kd.C_nil _ _); (case side4 => exact Nat.le_refl _); rintro e w92 ⟨rfl, hb⟩; refine ⟨_, rfl, ?_⟩; have n0_ := Aside0.mk (Kd.R_below (by (with_reducible repeat (first | apply Kd.R_alloc | apply Kd.R_drewN | apply Kd.R_drew)); exact HO_14.out) hb); have n1_ := Aside0.mk (blk_below (g := gb116) (o := .cells #[.slice A0_0 l0_0.length c0_0, .int .i64 a0_1, .string a0_2, .int .i64 a0_3, .string a0_4] 26 (0, 0)) (by (with_reducible repeat (first | refine blk_drewN ?_ _ | refine blk_drew ?_ | refine blk_alloc ?_ _)); exact BK116.out) hb); have n2_ := Aside0.mk (blk_below (g := gb117) (o := .cells #[.bool a3_0, .int .i64 a3_1, .string a3_2, .string a3_3, .bool a3_4, .int .u32 a3_5, .int .i64 a3_6] 31 (0, 0)) (by (with_reducible repeat (first | refine blk_drewN ?_ _ | refine blk_drew ?_ | refine blk_alloc ?_ _)); exact BK117.out) hb); have n3_ := Aside0.mk (blk_below (g := gb118) (o := .cells #[.bool a5_0, .int .i64 a5_1, .string a5_2, .string a5_3, .bool a5_4, .int .u32 a5_5, .int .i64 a5_6] 31 (0, 0)) (by (with_reducible repeat (first | refine blk_drewN ?_ _ | refine blk_drew ?_ | refine blk_alloc ?_ _)); exact BK118.out) hb); have n4_ := Aside0.mk (below_step (by repeat (first | (with_reducible first | exact HB.out | apply below_alloc | apply pw_below_drewN | apply below_drew1 | refine below_set ?_ GE116.out | refine below_set ?_ GE117.out | refine below_set ?_ GE118.out) | exact HB.out)) hb); clear HO_14; clear BK116; clear BK117; clear BK118; clear HB; have HO_14 := n0_; have BK116 := n1_; have BK117 := n2_; have BK118 := n3_; have HB := n4_; clear n0_ n1_ n2_ n3_ n4_; (try clear hb); (try clear hb2); (try clear hk); (try clear hi)))
                    (try simp only [Act.put, List.setIfInBounds_toArray, List.set_cons_zero, List.set_cons_succ])
                    go_cut [12] (fun v12 wc => ∃ (kq : Nat) (x12_85 : Bool), v12 = .bool x12_85 ∧ Aside0 (glacislaw18_EmbedMore.j4 kq x12_85 = some r) ∧ Aside0 (kq ≤ k2) ∧ Aside0 (wc.heap[gb116]? = some (.cells #[(.slice A0_0 l0_0.length c0_0), .int .i64 a0_1, .string a0_2, .int .i64 a0_3, .string a0_4] 26 (0, 0))) ∧ Aside0 (wc.heap[gb117]? = some (.cells #[.bool a3_0, .int .i64 a3_1, .string a3_2, .string a3_3, .bool a3_4, .int .u32 a3_5, .int .i64 a3_6] 31 (0, 0))) ∧ Aside0 (wc.heap[gb118]? = some (.cells #[.bool a5_0, .int .i64 a5_1, .string a5_2, .string a5_3, .bool a5_4, .int .u32 a5_5, .int .i64 a5_6] 31 (0, 0))) ∧ Aside0 (Below w.heap.size w wc))
                    case first =>
                      have H := HC86.out
                      clear HC86
                      by_cases c93 : t119 = true
                      · subst c93
                        have H1 : (if t139 = 0 then (if t134 = 0 then (if t135 = 3 then (if t135 = 2 then (glacislaw18_EmbedMore.j4 k2 false) else (glacislaw18_EmbedMore.j4 k2 true)) else (if t135 = 2 then (glacislaw18_EmbedMore.j4 k2 false) else (glacislaw18_EmbedMore.j4 k2 true))) else (if t135 = 0 then (glacislaw18_EmbedMore.j4 k2 false) else (if t135 = 3 then (if t135 = 2 then (glacislaw18_EmbedMore.j4 k2 false) else (glacislaw18_EmbedMore.j4 k2 true)) else (if t135 = 2 then (glacislaw18_EmbedMore.j4 k2 false) else (glacislaw18_EmbedMore.j4 k2 true))))) else (glacislaw18_EmbedMore.j4 k2 false)) = some r := by rw [if_pos rfl] at H; exact H
                        clear H
                        have H := H1
                        clear H1
                        by_cases c94 : t139 = 0
                        · rw [if_pos c94] at H
                          have c94b0 : (t139 == 0) = true := beq_iff_eq.mpr c94
                          have c94b1 : (t139 != 0) = false := bne_eq_false_iff_eq.mpr c94
                          clear c94
                          (first | rw [c94b0] | (simp only [i64_w, i32_w]; rw [c94b0]) | skip)
                          by_cases c95 : t134 = 0
                          · rw [if_pos c95] at H
                            have c95b0 : (t134 == 0) = true := beq_iff_eq.mpr c95
                            have c95b1 : (t134 != 0) = false := bne_eq_false_iff_eq.mpr c95
                            clear c95
                            by_cases c96 : t135 = 3
                            · rw [if_pos c96] at H
                              have c96b0 : (t135 == 3) = true := beq_iff_eq.mpr c96
                              have c96b1 : (t135 != 3) = false := bne_eq_false_iff_eq.mpr c96
                              clear c96
                              by_cases c97 : t135 = 2
                              · rw [if_pos c97] at H
                                have c97b0 : (t135 == 2) = true := beq_iff_eq.mpr c97
                                have c97b1 : (t135 != 2) = false := bne_eq_false_iff_eq.mpr c97
                                clear c97
                                have H' := Aside0.mk H
                                clear H
                                go_wp2
                                go_meet
                                case rel => exact ⟨_, (false), (by first | rfl | (simp; done) | (simp [*]; done) | (simp [ne_nil_bool]; done)), H', ⟨by have := HJ11.out; have := HK2.out; first | omega | exact Nat.le_refl _⟩, ⟨by (with_reducible repeat (first | refine blk_drewN ?_ _ | refine blk_drew ?_ | refine blk_alloc ?_ _)); exact BK116.out⟩, ⟨by (with_reducible repeat (first | refine blk_drewN ?_ _ | refine blk_drew ?_ | refine blk_alloc ?_ _)); exact BK117.out⟩, ⟨by (with_reducible repeat (first | refine blk_drewN ?_ _ | refine blk_drew ?_ | refine blk_alloc ?_ _)); exact BK118.out⟩, ⟨by repeat (first | (with_reducible first | exact HB.out | apply below_alloc | apply pw_below_drewN | apply below_drew1 | refine below_set ?_ GE116.out | refine below_set ?_ GE117.out | refine below_set ?_ GE118.out) | exact HB.out)⟩⟩
                              · rw [if_neg c97] at H
                                have c97b0 : (t135 == 2) = false := beq_eq_false_iff_ne.mpr c97
                                have c97b1 : (t135 != 2) = true := bne_iff_ne.mpr c97
                                have H' := Aside0.mk H
                                clear H
                                go_wp2
                                go_meet
                                case rel => exact ⟨_, (true), (by first | rfl | (simp; done) | (simp [*]; done) | (simp [ne_nil_bool]; done)), H', ⟨by have := HJ11.out; have := HK2.out; first | omega | exact Nat.le_refl _⟩, ⟨by (with_reducible repeat (first | refine blk_drewN ?_ _ | refine blk_drew ?_ | refine blk_alloc ?_ _)); exact BK116.out⟩, ⟨by (with_reducible repeat (first | refine blk_drewN ?_ _ | refine blk_drew ?_ | refine blk_alloc ?_ _)); exact BK117.out⟩, ⟨by (with_reducible repeat (first | refine blk_drewN ?_ _ | refine blk_drew ?_ | refine blk_alloc ?_ _)); exact BK118.out⟩, ⟨by repeat (first | (with_reducible first | exact HB.out | apply below_alloc | apply pw_below_drewN | apply below_drew1 | refine below_set ?_ GE116.out | refine below_set ?_ GE117.out | refine below_set ?_ GE118.out) | exact HB.out)⟩⟩
                            · rw [if_neg c96] at H
                              have c96b0 : (t135 == 3) = false := beq_eq_false_iff_ne.mpr c96
                              have c96b1 : (t135 != 3) = true := bne_iff_ne.mpr c96
                              by_cases c98 : t135 = 2
                              · rw [if_pos c98] at H
                                have c98b0 : (t135 == 2) = true := beq_iff_eq.mpr c98
                                have c98b1 : (t135 != 2) = false := bne_eq_false_iff_eq.mpr c98
                                clear c98
                                have H' := Aside0.mk H
                                clear H
                                go_wp2
                                go_meet
                                case rel => exact ⟨_, (false), (by first | rfl | (simp; done) | (simp [*]; done) | (simp [ne_nil_bool]; done)), H', ⟨by have := HJ11.out; have := HK2.out; first | omega | exact Nat.le_refl _⟩, ⟨by (with_reducible repeat (first | refine blk_drewN ?_ _ | refine blk_drew ?_ | refine blk_alloc ?_ _)); exact BK116.out⟩, ⟨by (with_reducible repeat (first | refine blk_drewN ?_ _ | refine blk_drew ?_ | refine blk_alloc ?_ _)); exact BK117.out⟩, ⟨by (with_reducible repeat (first | refine blk_drewN ?_ _ | refine blk_drew ?_ | refine blk_alloc ?_ _)); exact BK118.out⟩, ⟨by repeat (first | (with_reducible first | exact HB.out | apply below_alloc | apply pw_below_drewN | apply below_drew1 | refine below_set ?_ GE116.out | refine below_set ?_ GE117.out | refine below_set ?_ GE118.out) | exact HB.out)⟩⟩
                              · rw [if_neg c98] at H
                                have c98b0 : (t135 == 2) = false := beq_eq_false_iff_ne.mpr c98
                                have c98b1 : (t135 != 2) = true := bne_iff_ne.mpr c98
                                have H' := Aside0.mk H
                                clear H
                                go_wp2
                                go_meet
                                case rel => exact ⟨_, (true), (by first | rfl | (simp; done) | (simp [*]; done) | (simp [ne_nil_bool]; done)), H', ⟨by have := HJ11.out; have := HK2.out; first | omega | exact Nat.le_refl _⟩, ⟨by (with_reducible repeat (first | refine blk_drewN ?_ _ | refine blk_drew ?_ | refine blk_alloc ?_ _)); exact BK116.out⟩, ⟨by (with_reducible repeat (first | refine blk_drewN ?_ _ | refine blk_drew ?_ | refine blk_alloc ?_ _)); exact BK117.out⟩, ⟨by (with_reducible repeat (first | refine blk_drewN ?_ _ | refine blk_drew ?_ | refine blk_alloc ?_ _)); exact BK118.out⟩, ⟨by repeat (first | (with_reducible first | exact HB.out | apply below_alloc | apply pw_below_drewN | apply below_drew1 | refine below_set ?_ GE116.out | refine below_set ?_ GE117.out | refine below_set ?_ GE118.out) | exact HB.out)⟩⟩
                          · rw [if_neg c95] at H
                            have c95b0 : (t134 == 0) = false := beq_eq_false_iff_ne.mpr c95
                            have c95b1 : (t134 != 0) = true := bne_iff_ne.mpr c95
                            by_cases c99 : t135 = 0
                            · rw [if_pos c99] at H
                              have c99b0 : (t135 == 0) = true := beq_iff_eq.mpr c99
                              have c99b1 : (t135 != 0) = false := bne_eq_false_iff_eq.mpr c99
                              clear c99
                              have H' := Aside0.mk H
                              clear H
                              go_wp2
                              go_meet
                              case rel => exact ⟨_, (false), (by first | rfl | (simp; done) | (simp [*]; done) | (simp [ne_nil_bool]; done)), H', ⟨by have := HJ11.out; have := HK2.out; first | omega | exact Nat.le_refl _⟩, ⟨by (with_reducible repeat (first | refine blk_drewN ?_ _ | refine blk_drew ?_ | refine blk_alloc ?_ _)); exact BK116.out⟩, ⟨by (with_reducible repeat (first | refine blk_drewN ?_ _ | refine blk_drew ?_ | refine blk_alloc ?_ _)); exact BK117.out⟩, ⟨by (with_reducible repeat (first | refine blk_drewN ?_ _ | refine blk_drew ?_ | refine blk_alloc ?_ _)); exact BK118.out⟩, ⟨by repeat (first | (with_reducible first | exact HB.out | apply below_alloc | apply pw_below_drewN | apply below_drew1 | refine below_set ?_ GE116.out | refine below_set ?_ GE117.out | refine below_set ?_ GE118.out) | exact HB.out)⟩⟩
                            · rw [if_neg c99] at H
                              have c99b0 : (t135 == 0) = false := beq_eq_false_iff_ne.mpr c99
                              have c99b1 : (t135 != 0) = true := bne_iff_ne.mpr c99
                              by_cases c100 : t135 = 3
                              · rw [if_pos c100] at H
                                have c100b0 : (t135 == 3) = true := beq_iff_eq.mpr c100
                                have c100b1 : (t135 != 3) = false := bne_eq_false_iff_eq.mpr c100
                                clear c100
                                by_cases c101 : t135 = 2
                                · rw [if_pos c101] at H
                                  have c101b0 : (t135 == 2) = true := beq_iff_eq.mpr c101
                                  have c101b1 : (t135 != 2) = false := bne_eq_false_iff_eq.mpr c101
                                  clear c101
                                  have H' := Aside0.mk H
                                  clear H
                                  go_wp2
                                  go_meet
                                  case rel => exact ⟨_, (false), (by first | rfl | (simp; done) | (simp [*]; done) | (simp [ne_nil_bool]; done)), H', ⟨by have := HJ11.out; have := HK2.out; first | omega | exact Nat.le_refl _⟩, ⟨by (with_reducible repeat (first | refine blk_drewN ?_ _ | refine blk_drew ?_ | refine blk_alloc ?_ _)); exact BK116.out⟩, ⟨by (with_reducible repeat (first | refine blk_drewN ?_ _ | refine blk_drew ?_ | refine blk_alloc ?_ _)); exact BK117.out⟩, ⟨by (with_reducible repeat (first | refine blk_drewN ?_ _ | refine blk_drew ?_ | refine blk_alloc ?_ _)); exact BK118.out⟩, ⟨by repeat (first | (with_reducible first | exact HB.out | apply below_alloc | apply pw_below_drewN | apply below_drew1 | refine below_set ?_ GE116.out | refine below_set ?_ GE117.out | refine below_set ?_ GE118.out) | exact HB.out)⟩⟩
                                · rw [if_neg c101] at H
                                  have c101b0 : (t135 == 2) = false := beq_eq_false_iff_ne.mpr c101
                                  have c101b1 : (t135 != 2) = true := bne_iff_ne.mpr c101
                                  have H' := Aside0.mk H
                                  clear H
                                  go_wp2
                                  go_meet
                                  case rel => exact ⟨_, (true), (by first | rfl | (simp; done) | (simp [*]; done) | (simp [ne_nil_bool]; done)), H', ⟨by have := HJ11.out; have := HK2.out; first | omega | exact Nat.le_refl _⟩, ⟨by (with_reducible repeat (first | refine blk_drewN ?_ _ | refine blk_drew ?_ | refine blk_alloc ?_ _)); exact BK116.out⟩, ⟨by (with_reducible repeat (first | refine blk_drewN ?_ _ | refine blk_drew ?_ | refine blk_alloc ?_ _)); exact BK117.out⟩, ⟨by (with_reducible repeat (first | refine blk_drewN ?_ _ | refine blk_drew ?_ | refine blk_alloc ?_ _)); exact BK118.out⟩, ⟨by repeat (first | (with_reducible first | exact HB.out | apply below_alloc | apply pw_below_drewN | apply below_drew1 | refine below_set ?_ GE116.out | refine below_set ?_ GE117.out | refine below_set ?_ GE118.out) | exact HB.out)⟩⟩
                              · rw [if_neg c100] at H
                                have c100b0 : (t135 == 3) = false := beq_eq_false_iff_ne.mpr c100
                                have c100b1 : (t135 != 3) = true := bne_iff_ne.mpr c100
                                by_cases c102 : t135 = 2
                                · rw [if_pos c102] at H
                                  have c102b0 : (t135 == 2) = true := beq_iff_eq.mpr c102
                                  have c102b1 : (t135 != 2) = false := bne_eq_false_iff_eq.mpr c102
                                  clear c102
                                  have H' := Aside0.mk H
                                  clear H
                                  go_wp2
                                  go_meet
                                  case rel => exact ⟨_, (false), (by first | rfl | (simp; done) | (simp [*]; done) | (simp [ne_nil_bool]; done)), H', ⟨by have := HJ11.out; have := HK2.out; first | omega | exact Nat.le_refl _⟩, ⟨by (with_reducible repeat (first | refine blk_drewN ?_ _ | refine blk_drew ?_ | refine blk_alloc ?_ _)); exact BK116.out⟩, ⟨by (with_reducible repeat (first | refine blk_drewN ?_ _ | refine blk_drew ?_ | refine blk_alloc ?_ _)); exact BK117.out⟩, ⟨by (with_reducible repeat (first | refine blk_drewN ?_ _ | refine blk_drew ?_ | refine blk_alloc ?_ _)); exact BK118.out⟩, ⟨by repeat (first | (with_reducible first | exact HB.out | apply below_alloc | apply pw_below_drewN | apply below_drew1 | refine below_set ?_ GE116.out | refine below_set ?_ GE117.out | refine below_set ?_ GE118.out) | exact HB.out)⟩⟩
                                · rw [if_neg c102] at H
                                  have c102b0 : (t135 == 2) = false := beq_eq_false_iff_ne.mpr c102
                                  have c102b1 : (t135 != 2) = true := bne_iff_ne.mpr c102
                                  have H' := Aside0.mk H
                                  clear H
                                  go_wp2
                                  go_meet
                                  case rel => exact ⟨_, (true), (by first | rfl | (simp; done) | (simp [*]; done) | (simp [ne_nil_bool]; done)), H', ⟨by have := HJ11.out; have := HK2.out; first | omega | exact Nat.le_refl _⟩, ⟨by (with_reducible repeat (first | refine blk_drewN ?_ _ | refine blk_drew ?_ | refine blk_alloc ?_ _)); exact BK116.out⟩, ⟨by (with_reducible repeat (first | refine blk_drewN ?_ _ | refine blk_drew ?_ | refine blk_alloc ?_ _)); exact BK117.out⟩, ⟨by (with_reducible repeat (first | refine blk_drewN ?_ _ | refine blk_drew ?_ | refine blk_alloc ?_ _)); exact BK118.out⟩, ⟨by repeat (first | (with_reducible first | exact HB.out | apply below_alloc | apply pw_below_drewN | apply below_drew1 | refine below_set ?_ GE116.out | refine below_set ?_ GE117.out | refine below_set ?_ GE118.out) | exact HB.out)⟩⟩
                        · rw [if_neg c94] at H
                          have c94b0 : (t139 == 0) = false := beq_eq_false_iff_ne.mpr c94
                          have c94b1 : (t139 != 0) = true := bne_iff_ne.mpr c94
                          (first | rw [c94b0] | (simp only [i64_w, i32_w]; rw [c94b0]) | skip)
                          have H' := Aside0.mk H
                          clear H
                          go_wp2
                          go_meet
                          case rel => exact ⟨_, (false), (by first | rfl | (simp; done) | (simp [*]; done) | (simp [ne_nil_bool]; done)), H', ⟨by have := HJ11.out; have := HK2.out; first | omega | exact Nat.le_refl _⟩, ⟨by (with_reducible repeat (first | refine blk_drewN ?_ _ | refine blk_drew ?_ | refine blk_alloc ?_ _)); exact BK116.out⟩, ⟨by (with_reducible repeat (first | refine blk_drewN ?_ _ | refine blk_drew ?_ | refine blk_alloc ?_ _)); exact BK117.out⟩, ⟨by (with_reducible repeat (first | refine blk_drewN ?_ _ | refine blk_drew ?_ | refine blk_alloc ?_ _)); exact BK118.out⟩, ⟨by repeat (first | (with_reducible first | exact HB.out | apply below_alloc | apply pw_below_drewN | apply below_drew1 | refine below_set ?_ GE116.out | refine below_set ?_ GE117.out | refine below_set ?_ GE118.out) | exact HB.out)⟩⟩
                      · replace c93 := Bool.eq_false_iff.mpr c93
                        subst c93
                        have H1 : (glacislaw18_EmbedMore.j4 k2 false) = some r := by rw [if_neg (show ¬ (false = true) by decide)] at H; exact H
                        clear H
                        have H := H1
                        clear H1
                        have H' := Aside0.mk H
                        clear H
                        go_wp2
                        go_meet
                        case rel => exact ⟨_, (false), (by first | rfl | (simp; done) | (simp [*]; done) | (simp [ne_nil_bool]; done)), H', ⟨by have := HJ11.out; have := HK2.out; first | omega | exact Nat.le_refl _⟩, ⟨by (with_reducible repeat (first | refine blk_drewN ?_ _ | refine blk_drew ?_ | refine blk_alloc ?_ _)); exact BK116.out⟩, ⟨by (with_reducible repeat (first | refine blk_drewN ?_ _ | refine blk_drew ?_ | refine blk_alloc ?_ _)); exact BK117.out⟩, ⟨by (with_reducible repeat (first | refine blk_drewN ?_ _ | refine blk_drew ?_ | refine blk_alloc ?_ _)); exact BK118.out⟩, ⟨by repeat (first | (with_reducible first | exact HB.out | apply below_alloc | apply pw_below_drewN | apply below_drew1 | refine below_set ?_ GE116.out | refine below_set ?_ GE117.out | refine below_set ?_ GE118.out) | exact HB.out)⟩⟩
                    case rest =>
                      clear HC86
                      try clear c1
                      try clear p1
                      try clear q1
                      try clear hx1
                      try clear c2
                      try clear p2
                      try clear c3
                      try clear c4
                      try clear c5
                      try clear c6
                      try clear p6
                      try clear c7
                      try clear c8
                      try clear c9
                      try clear c10
                      try clear c11
                      try clear c12
                      try clear c13
                      try clear p13
                      try clear q13
                      try clear hx13
                      try clear c15
                      try clear c26
                      try clear c27
                      try clear c31
                      try clear c34
                      try clear c35
                      try clear c38
                      try clear c39
                      try clear c41
                      try clear c47
                      try clear c47b0
                      try clear c49
                      try clear c50
                      try clear c52
                      try clear c53
                      try clear c53b0
                      try clear c54
                      try clear c55
                      try clear c57
                      try clear c59
                      try clear c59b0
                      try clear c59b1
                      try clear c62
                      try clear c63
                      try clear p64
                      try clear c65
                      try clear c71
                      try clear c72
                      try clear c72b0
                      try clear c72b1
                      try clear c73
                      try clear c73b0
                      try clear c73b1
                      try clear c74
                      try clear c74b0
                      try clear c74b1
                      try clear c75
                      try clear c75b0
                      try clear c75b1
                      try clear c76
                      try clear c76b0
                      try clear c76b1
                      try clear c77
                      try clear c77b0
                      try clear c77b1
                      try clear c78
                      try clear c78b0
                      try clear c78b1
                      try clear c79
                      try clear c80
                      try clear c82
                      try clear c87
                      try clear c88
                      try clear c90
                      try clear c93
                      try clear c94
                      try clear c94b0
                      try clear c94b1
                      try clear c95
                      try clear c95b0
                      try clear c95b1
                      try clear c96
                      try clear c96b0
                      try clear c96b1
                      try clear c97
                      try clear c97b0
                      try clear c97b1
                      try clear c98
                      try clear c98b0
                      try clear c98b1
                      try clear c99
                      try clear c99b0
                      try clear c99b1
                      try clear c100
                      try clear c100b0
                      try clear c100b1
                      try clear c101
                      try clear c101b0
                      try clear c101b1
                      try clear c102
                      try clear c102b0
                      try clear c102b1
                      try clear hcz28_0
                      try clear hcz28_1
                      try clear hcz28_2
                      try clear hcz28_3
                      try clear hcz28_4
                      try clear hcz28_5
                      try clear hcz28_6
                      try clear hcz32_0
                      try clear hcz32_1
                      try clear hcz32_2
                      try clear hcz32_3
                      try clear hcz32_4
                      try clear hcz40_0
                      try clear hcz40_1
                      try clear hcz40_2
                      try clear hcz40_3
                      try clear hcz40_4
                      try clear hcz42_0
                      try clear hcz42_1
                      try clear hcz42_2
                      try clear hcz42_3
                      try clear hcz42_4
                      try clear hcz42_5
                      try clear hcz42_6
                      try clear hcz44_0
                      try clear hcz44_1
                      try clear hcz44_2
                      try clear hcz44_3
                      try clear hcz44_4
                      try clear hcz45_0
                      try clear hcz45_1
                      try clear hcz45_2
                      try clear hcz45_3
                      try clear hcz45_4
                      try clear hcz45_5
                      try clear hcz45_6
                      try clear hcz51_0
                      try clear hcz51_1
                      try clear hcz51_2
                      try clear hcz51_3
                      try clear hcz51_4
                      try clear hcz56_0
                      try clear hcz56_1
                      try clear hcz56_2
                      try clear hcz56_3
                      try clear hcz56_4
                      try clear hcz64_0
                      try clear hcz64_1
                      try clear hcz64_2
                      try clear hcz64_3
                      try clear hcz64_4
                      try clear hcz66_0
                      try clear hcz66_1
                      try clear hcz66_2
                      try clear hcz66_3
                      try clear hcz66_4
                      try clear hcz66_5
                      try clear hcz66_6
                      try clear hcz68_0
                      try clear hcz68_1
                      try clear hcz68_2
                      try clear hcz68_3
                      try clear hcz68_4
                      try clear hcz69_0
                      try clear hcz69_1
                      try clear hcz69_2
                      try clear hcz69_3
                      try clear hcz69_4
                      try clear hcz69_5
                      try clear hcz69_6
                      try clear hcz81_0
                      try clear hcz81_1
                      try clear hcz81_2
                      try clear hcz81_3
                      try clear hcz81_4
                      try clear hcz83_0
                      try clear hcz83_1
                      try clear hcz83_2
                      try clear hcz83_3
                      try clear hcz83_4
                      try clear hcz83_5
                      try clear hcz83_6
                      try clear hcz89_0
                      try clear hcz89_1
                      try clear hcz89_2
                      try clear hcz89_3
                      try clear hcz89_4
                      try clear hcz91_0
                      try clear hcz91_1
                      try clear hcz91_2
                      try clear hcz91_3
                      try clear hcz91_4
                      try clear hcz91_5
                      try clear hcz91_6
                      try clear hfz28_0
                      try clear hfz28_1
                      try clear hfz28_2
                      try clear hfz28_3
                      try clear hfz28_4
                      try clear hfz28_5
                      try clear hfz28_6
                      try clear hfz32_0
                      try clear hfz32_1
                      try clear hfz32_2
                      try clear hfz32_3
                      try clear hfz32_4
                      try clear hfz40_0
                      try clear hfz40_1
                      try clear hfz40_2
                      try clear hfz40_3
                      try clear hfz40_4
                      try clear hfz42_0
                      try clear hfz42_1
                      try clear hfz42_2
                      try clear hfz42_3
                      try clear hfz42_4
                      try clear hfz42_5
                      try clear hfz42_6
                      try clear hfz44_0
                      try clear hfz44_1
                      try clear hfz44_2
                      try clear hfz44_3
                      try clear hfz44_4
                      try clear hfz45_0
                      try clear hfz45_1
                      try clear hfz45_2
                      try clear hfz45_3
                      try clear hfz45_4
                      try clear hfz45_5
                      try clear hfz45_6
                      try clear hfz51_0
                      try clear hfz51_1
                      try clear hfz51_2
                      try clear hfz51_3
                      try clear hfz51_4
                      try clear hfz56_0
                      try clear hfz56_1
                      try clear hfz56_2
                      try clear hfz56_3
                      try clear hfz56_4
                      try clear hfz64_0
                      try clear hfz64_1
                      try clear hfz64_2
                      try clear hfz64_3
                      try clear hfz64_4
                      try clear hfz66_0
                      try clear hfz66_1
                      try clear hfz66_2
                      try clear hfz66_3
                      try clear hfz66_4
                      try clear hfz66_5
                      try clear hfz66_6
                      try clear hfz68_0
                      try clear hfz68_1
                      try clear hfz68_2
                      try clear hfz68_3
                      try clear hfz68_4
                      try clear hfz69_0
                      try clear hfz69_1
                      try clear hfz69_2
                      try clear hfz69_3
                      try clear hfz69_4
                      try clear hfz69_5
                      try clear hfz69_6
                      try clear hfz81_0
                      try clear hfz81_1
                      try clear hfz81_2
                      try clear hfz81_3
                      try clear hfz81_4
                      try clear hfz83_0
                      try clear hfz83_1
                      try clear hfz83_2
                      try clear hfz83_3
                      try clear hfz83_4
                      try clear hfz83_5
                      try clear hfz83_6
                      try clear hfz89_0
                      try clear hfz89_1
                      try clear hfz89_2
                      try clear hfz89_3
                      try clear hfz89_4
                      try clear hfz91_0
                      try clear hfz91_1
                      try clear hfz91_2
                      try clear hfz91_3
                      try clear hfz91_4
                      try clear hfz91_5
                      try clear hfz91_6
                      try clear hx136_0
                      try clear hx136_1
                      try clear hx136_2
                      try clear hx136_3
                      try clear p1
                      try clear p13
                      try clear p136
                      try clear p2
                      try clear p6
                      try clear p64
                      try clear q1
                      try clear q13
                      try clear q136
                      obtain ⟨kq, x12_85, rfl, HA, HJ85, BK116, BK117, BK118, HB⟩ := hcut
                      cases kq with
                      | zero => exact absurd HA.out (by simp [glacislaw18_EmbedMore.j4])
                      | succ kj85 =>
                        have H := HA.out
                        clear HA
                        simp only [glacislaw18_EmbedMore.j4] at H
                        obtain rfl := Option.some.inj H
                        go_wp2
                        go_ret
                        exact ⟨by first | rfl | (simp [errW_none, errW_some] <;> rfl) | (simp [*, errW_none, errW_some] <;> rfl), by repeat (first | (with_reducible first | exact HB.out | apply below_alloc | apply pw_below_drewN | apply below_drew1 | refine below_set ?_ GE116.out | refine below_set ?_ GE117.out | refine below_set ?_ GE118.out) | exact HB.out)⟩
    · rw [if_neg c9] at H
      exact absurd H (by simp)
  · rw [if_neg c8] at H
    exact absurd H (by simp)

end Go.Proofs.YtgmacggbhcodjaaGreatDoor.X1


