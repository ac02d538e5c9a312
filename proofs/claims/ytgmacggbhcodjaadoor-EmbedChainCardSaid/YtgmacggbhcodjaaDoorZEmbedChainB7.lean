/- A part of the claim EmbedChain: B7. -/
import Derived.Test.YtgmacggbhcodjaaDoorZEmbedChainB2
import Derived.Test.YtgmacggbhcodjaaDoorZEmbedChainB3
import Derived.Test.YtgmacggbhcodjaaDoorZEmbedChainY1
namespace Go.Proofs.YtgmacggbhcodjaaDoor.Q
set_option linter.unusedVariables false
set_option linter.unusedSimpArgs false
open Go.RowKit Go.Proofs.YtgmacggbhcodjaaDoorW.PrintWords
def anyK (l : List ByteArray) : Nat := l.length + 40
def cspmatch_Any.f (l0 : List ByteArray) (a1_0 : Bool) (a1_1 : Int) (a1_2 a1_3 : ByteArray) (a1_4 : Bool) (a1_5 a1_6 : Int) (a2_0 : Bool) (a2_1 : Int) (a2_2 a2_3 : ByteArray) (a2_4 : Bool) (a2_5 a2_6 : Int) : Option Bool :=
  Y1.cspmatch_Any.f (anyK l0) l0 a1_0 a1_1 a1_2 a1_3 a1_4 a1_5 a1_6 a2_0 a2_1 a2_2 a2_3 a2_4 a2_5 a2_6
theorem cspmatch_Any.calls (A0 : Option Addr) (c0 : Nat) (l0 : List ByteArray) (a1_0 : Bool) (a1_1 : Int) (a1_2 a1_3 : ByteArray) (a1_4 : Bool) (a1_5 a1_6 : Int) (a2_0 : Bool) (a2_1 : Int) (a2_2 a2_3 : ByteArray) (a2_4 : Bool) (a2_5 a2_6 : Int) (r : Bool) (w : World) (hr0 : Kd.C Kd.string w A0 l0.length l0) (hc0 : l0.length ≤ c0) (hG : Gw w) (h : cspmatch_Any.f l0 a1_0 a1_1 a1_2 a1_3 a1_4 a1_5 a1_6 a2_0 a2_1 a2_2 a2_3 a2_4 a2_5 a2_6 = some r) :
    Calls Tryd.prog 42 #[.slice A0 l0.length c0, .agg #[.bool a1_0, .int .i64 a1_1, .string a1_2, .string a1_3, .bool a1_4, .int .u32 a1_5, .int .i64 a1_6], .agg #[.bool a2_0, .int .i64 a2_1, .string a2_2, .string a2_3, .bool a2_4, .int .u32 a2_5, .int .i64 a2_6]] w fun e w' => e = .returned (.bool r) ∧ Below w.heap.size w w' :=
  Y1.cspmatch_Any.calls (anyK l0) A0 c0 l0 a1_0 a1_1 a1_2 a1_3 a1_4 a1_5 a1_6 a2_0 a2_1 a2_2 a2_3 a2_4 a2_5 a2_6 r w hr0 hc0 hG h
def anyO (l : List ByteArray) (o1 : Bool) (o2 : Int) (o3 o4 : ByteArray) (o5 : Bool) (o6 o7 : Int) (a : S35) : Option Bool := cspmatch_Any.f l a.f0 a.f1 a.f2 a.f3.f0 a.f3.f1 a.f3.f2 a.f4 o1 o2 o3 o4 o5 o6 o7
set_option maxRecDepth 100000 in
set_option maxHeartbeats 2000000 in
theorem frames_closure (p0 p2 : Bool) (A : Option Addr) (c : Nat) (l : List ByteArray) (v3 : Value) (o1 : Bool) (o2 : Int) (o3 o4 : ByteArray) (o5 : Bool) (o6 o7 : Int) (b1 b2 : Nat) (a : S35) (r : Bool) (W : World) (hG : Gw W)
    (h1 : W.heap[b1]? = some (.cells #[.bool p0, .slice A l.length c, .bool p2, v3] 50 (0, 0))) (h2 : W.heap[b2]? = some (.cells (orgCs o1 o2 o3 o4 o5 o6 o7) 35 (0, 0)))
    (hr : Kd.C Kd.string W A l.length l) (hc : l.length ≤ c) (h : anyO l o1 o2 o3 o4 o5 o6 o7 a = some r) :
    Calls Tryd.prog 44 (#[orgV a] ++ #[.pointer (some ⟨b1, 0, none⟩), .pointer (some ⟨b2, 0, none⟩)]) W fun e w' => e = .returned (.bool (!r)) ∧ Below W.heap.size W w' := by
  have HA := Lib.hid h
  have HB := Lib.hid ((Below.refl W.heap.size W).alloc (Nat.le_refl _) (.cells #[.bool a.f0, .int .i64 a.f1, .string a.f2, .string a.f3.f0, .bool a.f3.f1, .int .u32 a.f3.f2, .int .i64 a.f4] 35))
  have HC := Lib.hid (org_cs h2)
  have HR := Lib.hid (Kd.C_below hr HB.out)
  have HG := Lib.hid (hG.to HB.out)
  have HN := Lib.hid hc
  have n1 := blk_lt h1
  have n2 := blk_lt h2
  have hne1 : b1 ≠ W.heap.size := by omega
  have hne2 : b2 ≠ W.heap.size := by omega
  have c0 : W.cell? ⟨b1, 1, none⟩ = some (.slice A l.length c) := (blk_cell h1 1).trans rfl
  have c0f := blk_frozen h1 1
  obtain ⟨d0, d0f, d1, d1f, d2, d2f, d3, d3f, d4, d4f, d5, d5f, d6, d6f⟩ := HC.out
  clear h1 h2 hG hr hc h
  unfold anyO at HA
  obtain ⟨a0, a1, a2, ⟨a3, a4, a5⟩, a6⟩ := a
  unfold orgV
  go_enter Tryd.func44, Tryd.ntmps44
  go_wp2_with (go_at_call 42; refine (cspmatch_Any.calls _ _ l _ _ _ _ _ _ _ _ _ _ _ _ _ _ _ _ HR.out HN.out HG.out HA.out).mono ?_; rintro e w' ⟨rfl, hb⟩; have HB2 := Lib.hid hb; clear hb)
  go_ret
  exact ⟨rfl, below_step HB.out HB2.out⟩
def cspmatch_Frames.f (a0_0 : Bool) (l0_1 : List ByteArray) (a0_2 : Bool) (l0_3 : List ByteArray) (a1_0 : Bool) (a1_1 : Int) (a1_2 a1_3 : ByteArray) (a1_4 : Bool) (a1_5 a1_6 : Int) (l2 : List S35) : Option Bool :=
  if a0_0 = true then (if l2.length ≤ 9223372036854775807 then (if (l2.all fun a => (anyO l0_1 a1_0 a1_1 a1_2 a1_3 a1_4 a1_5 a1_6 a).isSome) = true then some (!(l2.any fun a => !((anyO l0_1 a1_0 a1_1 a1_2 a1_3 a1_4 a1_5 a1_6 a).getD false))) else none) else none) else some true
set_option maxRecDepth 100000 in
set_option maxHeartbeats 2000000 in
theorem cspmatch_Frames.calls (a0_0 : Bool) (A0_1 : Option Addr) (c0_1 : Nat) (l0_1 : List ByteArray) (a0_2 : Bool) (A0_3 : Option Addr) (c0_3 : Nat) (l0_3 : List ByteArray) (a1_0 : Bool) (a1_1 : Int) (a1_2 a1_3 : ByteArray) (a1_4 : Bool) (a1_5 a1_6 : Int) (A2 : Option Addr) (c2 : Nat) (l2 : List S35) (r : Bool) (w : World)
    (hr0_1 : Kd.C Kd.string w A0_1 l0_1.length l0_1) (hc0_1 : l0_1.length ≤ c0_1) (hr0_3 : Kd.C Kd.string w A0_3 l0_3.length l0_3) (hc0_3 : l0_3.length ≤ c0_3) (hr2 : Kd.C k35 w A2 l2.length l2) (hc2 : l2.length ≤ c2) (hG : Gw w) (h : cspmatch_Frames.f a0_0 l0_1 a0_2 l0_3 a1_0 a1_1 a1_2 a1_3 a1_4 a1_5 a1_6 l2 = some r) :
    Calls Tryd.prog 21 #[.agg #[.bool a0_0, .slice A0_1 l0_1.length c0_1, .bool a0_2, .slice A0_3 l0_3.length c0_3], .agg #[.bool a1_0, .int .i64 a1_1, .string a1_2, .string a1_3, .bool a1_4, .int .u32 a1_5, .int .i64 a1_6], .slice A2 l2.length c2] w fun e w' => e = .returned (.bool r) ∧ Below w.heap.size w w' := by
  unfold cspmatch_Frames.f at h
  have hB : Below w.heap.size w ((w.alloc (.cells #[.bool a0_0, .slice A0_1 l0_1.length c0_1, .bool a0_2, .slice A0_3 l0_3.length c0_3] 50)).alloc (.cells #[.bool a1_0, .int .i64 a1_1, .string a1_2, .string a1_3, .bool a1_4, .int .u32 a1_5, .int .i64 a1_6] 35)) := ((Below.refl _ _).alloc (Nat.le_refl _) _).alloc (by simp) _
  have HB := Lib.hid hB
  cases a0_0
  · rw [if_neg (by simp)] at h
    obtain rfl := Option.some.inj h
    clear h hB hr0_1 hc0_1 hr0_3 hc0_3 hr2 hc2 hG
    go_enter Tryd.func21, Tryd.ntmps21
    go_wp2_with fail
    go_ret
    exact ⟨rfl, HB.out⟩
  · rw [if_pos rfl] at h
    by_cases hl : l2.length ≤ 9223372036854775807
    case neg => rw [if_neg hl] at h; exact absurd h (by simp)
    rw [if_pos hl] at h
    by_cases ha : (l2.all fun a => (anyO l0_1 a1_0 a1_1 a1_2 a1_3 a1_4 a1_5 a1_6 a).isSome) = true
    case neg => rw [if_neg ha] at h; exact absurd h (by simp)
    rw [if_pos ha] at h
    have HE := Lib.hid (Option.some.inj h)
    have hs : ∀ x ∈ l2, anyO l0_1 a1_0 a1_1 a1_2 a1_3 a1_4 a1_5 a1_6 x = some ((anyO l0_1 a1_0 a1_1 a1_2 a1_3 a1_4 a1_5 a1_6 x).getD false) := by
      intro x hx
      have := List.all_eq_true.1 ha x hx
      cases hq : anyO l0_1 a1_0 a1_1 a1_2 a1_3 a1_4 a1_5 a1_6 x with
      | none => rw [hq] at this; exact absurd this (by simp)
      | some b => rfl
    have HS := Lib.hid hs
    clear h ha hs
    have h1 : ((w.alloc (.cells #[.bool true, .slice A0_1 l0_1.length c0_1, .bool a0_2, .slice A0_3 l0_3.length c0_3] 50)).alloc (.cells #[.bool a1_0, .int .i64 a1_1, .string a1_2, .string a1_3, .bool a1_4, .int .u32 a1_5, .int .i64 a1_6] 35)).heap[w.heap.size]? = some (.cells #[.bool true, .slice A0_1 l0_1.length c0_1, .bool a0_2, .slice A0_3 l0_3.length c0_3] 50 (0, 0)) := (Below.heap_alloc _ _ _ (by simp)).trans (blk_new w _)
    have h2 : ((w.alloc (.cells #[.bool true, .slice A0_1 l0_1.length c0_1, .bool a0_2, .slice A0_3 l0_3.length c0_3] 50)).alloc (.cells #[.bool a1_0, .int .i64 a1_1, .string a1_2, .string a1_3, .bool a1_4, .int .u32 a1_5, .int .i64 a1_6] 35)).heap[w.heap.size + 1]? = some (.cells (orgCs a1_0 a1_1 a1_2 a1_3 a1_4 a1_5 a1_6) 35 (0, 0)) := by
      have := blk_new (w.alloc (.cells #[.bool true, .slice A0_1 l0_1.length c0_1, .bool a0_2, .slice A0_3 l0_3.length c0_3] 50)) (.cells #[.bool a1_0, .int .i64 a1_1, .string a1_2, .string a1_3, .bool a1_4, .int .u32 a1_5, .int .i64 a1_6] 35 (0, 0))
      rwa [World.size_alloc] at this
    have hp : PredO 44 #[.pointer (some ⟨w.heap.size, 0, none⟩), .pointer (some ⟨w.heap.size + 1, 0, none⟩)] (fun a => !((anyO l0_1 a1_0 a1_1 a1_2 a1_3 a1_4 a1_5 a1_6 a).getD false)) l2 ((w.alloc (.cells #[.bool true, .slice A0_1 l0_1.length c0_1, .bool a0_2, .slice A0_3 l0_3.length c0_3] 50)).alloc (.cells #[.bool a1_0, .int .i64 a1_1, .string a1_2, .string a1_3, .bool a1_4, .int .u32 a1_5, .int .i64 a1_6] 35)) := by
      intro x hx W hW
      refine (frames_closure true a0_2 A0_1 c0_1 l0_1 (.slice A0_3 l0_3.length c0_3) a1_0 a1_1 a1_2 a1_3 a1_4 a1_5 a1_6 w.heap.size (w.heap.size + 1) x _ W ((hG.to HB.out).to hW) (blk_below h1 hW) (blk_below h2 hW) (Kd.C_below (Kd.C_below hr0_1 HB.out) hW) hc0_1 (HS.out x hx)).mono ?_
      rintro e w' ⟨rfl, hb⟩
      exact ⟨rfl, below_step hW hb⟩
    have HP := Lib.hid hp
    have HC := Lib.hid (Kd.C_below hr2 hB)
    clear hB h1 h2 hp hr0_1 hc0_1 hr0_3 hc0_3 hr2 hc2 hG
    go_enter Tryd.func21, Tryd.ntmps21
    go_wp2_with (go_at_call 45; refine (containsO 44 _ (enters_of Tryd.func44 (by kernel_rfl) rfl) _ A2 c2 l2 _ HC.out hl HP.out).mono ?_; rintro e w' ⟨rfl, hb⟩; have HB2 := Lib.hid hb; clear hb)
    go_ret
    exact ⟨ret_bool HE.out, below_step HB.out HB2.out⟩
end Go.Proofs.YtgmacggbhcodjaaDoor.Q

