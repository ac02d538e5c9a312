/- A part of the claim EmbedChain: B2. -/
import Derived.Test.YtgmacggbhcodjaaDoorZEmbedChainB1
import Derived.Test.YtgmacggbhcodjaaDoorZEmbedChainL3
namespace Go.Proofs.YtgmacggbhcodjaaDoor.Q
set_option linter.unusedVariables false
set_option linter.unusedSimpArgs false
open Go.RowKit Go.Proofs.YtgmacggbhcodjaaDoorW.PrintWords
def origin_Same.f (a0_0 : Bool) (a0_1 : Int) (a0_2 a0_3 : ByteArray) (a0_4 : Bool) (a0_5 a0_6 : Int) (a1_0 : Bool) (a1_1 : Int) (a1_2 a1_3 : ByteArray) (a1_4 : Bool) (a1_5 a1_6 : Int) : Option Bool := L3.origin_Same.f a0_0 a0_1 a0_2 a0_3 a0_4 a0_5 a0_6 a1_0 a1_1 a1_2 a1_3 a1_4 a1_5 a1_6
theorem origin_Same.calls (a0_0 : Bool) (a0_1 : Int) (a0_2 a0_3 : ByteArray) (a0_4 : Bool) (a0_5 a0_6 : Int) (a1_0 : Bool) (a1_1 : Int) (a1_2 a1_3 : ByteArray) (a1_4 : Bool) (a1_5 a1_6 : Int) (r : Bool) (w : World) (h : origin_Same.f a0_0 a0_1 a0_2 a0_3 a0_4 a0_5 a0_6 a1_0 a1_1 a1_2 a1_3 a1_4 a1_5 a1_6 = some r) :
    Calls Tryd.prog 16 #[.agg #[.bool a0_0, .int .i64 a0_1, .string a0_2, .string a0_3, .bool a0_4, .int .u32 a0_5, .int .i64 a0_6], .agg #[.bool a1_0, .int .i64 a1_1, .string a1_2, .string a1_3, .bool a1_4, .int .u32 a1_5, .int .i64 a1_6]] w fun e w' => e = .returned (.bool r) ∧ Below w.heap.size w w' :=
  L3.origin_Same.calls a0_0 a0_1 a0_2 a0_3 a0_4 a0_5 a0_6 a1_0 a1_1 a1_2 a1_3 a1_4 a1_5 a1_6 r w h
def sameB (o1 : Bool) (o2 : Int) (o3 o4 : ByteArray) (o5 : Bool) (o6 o7 : Int) (a : S35) : Bool := (origin_Same.f o1 o2 o3 o4 o5 o6 o7 a.f0 a.f1 a.f2 a.f3.f0 a.f3.f1 a.f3.f2 a.f4).getD false
theorem same_some (o1 : Bool) (o2 : Int) (o3 o4 : ByteArray) (o5 : Bool) (o6 o7 : Int) (a : S35) : origin_Same.f o1 o2 o3 o4 o5 o6 o7 a.f0 a.f1 a.f2 a.f3.f0 a.f3.f1 a.f3.f2 a.f4 = some (sameB o1 o2 o3 o4 o5 o6 o7 a) := by
  have : ∃ b, origin_Same.f o1 o2 o3 o4 o5 o6 o7 a.f0 a.f1 a.f2 a.f3.f0 a.f3.f1 a.f3.f2 a.f4 = some b := by
    have hb : ∀ (x1 : Bool) (x2 : Int) (x3 x4 : ByteArray) (x5 : Bool) (x6 x7 : Int), ∃ y, L3.origin_bare.f x1 x2 x3 x4 x5 x6 x7 = some y := by
      intro x1 x2 x3 x4 x5 x6 x7
      unfold L3.origin_bare.f
      split <;> exact ⟨_, rfl⟩
    obtain ⟨y, hy⟩ := hb o1 o2 o3 o4 o5 o6 o7
    obtain ⟨z, hz⟩ := hb a.f0 a.f1 a.f2 a.f3.f0 a.f3.f1 a.f3.f2 a.f4
    unfold origin_Same.f L3.origin_Same.f
    rw [hy, hz]
    exact ⟨_, rfl⟩
  obtain ⟨b, hb⟩ := this
  unfold sameB
  rw [hb]; rfl
def xfoBad (x : Int) (o1 : Bool) (o2 : Int) (o3 o4 : ByteArray) (o5 : Bool) (o6 o7 : Int) (a : S35) : Bool := (x == 1) || !sameB o1 o2 o3 o4 o5 o6 o7 a
set_option maxRecDepth 100000 in
set_option maxHeartbeats 2000000 in
theorem xfo_closure (x : Int) (o1 : Bool) (o2 : Int) (o3 o4 : ByteArray) (o5 : Bool) (o6 o7 : Int) (b1 b2 : Nat) (a : S35) (W : World) (h1 : W.heap[b1]? = some (.cells #[.int .i64 x] 3 (0, 0))) (h2 : W.heap[b2]? = some (.cells (orgCs o1 o2 o3 o4 o5 o6 o7) 35 (0, 0))) :
    Calls Tryd.prog 49 (#[orgV a] ++ #[.pointer (some ⟨b1, 0, none⟩), .pointer (some ⟨b2, 0, none⟩)]) W fun e w' => e = .returned (.bool (xfoBad x o1 o2 o3 o4 o5 o6 o7 a)) ∧ Below W.heap.size W w' := by
  have HS := Lib.hid (same_some o1 o2 o3 o4 o5 o6 o7 a)
  have HB := Lib.hid ((Below.refl W.heap.size W).alloc (Nat.le_refl _) (.cells #[.bool a.f0, .int .i64 a.f1, .string a.f2, .string a.f3.f0, .bool a.f3.f1, .int .u32 a.f3.f2, .int .i64 a.f4] 35))
  have HC := Lib.hid (org_cs h2)
  have n1 := blk_lt h1
  have n2 := blk_lt h2
  have hne1 : b1 ≠ W.heap.size := by omega
  have hne2 : b2 ≠ W.heap.size := by omega
  have c0 : W.cell? ⟨b1, 0, none⟩ = some (.int .i64 x) := (blk_cell h1 0).trans rfl
  have c0f := blk_frozen h1 0
  obtain ⟨d0, d0f, d1, d1f, d2, d2f, d3, d3f, d4, d4f, d5, d5f, d6, d6f⟩ := HC.out
  clear h1 h2
  obtain ⟨a0, a1, a2, ⟨a3, a4, a5⟩, a6⟩ := a
  unfold xfoBad orgV
  generalize hs : sameB o1 o2 o3 o4 o5 o6 o7 ⟨a0, a1, a2, ⟨a3, a4, a5⟩, a6⟩ = sm at HS
  by_cases hx : x = 1
  · have hxb : (x == 1) = true := by simpa using hx
    have hxi : (x : Int) = 1 := hx
    go_enter Tryd.func49, Tryd.ntmps49
    go_wp2_with fail
    go_ret
    exact ⟨rfl, HB.out⟩
  · have hxb : (x == 1) = false := by simpa using hx
    go_enter Tryd.func49, Tryd.ntmps49
    go_wp2_with (go_at_call 16; refine (origin_Same.calls _ _ _ _ _ _ _ _ _ _ _ _ _ _ _ _ HS.out).mono ?_; rintro e w' ⟨rfl, hb⟩; have HB2 := Lib.hid hb; clear hb)
    go_ret
    exact ⟨by rw [hxb]; rfl, below_step HB.out HB2.out⟩
def embed_Xfo.f (a0 : Int) (a1_0 : Bool) (a1_1 : Int) (a1_2 a1_3 : ByteArray) (a1_4 : Bool) (a1_5 a1_6 : Int) (l2 : List S35) : Option Bool :=
  if l2.length ≤ 9223372036854775807 then some ((!(a0 == 1) && !(a0 == 2)) || !(l2.any (xfoBad a0 a1_0 a1_1 a1_2 a1_3 a1_4 a1_5 a1_6))) else none
set_option maxRecDepth 100000 in
set_option maxHeartbeats 2000000 in
theorem embed_Xfo.calls (a0 : Int) (a1_0 : Bool) (a1_1 : Int) (a1_2 a1_3 : ByteArray) (a1_4 : Bool) (a1_5 a1_6 : Int) (A2 : Option Addr) (c2 : Nat) (l2 : List S35) (r : Bool) (w : World) (hr2 : Kd.C k35 w A2 l2.length l2) (hc2 : l2.length ≤ c2) (h : embed_Xfo.f a0 a1_0 a1_1 a1_2 a1_3 a1_4 a1_5 a1_6 l2 = some r) :
    Calls Tryd.prog 25 #[.int .i64 a0, .agg #[.bool a1_0, .int .i64 a1_1, .string a1_2, .string a1_3, .bool a1_4, .int .u32 a1_5, .int .i64 a1_6], .slice A2 l2.length c2] w fun e w' => e = .returned (.bool r) ∧ Below w.heap.size w w' := by
  unfold embed_Xfo.f at h
  by_cases hl : l2.length ≤ 9223372036854775807
  case neg => rw [if_neg hl] at h; exact absurd h (by simp)
  rw [if_pos hl] at h
  have HR := Lib.hid (Option.some.inj h)
  clear h
  have hB : Below w.heap.size w ((w.alloc (.cells #[.int .i64 a0] 3)).alloc (.cells #[.bool a1_0, .int .i64 a1_1, .string a1_2, .string a1_3, .bool a1_4, .int .u32 a1_5, .int .i64 a1_6] 35)) := ((Below.refl _ _).alloc (Nat.le_refl _) _).alloc (by simp) _
  have HB := Lib.hid hB
  have h1 : ((w.alloc (.cells #[.int .i64 a0] 3)).alloc (.cells #[.bool a1_0, .int .i64 a1_1, .string a1_2, .string a1_3, .bool a1_4, .int .u32 a1_5, .int .i64 a1_6] 35)).heap[w.heap.size]? = some (.cells #[.int .i64 a0] 3 (0, 0)) := (Below.heap_alloc _ _ _ (by simp)).trans (blk_new w _)
  have h2 : ((w.alloc (.cells #[.int .i64 a0] 3)).alloc (.cells #[.bool a1_0, .int .i64 a1_1, .string a1_2, .string a1_3, .bool a1_4, .int .u32 a1_5, .int .i64 a1_6] 35)).heap[w.heap.size + 1]? = some (.cells (orgCs a1_0 a1_1 a1_2 a1_3 a1_4 a1_5 a1_6) 35 (0, 0)) := by
    have := blk_new (w.alloc (.cells #[.int .i64 a0] 3)) (.cells #[.bool a1_0, .int .i64 a1_1, .string a1_2, .string a1_3, .bool a1_4, .int .u32 a1_5, .int .i64 a1_6] 35 (0, 0))
    rwa [World.size_alloc] at this
  have hp : PredO 49 #[.pointer (some ⟨w.heap.size, 0, none⟩), .pointer (some ⟨w.heap.size + 1, 0, none⟩)] (xfoBad a0 a1_0 a1_1 a1_2 a1_3 a1_4 a1_5 a1_6) l2 ((w.alloc (.cells #[.int .i64 a0] 3)).alloc (.cells #[.bool a1_0, .int .i64 a1_1, .string a1_2, .string a1_3, .bool a1_4, .int .u32 a1_5, .int .i64 a1_6] 35)) := by
    intro x _ W hW
    refine (xfo_closure a0 a1_0 a1_1 a1_2 a1_3 a1_4 a1_5 a1_6 w.heap.size (w.heap.size + 1) x W (blk_below h1 hW) (blk_below h2 hW)).mono ?_
    rintro e w' ⟨rfl, hb⟩
    exact ⟨rfl, below_step hW hb⟩
  have HP := Lib.hid hp
  have HC := Lib.hid (Kd.C_below hr2 hB)
  clear hB h1 h2 hp hr2
  by_cases e1 : a0 = 1
  · have e1b : (a0 == 1) = true := by simpa using e1
    have e1n : (a0 != 1) = false := by simpa using e1
    have e2n : (a0 != 2) = true := by subst e1; rfl
    have he : (!(l2.any (xfoBad a0 a1_0 a1_1 a1_2 a1_3 a1_4 a1_5 a1_6))) = r := by have := HR.out; rw [e1b] at this; simpa using this
    have HE := Lib.hid he
    clear he
    clear e1 e1b
    go_enter Tryd.func25, Tryd.ntmps25
    go_wp2_with (go_at_call 45; refine (containsO 49 _ (enters_of Tryd.func49 (by kernel_rfl) rfl) _ A2 c2 l2 _ HC.out hl HP.out).mono ?_; rintro e w' ⟨rfl, hb⟩; have HB2 := Lib.hid hb; clear hb)
    go_ret
    exact ⟨ret_bool HE.out, below_step HB.out HB2.out⟩
  · have e1b : (a0 == 1) = false := by simpa using e1
    have e1n : (a0 != 1) = true := by simpa using e1
    by_cases e2 : a0 = 2
    · have e2b : (a0 == 2) = true := by simpa using e2
      have e2n : (a0 != 2) = false := by simpa using e2
      have he : (!(l2.any (xfoBad a0 a1_0 a1_1 a1_2 a1_3 a1_4 a1_5 a1_6))) = r := by have := HR.out; rw [e2b] at this; simpa using this
      have HE := Lib.hid he
      clear he
      clear e2 e2b e1 e1b
      go_enter Tryd.func25, Tryd.ntmps25
      go_wp2_with (go_at_call 45; refine (containsO 49 _ (enters_of Tryd.func49 (by kernel_rfl) rfl) _ A2 c2 l2 _ HC.out hl HP.out).mono ?_; rintro e w' ⟨rfl, hb⟩; have HB2 := Lib.hid hb; clear hb)
      go_ret
      exact ⟨ret_bool HE.out, below_step HB.out HB2.out⟩
    · have e2b : (a0 == 2) = false := by simpa using e2
      have e2n : (a0 != 2) = true := by simpa using e2
      have he : true = r := by have := HR.out; rw [e1b, e2b] at this; simpa using this
      have HE := Lib.hid he
      clear he
      clear e1 e2 e1b e2b
      go_enter Tryd.func25, Tryd.ntmps25
      go_wp2_with fail
      go_ret
      exact ⟨ret_bool HE.out, HB.out⟩
end Go.Proofs.YtgmacggbhcodjaaDoor.Q

