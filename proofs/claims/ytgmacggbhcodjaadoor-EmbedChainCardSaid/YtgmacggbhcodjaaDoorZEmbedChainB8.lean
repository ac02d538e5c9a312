/- A part of the claim EmbedChain: B8. -/
import Derived.Test.YtgmacggbhcodjaaDoorZEmbedChainA9
namespace Go.Proofs.YtgmacggbhcodjaaDoor.Q
set_option linter.unusedVariables false
set_option linter.unusedSimpArgs false
open Go.RowKit Go.Proofs.YtgmacggbhcodjaaDoorW.PrintWords
def isoB (v : Int) : Bool := v == 1 || v == 2
theorem isolates_same (v : Int) (w : World) : Calls Tryd.prog 48 #[.int .i64 v] w fun e w' => e = .returned (.bool (isoB v)) ∧ w = w' := by
  by_cases h1 : v = 1
  · subst h1
    go_enter Tryd.func48, Tryd.ntmps48
    go_wp2
    go_ret
    exact ⟨rfl, rfl⟩
  · have b1 : (v == 1) = false := by simpa using h1
    have e : isoB v = (v == 2) := by unfold isoB; rw [b1]; rfl
    rw [e]
    clear e
    go_enter Tryd.func48, Tryd.ntmps48
    go_wp2
    go_ret
    exact ⟨rfl, rfl⟩
def embed_Coep.f (a0_0 : Int) (a0_1 : ByteArray) (a0_2 : Int) (a0_3 : ByteArray) (a1_0 : Int) (a1_1 : ByteArray) (a1_2 : Int) (a1_3 : ByteArray) : Option (Bool × Bool × Bool) :=
  some (isoB a1_0 || !isoB a0_0, !(isoB a1_0 || !isoB a0_0), !isoB a1_0 && isoB a0_2)
set_option maxRecDepth 100000 in
set_option maxHeartbeats 4000000 in
theorem embed_coep (a0_0 : Int) (a0_1 : ByteArray) (a0_2 : Int) (a0_3 : ByteArray) (a1_0 : Int) (a1_1 : ByteArray) (a1_2 : Int) (a1_3 : ByteArray) (x y z : Bool) (w : World)
    (hx : Hid (∀ W : World, Calls Tryd.prog 48 #[.int .i64 a1_0] W fun e w' => e = .returned (.bool x) ∧ W = w'))
    (hy : Hid (∀ W : World, Calls Tryd.prog 48 #[.int .i64 a0_0] W fun e w' => e = .returned (.bool y) ∧ W = w'))
    (hz : Hid (∀ W : World, Calls Tryd.prog 48 #[.int .i64 a0_2] W fun e w' => e = .returned (.bool z) ∧ W = w')) :
    Calls Tryd.prog 23 #[.agg #[.int .i64 a0_0, .string a0_1, .int .i64 a0_2, .string a0_3], .agg #[.int .i64 a1_0, .string a1_1, .int .i64 a1_2, .string a1_3]] w
      fun e w' => e = .returned (.agg #[.bool (x || !y), .bool (!(x || !y)), .bool (!x && z)]) ∧ Below w.heap.size w w' := by
  have HB : ∀ o1 o2 o3 : Obj, Below w.heap.size w (((w.alloc o1).alloc o2).alloc o3) := fun o1 o2 o3 => (((Below.refl _ _).alloc (Nat.le_refl _) _).alloc (by simp) _).alloc (by simp; omega) _
  have HB' := Lib.hid HB
  have HN0 : ∀ o1 o2 o3 : Obj, (((w.alloc o1).alloc o2).alloc o3).heap[w.heap.size + 1 + 1]? = some o3 := fun o1 o2 o3 => by
    have := blk_new ((w.alloc o1).alloc o2) o3
    rwa [World.size_alloc, World.size_alloc] at this
  have HN := Lib.hid HN0
  clear HN0
  clear HB
  cases x <;> cases y <;> cases z <;>
  · go_enter Tryd.func23, Tryd.ntmps23
    go_wp2_with (go_at_call 48; (first | (with_reducible refine (hx.out _).mono ?_) | (with_reducible refine (hy.out _).mono ?_) | (with_reducible refine (hz.out _).mono ?_)); rintro e w' ⟨rfl, rfl⟩)
    refine bodyPost_ret (results_cell_row rfl _ _ (w.heap.size + 1 + 1) 58 _ (0, 0) _ rfl (HN.out _ _ _) Tryd.underlying58 rfl (by kernel_rfl)) rfl ⟨rfl, ?_⟩
    exact HB'.out _ _ _
theorem embed_Coep.calls (a0_0 : Int) (a0_1 : ByteArray) (a0_2 : Int) (a0_3 : ByteArray) (a1_0 : Int) (a1_1 : ByteArray) (a1_2 : Int) (a1_3 : ByteArray) (r1 r2 r3 : Bool) (w : World) (h : embed_Coep.f a0_0 a0_1 a0_2 a0_3 a1_0 a1_1 a1_2 a1_3 = some (r1, r2, r3)) :
    Calls Tryd.prog 23 #[.agg #[.int .i64 a0_0, .string a0_1, .int .i64 a0_2, .string a0_3], .agg #[.int .i64 a1_0, .string a1_1, .int .i64 a1_2, .string a1_3]] w
      fun e w' => e = .returned (.agg #[.bool r1, .bool r2, .bool r3]) ∧ Below w.heap.size w w' := by
  unfold embed_Coep.f at h
  simp only [Option.some.injEq, Prod.mk.injEq] at h
  obtain ⟨rfl, rfl, rfl⟩ := h
  exact embed_coep a0_0 a0_1 a0_2 a0_3 a1_0 a1_1 a1_2 a1_3 _ _ _ w (Lib.hid (isolates_same a1_0)) (Lib.hid (isolates_same a0_0)) (Lib.hid (isolates_same a0_2))
end Go.Proofs.YtgmacggbhcodjaaDoor.Q

