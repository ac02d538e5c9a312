/- A part of the claim EmbedChain: BF. -/
import Derived.Test.YtgmacggbhcodjaaDoorZEmbedChainB7
import Derived.Laws.NewBlocks
namespace Go.Proofs.YtgmacggbhcodjaaDoor.Q
set_option linter.unusedVariables false
set_option linter.unusedSimpArgs false
open Go.RowKit Go.Proofs.YtgmacggbhcodjaaDoorW.PrintWords
def frameEnd (x : Int) (o1 : Bool) (o2 : Int) (o3 o4 : ByteArray) (o5 : Bool) (o6 o7 : Int) (l3 : List S35) (v : Int) (has : Bool) : Option Int :=
  if has = true then some v else (embed_Xfo.f x o1 o2 o3 o4 o5 o6 o7 l3).bind fun t => some (if t = true then v else 3)
def frameL (x : Int) (o1 : Bool) (o2 : Int) (o3 o4 : ByteArray) (o5 : Bool) (o6 o7 : Int) (l3 : List S35) : Bool → List S50 → Option Int
  | has, [] => frameEnd x o1 o2 o3 o4 o5 o6 o7 l3 0 has
  | has, p :: ps => (cspmatch_Frames.f p.f0 p.f1 p.f2 p.f3 o1 o2 o3 o4 o5 o6 o7 l3).bind fun t => if t = true then frameL x o1 o2 o3 o4 o5 o6 o7 l3 (has || p.f0) ps else frameEnd x o1 o2 o3 o4 o5 o6 o7 l3 2 (has || p.f0)
def embed_Frame.f (l0_0 : List S50) (a0_1 : Int) (a0_2 : ByteArray) (a0_3 : Int) (a0_4 : ByteArray) (a1 : Int) (a2_0 : Bool) (a2_1 : Int) (a2_2 a2_3 : ByteArray) (a2_4 : Bool) (a2_5 a2_6 : Int) (l3 : List S35) : Option Int :=
  frameL a1 a2_0 a2_1 a2_2 a2_3 a2_4 a2_5 a2_6 l3 false l0_0
structure Wf (w W : World) (cs os : Array Value) : Prop where
  below : Below w.heap.size w W
  b1 : W.heap[w.heap.size]? = some (.cells cs 104 (0, 0))
  b2 : W.heap[w.heap.size + 1]? = some (.cells os 35 (0, 0))
theorem Wf.to {w W W1 : World} {cs os : Array Value} (h : Wf w W cs os) (hb : Below W.heap.size W W1) : Wf w W1 cs os := ⟨below_step h.below hb, blk_below h.b1 hb, blk_below h.b2 hb⟩
theorem Wf.org {w W : World} {cs : Array Value} {o1 : Bool} {o2 : Int} {o3 o4 : ByteArray} {o5 : Bool} {o6 o7 : Int} (h : Wf w W cs (orgCs o1 o2 o3 o4 o5 o6 o7)) :
    W.cell? ⟨w.heap.size + 1, 0, none⟩ = some (.bool o1) ∧ W.cell? ⟨w.heap.size + 1, 1, none⟩ = some (.int .i64 o2) ∧ W.cell? ⟨w.heap.size + 1, 2, none⟩ = some (.string o3) ∧ W.cell? ⟨w.heap.size + 1, 3, none⟩ = some (.string o4) ∧ W.cell? ⟨w.heap.size + 1, 4, none⟩ = some (.bool o5) ∧ W.cell? ⟨w.heap.size + 1, 5, none⟩ = some (.int .u32 o6) ∧ W.cell? ⟨w.heap.size + 1, 6, none⟩ = some (.int .i64 o7) ∧ w.heap.size + 1 < W.heap.size :=
  ⟨(blk_cell h.b2 0).trans rfl, (blk_cell h.b2 1).trans rfl, (blk_cell h.b2 2).trans rfl, (blk_cell h.b2 3).trans rfl, (blk_cell h.b2 4).trans rfl, (blk_cell h.b2 5).trans rfl, (blk_cell h.b2 6).trans rfl, blk_lt h.b2⟩
set_option maxRecDepth 100000 in
set_option maxHeartbeats 4000000 in
theorem embed_Frame.calls (A0_0 : Option Addr) (c0_0 : Nat) (l0_0 : List S50) (a0_1 : Int) (a0_2 : ByteArray) (a0_3 : Int) (a0_4 : ByteArray) (a1 : Int) (a2_0 : Bool) (a2_1 : Int) (a2_2 a2_3 : ByteArray) (a2_4 : Bool) (a2_5 a2_6 : Int) (A3 : Option Addr) (c3 : Nat) (l3 : List S35) (r : Int) (w : World)
    (hr0_0 : Kd.C k50 w A0_0 l0_0.length l0_0) (hc0_0 : l0_0.length ≤ c0_0) (hr3 : Kd.C k35 w A3 l3.length l3) (hc3 : l3.length ≤ c3) (hG : Gw w) (h : embed_Frame.f l0_0 a0_1 a0_2 a0_3 a0_4 a1 a2_0 a2_1 a2_2 a2_3 a2_4 a2_5 a2_6 l3 = some r) :
    Calls Tryd.prog 47 #[.agg #[.slice A0_0 l0_0.length c0_0, .int .i64 a0_1, .string a0_2, .int .i64 a0_3, .string a0_4], .int .i64 a1, .agg #[.bool a2_0, .int .i64 a2_1, .string a2_2, .string a2_3, .bool a2_4, .int .u32 a2_5, .int .i64 a2_6], .slice A3 l3.length c3] w
      fun e w' => e = .returned (.int .i64 r) ∧ Below w.heap.size w w' := by
  have hlen := hr0_0.2.1
  have HF := Lib.hid h
  have HR := Lib.hid hr0_0
  have HS := Lib.hid hr3
  have HCS := Lib.hid hc3
  have HG := Lib.hid hG
  have HW0 : Hid (Wf w ((w.alloc (.cells #[.slice A0_0 l0_0.length c0_0, .int .i64 a0_1, .string a0_2, .int .i64 a0_3, .string a0_4] 104)).alloc (.cells #[.bool a2_0, .int .i64 a2_1, .string a2_2, .string a2_3, .bool a2_4, .int .u32 a2_5, .int .i64 a2_6] 35)) #[.slice A0_0 l0_0.length c0_0, .int .i64 a0_1, .string a0_2, .int .i64 a0_3, .string a0_4] (orgCs a2_0 a2_1 a2_2 a2_3 a2_4 a2_5 a2_6)) := by
    refine Lib.hid ⟨((Below.refl _ _).alloc (Nat.le_refl _) _).alloc (by simp) _, (Below.heap_alloc _ _ _ (by simp)).trans (blk_new w _), ?_⟩
    have := blk_new (w.alloc (.cells #[.slice A0_0 l0_0.length c0_0, .int .i64 a0_1, .string a0_2, .int .i64 a0_3, .string a0_4] 104)) (.cells #[.bool a2_0, .int .i64 a2_1, .string a2_2, .string a2_3, .bool a2_4, .int .u32 a2_5, .int .i64 a2_6] 35 (0, 0))
    rwa [World.size_alloc] at this
  clear h hr0_0 hc0_0 hr3 hc3 hG
  unfold embed_Frame.f at HF
  go_enter Tryd.func47, Tryd.ntmps47
  go_wp2_with fail
  repeat (any_goals (go_step3; go_wp2_with fail))
  go_loopw [9, 10, 16] (fun s9 s10 s16 wr => ∃ (b : Bool) (j : Nat), s9 = .int .i64 0 ∧ s10 = .bool b ∧ s16 = .int .i64 j ∧ j ≤ l0_0.length ∧ Aside (frameL a1 a2_0 a2_1 a2_2 a2_3 a2_4 a2_5 a2_6 l3 b (l0_0.drop j) = some r) ∧ Aside (Wf w wr #[.slice A0_0 l0_0.length c0_0, .int .i64 a0_1, .string a0_2, .int .i64 a0_3, .string a0_4] (orgCs a2_0 a2_1 a2_2 a2_3 a2_4 a2_5 a2_6))) (fun _ _ s16 _ => l0_0.length - (intOf s16).toNat)
  case atStart => exact ⟨false, 0, rfl, rfl, rfl, Nat.zero_le _, HF.out, HW0.out⟩
  case round =>
    obtain ⟨b, j, rfl, rfl, rfl, hj, HL, HW⟩ := hrel
    clear HF HW0
    have BA : Hid (∀ o : Obj, Below wr.heap.size wr (wr.alloc o)) := Lib.hid fun o => (Below.refl _ _).alloc (Nat.le_refl _) _
    have HGW := Lib.hid (HG.out.to HW.out.below)
    have HSW := Lib.hid (Kd.C_below HS.out HW.out.below)
    obtain ⟨o0, o1, o2, o3, o4, o5, o6, oz⟩ := HW.out.org
    by_cases hlt : j < l0_0.length
    · have hlti : (j : Int) < (l0_0.length : Int) := by omega
      have h2 := HL.out
      rw [List.drop_eq_getElem_cons hlt] at h2
      have hrd : rd_T50 l0_0 (j : Int) = l0_0[j] := by
        unfold rd_T50
        rw [show ((j : Int).toNat) = j from rfl, List.getD_eq_getElem?_getD, List.getElem?_eq_getElem hlt]; rfl
      rw [← hrd] at h2
      clear hrd HL
      obtain ⟨ad, A1, c1, A2, c2, rfl, x0, x1, x2, x3, le1, C1, le2, C2⟩ := at_T50 (Kd.C_below HR.out HW.out.below) (j : Int) (by omega) hlti
      simp only [Int.toNat_natCast] at x0 x1 x2 x3
      generalize rd_T50 l0_0 (j : Int) = p at h2 x0 x1 x2 x3 le1 C1 le2 C2
      obtain ⟨p0, p1, p2, p3⟩ := p
      simp only [frameL] at h2
      obtain ⟨t, ht, h3⟩ := Option.bind_eq_some_iff.1 h2
      clear h2
      have HI1 := Lib.hid C1
      have HI2 := Lib.hid C2
      have HL1 := Lib.hid le1
      have HL2 := Lib.hid le2
      have HT := Lib.hid ht
      clear C1 C2 le1 le2 ht
      cases t
      · -- a policy bars it
        rw [if_neg (by simp)] at h3
        cases hb : (b || p0) with
        | true =>
          rw [hb] at h3
          have HE := Lib.hid (Option.some.inj h3)
          clear h3
          cases b <;> cases p0 <;> first
            | (simp at hb; done)
            | (clear hb
               go_wp2_with (go_at_call 21; (with_reducible refine (cspmatch_Frames.calls _ _ _ p1 p2 _ _ p3 a2_0 a2_1 a2_2 a2_3 a2_4 a2_5 a2_6 _ _ l3 false _ (Kd.C_below HI1.out (BA.out _)) HL1.out (Kd.C_below HI2.out (BA.out _)) HL2.out (Kd.C_below HSW.out (BA.out _)) HCS.out (HGW.out.to (BA.out _)) HT.out).mono ?_); rintro e w2 ⟨rfl, hb2⟩; have HW2 := Lib.hid (HW.out.to (below_step (BA.out _) hb2)); clear hb2)
               repeat (any_goals (go_step3; go_wp2_with fail))
               (try rw [Exit.noGoto_ret]); go_ret
               exact ⟨ret_int HE.out, HW2.out.below⟩)
        | false =>
          obtain ⟨rfl, rfl⟩ : b = false ∧ p0 = false := by cases b <;> cases p0 <;> simp_all
          rw [hb] at h3
          unfold frameEnd at h3
          rw [if_neg (by simp)] at h3
          obtain ⟨q, hq, h4⟩ := Option.bind_eq_some_iff.1 h3
          have HQ := Lib.hid hq
          have HE := Lib.hid (Option.some.inj h4)
          clear h3 hq h4 hb
          cases q <;>
          · go_wp2_with (first | (go_at_call 21; (with_reducible refine (cspmatch_Frames.calls _ _ _ p1 p2 _ _ p3 a2_0 a2_1 a2_2 a2_3 a2_4 a2_5 a2_6 _ _ l3 false _ (Kd.C_below HI1.out (BA.out _)) HL1.out (Kd.C_below HI2.out (BA.out _)) HL2.out (Kd.C_below HSW.out (BA.out _)) HCS.out (HGW.out.to (BA.out _)) HT.out).mono ?_); rintro e w2 ⟨rfl, hb2⟩; have HW2 := Lib.hid (HW.out.to (below_step (BA.out _) hb2)); clear hb2; obtain ⟨o0, o1, o2, o3, o4, o5, o6, oz⟩ := HW2.out.org) | (go_at_call 25; (with_reducible refine (embed_Xfo.calls a1 a2_0 a2_1 a2_2 a2_3 a2_4 a2_5 a2_6 _ _ l3 _ _ (Kd.C_below HS.out HW2.out.below) HCS.out HQ.out).mono ?_); rintro e w3 ⟨rfl, hb3⟩; have HW3 := Lib.hid (HW2.out.to hb3); clear hb3))
            repeat (any_goals (go_step3; go_wp2_with (go_at_call 25; (with_reducible refine (embed_Xfo.calls a1 a2_0 a2_1 a2_2 a2_3 a2_4 a2_5 a2_6 _ _ l3 _ _ (Kd.C_below HS.out HW2.out.below) HCS.out HQ.out).mono ?_); rintro e w3 ⟨rfl, hb3⟩; have HW3 := Lib.hid (HW2.out.to hb3); clear hb3)))
            (try rw [Exit.noGoto_ret]); go_ret
            exact ⟨ret_int HE.out, HW3.out.below⟩
      · -- this policy lets it
        rw [if_pos rfl] at h3
        have HE := Lib.hid h3
        clear h3
        cases b <;> cases p0 <;>
        · go_wp2_with (go_at_call 21; (with_reducible refine (cspmatch_Frames.calls _ _ _ p1 p2 _ _ p3 a2_0 a2_1 a2_2 a2_3 a2_4 a2_5 a2_6 _ _ l3 true _ (Kd.C_below HI1.out (BA.out _)) HL1.out (Kd.C_below HI2.out (BA.out _)) HL2.out (Kd.C_below HSW.out (BA.out _)) HCS.out (HGW.out.to (BA.out _)) HT.out).mono ?_); rintro e w2 ⟨rfl, hb2⟩; have HW2 := Lib.hid (HW.out.to (below_step (BA.out _) hb2)); clear hb2)
          repeat (any_goals (go_step3; go_wp2_with fail))
          go_roundw
          case rel => exact ⟨_, j + 1, rfl, rfl, by go_num, by omega, HE.out, HW2.out⟩
          case measure => simp [intOf]; omega
    · have hlti : ¬ (j : Int) < (l0_0.length : Int) := by omega
      obtain rfl : j = l0_0.length := by omega
      have h2 := HL.out
      rw [List.drop_length] at h2
      simp only [frameL] at h2
      unfold frameEnd at h2
      clear HL
      cases b
      · rw [if_neg (by simp)] at h2
        obtain ⟨q, hq, h4⟩ := Option.bind_eq_some_iff.1 h2
        have HQ := Lib.hid hq
        have HE := Lib.hid (Option.some.inj h4)
        clear h2 hq h4
        cases q <;>
        · go_wp2_with (go_at_call 25; (with_reducible refine (embed_Xfo.calls a1 a2_0 a2_1 a2_2 a2_3 a2_4 a2_5 a2_6 _ _ l3 _ _ HSW.out HCS.out HQ.out).mono ?_); rintro e w3 ⟨rfl, hb3⟩; have HW3 := Lib.hid (HW.out.to hb3); clear hb3)
          repeat (any_goals (go_step3; go_wp2_with (go_at_call 25; (with_reducible refine (embed_Xfo.calls a1 a2_0 a2_1 a2_2 a2_3 a2_4 a2_5 a2_6 _ _ l3 _ _ HSW.out HCS.out HQ.out).mono ?_); rintro e w3 ⟨rfl, hb3⟩; have HW3 := Lib.hid (HW.out.to hb3); clear hb3)))
          (try rw [Exit.noGoto_ret]); go_ret
          exact ⟨ret_int HE.out, HW3.out.below⟩
      · rw [if_pos rfl] at h2
        have HE := Lib.hid (Option.some.inj h2)
        clear h2
        go_wp2_with fail
        repeat (any_goals (go_step3; go_wp2_with fail))
        (try rw [Exit.noGoto_ret]); go_ret
        exact ⟨ret_int HE.out, HW.out.below⟩
end Go.Proofs.YtgmacggbhcodjaaDoor.Q

