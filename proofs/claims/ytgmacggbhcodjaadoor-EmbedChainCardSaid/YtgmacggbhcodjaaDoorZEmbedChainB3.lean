/- A part of the claim EmbedChain: B3. -/
import Derived.Test.YtgmacggbhcodjaaDoorZEmbedChainA9
namespace Go.Proofs.YtgmacggbhcodjaaDoor.Q
set_option linter.unusedVariables false
set_option linter.unusedSimpArgs false
open Go.RowKit Go.Proofs.YtgmacggbhcodjaaDoorW.PrintWords
def addrByte (a : Int) (k : Nat) : Int := wrap64 (bits BinOp.and IntKind.u32 (a / 2 ^ (24 - 8 * k)) 255)
def host_Text.f (a0_0 : ByteArray) (a0_1 : Bool) (a0_2 : Int) : Option ByteArray :=
  if a0_1 = true then (strconv_Itoa.f (addrByte a0_2 0)).bind fun t0 => (strconv_Itoa.f (addrByte a0_2 1)).bind fun t1 => (strconv_Itoa.f (addrByte a0_2 2)).bind fun t2 => (strconv_Itoa.f (addrByte a0_2 3)).bind fun t3 => strings_Join.f [t0, t1, t2, t3] ⟨#[46]⟩
  else some a0_0
def fourOf (t0 t1 t2 t3 : ByteArray) (k : Nat) : Array Value := #[.string (if 0 < k then t0 else ⟨#[]⟩), .string (if 1 < k then t1 else ⟨#[]⟩), .string (if 2 < k then t2 else ⟨#[]⟩), .string (if 3 < k then t3 else ⟨#[]⟩)]
set_option maxRecDepth 100000 in
set_option maxHeartbeats 4000000 in
theorem host_text (a1 : ByteArray) (a3 : Int) (w : World) (hG : Gw w) (t0 t1 t2 t3 r : ByteArray) (h0 : strconv_Itoa.f (addrByte a3 0) = some t0) (h1 : strconv_Itoa.f (addrByte a3 1) = some t1) (h2 : strconv_Itoa.f (addrByte a3 2) = some t2) (h3 : strconv_Itoa.f (addrByte a3 3) = some t3) (hj : strings_Join.f [t0, t1, t2, t3] ⟨#[46]⟩ = some r) :
    Calls Tryd.prog 68 #[.agg #[.string a1, .bool true, .int .u32 a3]] w fun e w' => e = .returned (.string r) ∧ Below w.heap.size w w' := by
  have HG := Lib.hid hG
  have T0 := Lib.hid h0
  have T1 := Lib.hid h1
  have T2 := Lib.hid h2
  have T3 := Lib.hid h3
  have HJ := Lib.hid hj
  have h3' : strconv_Itoa.f (wrap64 (bits BinOp.and IntKind.u32 a3 255)) = some t3 := by
    have e : addrByte a3 3 = wrap64 (bits BinOp.and IntKind.u32 a3 255) := by
      unfold addrByte
      rw [show (24 - 8 * 3 : Nat) = 0 from rfl, Int.pow_zero, Int.ediv_one]
    rw [← e]; exact h3
  have T3' := Lib.hid h3'
  clear hG h0 h1 h2 h3 hj h3'
  have BW : Hid (Below w.heap.size w ((w.alloc (.cells #[.string a1, .bool true, .int .u32 a3] 26)).alloc (.cells (fourOf t0 t1 t2 t3 0) 140))) := ((Below.refl _ _).alloc (Nat.le_refl _) _).alloc (by simp) _
  have B1 : Hid (((w.alloc (.cells #[.string a1, .bool true, .int .u32 a3] 26)).alloc (.cells (fourOf t0 t1 t2 t3 0) 140)).heap[w.heap.size]? = some (.cells #[.string a1, .bool true, .int .u32 a3] 26 (0, 0))) := (Below.heap_alloc _ _ _ (by simp)).trans (blk_new w _)
  have B2 : Hid (((w.alloc (.cells #[.string a1, .bool true, .int .u32 a3] 26)).alloc (.cells (fourOf t0 t1 t2 t3 0) 140)).heap[w.heap.size + 1]? = some (.cells (fourOf t0 t1 t2 t3 0) 140 (0, 0))) := by
    have := blk_new (w.alloc (.cells #[.string a1, .bool true, .int .u32 a3] 26)) (.cells (fourOf t0 t1 t2 t3 0) 140 (0, 0))
    rwa [World.size_alloc] at this
  go_enter Tryd.func68, Tryd.ntmps68
  go_wp2_with fail
  go_loopw [4, 10] (fun _ i wr => ∃ k : Nat, k ≤ 4 ∧ i = .int .i64 k ∧ Aside (Below w.heap.size w wr) ∧ Aside (wr.heap[w.heap.size]? = some (.cells #[.string a1, .bool true, .int .u32 a3] 26 (0, 0))) ∧ Aside (wr.heap[w.heap.size + 1]? = some (.cells (fourOf t0 t1 t2 t3 k) 140 (0, 0)))) (fun _ i _ => 4 - (intOf i).toNat)
  case atStart => exact ⟨0, by omega, rfl, BW.out, B1.out, B2.out⟩
  case round =>
    clear BW B1 B2
    obtain ⟨k, hk, rfl, HB, H1, H2⟩ := hrel
    have c2 : wr.cell? ⟨w.heap.size, 2, none⟩ = some (.int .u32 a3) := (blk_cell H1.out 2).trans rfl
    have HGW := Lib.hid (HG.out.to HB.out)
    rcases Nat.lt_or_ge k 4 with hlt | hge
    · rcases (by omega : k = 0 ∨ k = 1 ∨ k = 2 ∨ k = 3) with rfl | rfl | rfl | rfl
      · clear hk hlt
        go_wp2_with (go_at_call 50; refine (strconv_Itoa.calls _ _ _ HGW.out T0.out).mono ?_; rintro e w2 ⟨rfl, hb⟩; have X0 := Lib.hid (below_step HB.out hb); have X1 := Lib.hid (blk_below H1.out hb); have X2 := Lib.hid (blk_below H2.out hb); clear hb; have d0 : w2.cell? ⟨w.heap.size + 1, 0, none⟩ = some (.string ⟨#[]⟩) := (blk_cell X2.out 0).trans rfl; have d0f := blk_frozen X2.out 0)
        go_roundw
        case rel => exact ⟨1, by omega, by go_num, below_set X0.out (by omega), (Below.heap_setCell _ _ _ _ (by show w.heap.size ≠ w.heap.size + 1; omega)).trans X1.out, blk_put X2.out 0 _ rfl⟩
        case measure => simp [intOf]
      · clear hk hlt
        go_wp2_with (go_at_call 50; refine (strconv_Itoa.calls _ _ _ HGW.out T1.out).mono ?_; rintro e w2 ⟨rfl, hb⟩; have X0 := Lib.hid (below_step HB.out hb); have X1 := Lib.hid (blk_below H1.out hb); have X2 := Lib.hid (blk_below H2.out hb); clear hb; have d1 : w2.cell? ⟨w.heap.size + 1, 1, none⟩ = some (.string ⟨#[]⟩) := (blk_cell X2.out 1).trans rfl; have d1f := blk_frozen X2.out 1)
        go_roundw
        case rel => exact ⟨2, by omega, by go_num, below_set X0.out (by omega), (Below.heap_setCell _ _ _ _ (by show w.heap.size ≠ w.heap.size + 1; omega)).trans X1.out, blk_put X2.out 1 _ rfl⟩
        case measure => simp [intOf]
      · clear hk hlt
        go_wp2_with (go_at_call 50; refine (strconv_Itoa.calls _ _ _ HGW.out T2.out).mono ?_; rintro e w2 ⟨rfl, hb⟩; have X0 := Lib.hid (below_step HB.out hb); have X1 := Lib.hid (blk_below H1.out hb); have X2 := Lib.hid (blk_below H2.out hb); clear hb; have d2 : w2.cell? ⟨w.heap.size + 1, 2, none⟩ = some (.string ⟨#[]⟩) := (blk_cell X2.out 2).trans rfl; have d2f := blk_frozen X2.out 2)
        go_roundw
        case rel => exact ⟨3, by omega, by go_num, below_set X0.out (by omega), (Below.heap_setCell _ _ _ _ (by show w.heap.size ≠ w.heap.size + 1; omega)).trans X1.out, blk_put X2.out 2 _ rfl⟩
        case measure => simp [intOf]
      · clear hk hlt
        go_wp2_with (go_at_call 50; refine (strconv_Itoa.calls _ _ _ HGW.out T3'.out).mono ?_; rintro e w2 ⟨rfl, hb⟩; have X0 := Lib.hid (below_step HB.out hb); have X1 := Lib.hid (blk_below H1.out hb); have X2 := Lib.hid (blk_below H2.out hb); clear hb; have d3 : w2.cell? ⟨w.heap.size + 1, 3, none⟩ = some (.string ⟨#[]⟩) := (blk_cell X2.out 3).trans rfl; have d3f := blk_frozen X2.out 3)
        go_roundw
        case rel => exact ⟨4, by omega, by go_num, below_set X0.out (by omega), (Below.heap_setCell _ _ _ _ (by show w.heap.size ≠ w.heap.size + 1; omega)).trans X1.out, blk_put X2.out 3 _ rfl⟩
        case measure => simp [intOf]
    · obtain rfl : k = 4 := by omega
      have hR := R_str (w := wr) (e := 140) (base := w.heap.size) (g := w.heap.size + 1) (cap := 4) (xs := [t0, t1, t2, t3]) (by omega) H2.out (by simp) (by unfold maxLen; omega) rfl rfl
      obtain ⟨A, c, ho, hcap, hrd⟩ := Kd.R_reads hR
      have e1 : A = some ⟨w.heap.size + 1, 0, none⟩ := by injection ho with q1 q2 q3; exact q1.symm
      have e2 : c = 4 := by injection ho with q1 q2 q3; exact q3.symm
      subst e1
      subst e2
      have HRD := Lib.hid hrd
      have HCAP := Lib.hid hcap
      clear hR ho hrd hcap hk hge
      go_wp2_with (go_at_call 78; refine (strings_Join.calls _ 4 [t0, t1, t2, t3] _ _ _ HRD.out HCAP.out HJ.out).mono ?_; rintro e w2 ⟨rfl, hb⟩; have X0 := Lib.hid (below_step HB.out hb); clear hb)
      go_ret
      exact ⟨rfl, X0.out⟩
theorem host_Text.calls (a0_0 : ByteArray) (a0_1 : Bool) (a0_2 : Int) (r : ByteArray) (w : World) (hG : Gw w) (h : host_Text.f a0_0 a0_1 a0_2 = some r) :
    Calls Tryd.prog 68 #[.agg #[.string a0_0, .bool a0_1, .int .u32 a0_2]] w fun e w' => e = .returned (.string r) ∧ Below w.heap.size w w' := by
  unfold host_Text.f at h
  cases a0_1
  · rw [if_neg (by simp)] at h
    obtain rfl := Option.some.inj h
    clear h
    have HB := Lib.hid ((Below.refl w.heap.size w).alloc (Nat.le_refl _) (.cells #[.string a0_0, .bool false, .int .u32 a0_2] 26))
    go_enter Tryd.func68, Tryd.ntmps68
    go_wp2_with fail
    go_ret
    exact ⟨rfl, HB.out⟩
  · rw [if_pos rfl] at h
    obtain ⟨t0, h0, h⟩ := Option.bind_eq_some_iff.1 h
    obtain ⟨t1, h1, h⟩ := Option.bind_eq_some_iff.1 h
    obtain ⟨t2, h2, h⟩ := Option.bind_eq_some_iff.1 h
    obtain ⟨t3, h3, hj⟩ := Option.bind_eq_some_iff.1 h
    exact host_text a0_0 a0_2 w hG t0 t1 t2 t3 r h0 h1 h2 h3 hj
end Go.Proofs.YtgmacggbhcodjaaDoor.Q

