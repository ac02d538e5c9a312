/- A part of the claim EmbedChain: BM. -/
import Derived.Test.YtgmacggbhcodjaaDoorZEmbedChainB2
import Derived.Test.YtgmacggbhcodjaaDoorZEmbedChainN1
import Derived.Laws.NewBlocks
namespace Go.Proofs.YtgmacggbhcodjaaDoor.Q
set_option linter.unusedVariables false
set_option linter.unusedSimpArgs false
open Go.RowKit Go.Proofs.YtgmacggbhcodjaaDoorW.PrintWords
abbrev lHttp : List UInt8 := [104, 116, 116, 112]
abbrev lHttps : List UInt8 := [104, 116, 116, 112, 115]
def togB (a b : ByteArray) : Bool := (a.toList == b.toList) || ((a.toList == lHttp) && (b.toList == lHttps))
theorem tog_same (a b : ByteArray) (w : World) : Calls Tryd.prog 63 #[.string a, .string b] w fun e w' => e = .returned (.bool (togB a b)) ∧ w = w' := by
  unfold togB
  cases h1 : (a.toList == b.toList)
  · cases h2 : (a.toList == lHttp)
    · go_enter Tryd.func63, Tryd.ntmps63
      go_wp2
      go_ret
      exact ⟨rfl, rfl⟩
    · go_enter Tryd.func63, Tryd.ntmps63
      go_wp2
      go_ret
      exact ⟨rfl, rfl⟩
  · go_enter Tryd.func63, Tryd.ntmps63
    go_wp2
    go_ret
    exact ⟨rfl, rfl⟩
def ownB (s : ByteArray) (p : Int) : Bool := ((s.toList == lHttp) && (p == 80)) || ((s.toList == lHttps) && (p == 443))
set_option maxRecDepth 100000 in
set_option maxHeartbeats 2000000 in
theorem own_below (o1 : Bool) (o2 : Int) (o3 o4 : ByteArray) (o5 : Bool) (o6 o7 : Int) (w : World) : Calls Tryd.prog 64 #[.agg #[.bool o1, .int .i64 o2, .string o3, .string o4, .bool o5, .int .u32 o6, .int .i64 o7]] w fun e w' => e = .returned (.bool (ownB o3 o7)) ∧ Below w.heap.size w w' := by
  have HB : Hid (∀ o : Obj, Below w.heap.size w (w.alloc o)) := Lib.hid fun o => (Below.refl _ _).alloc (Nat.le_refl _) _
  unfold ownB
  cases h1 : (o3.toList == lHttp) <;> cases h2 : (o3.toList == lHttps) <;> cases h3 : (o7 == 80) <;> cases h4 : (o7 == 443) <;>
  · go_enter Tryd.func64, Tryd.ntmps64
    go_wp2
    go_ret
    exact ⟨rfl, HB.out _⟩
theorem eqHost (d : Nat) (w : World) (x0 y0 : ByteArray) (x1 y1 : Bool) (x2 y2 : Int) :
    (Op.equalIn (d + 2) 26 (.agg #[.string x0, .bool x1, .int .u32 x2]) (.agg #[.string y0, .bool y1, .int .u32 y2])).run Tryd.prog w = .ok (x0.toList == y0.toList && (x1 == y1 && (x2 == y2))) w := by
  refine eqA_of Tryd.underlying26 (by kernel_rfl) ?_
  refine eqf_cons (by rfl) (by go_simp; rfl) (by go_simp; rfl) (by go_simp) ?_
  refine eqf_cons (by rfl) (by go_simp; rfl) (by go_simp; rfl) (by go_simp) ?_
  exact eqf_last (by rfl) (by go_simp; rfl) (by go_simp; rfl) (by go_simp)
structure Wm (w W : World) (cs os ss : Array Value) : Prop where
  below : Below w.heap.size w W
  b1 : W.heap[w.heap.size]? = some (.cells cs 97 (0, 0))
  b2 : W.heap[w.heap.size + 1]? = some (.cells os 35 (0, 0))
  b3 : W.heap[w.heap.size + 1 + 1]? = some (.cells ss 35 (0, 0))
theorem Wm.to {w W W1 : World} {cs os ss : Array Value} (h : Wm w W cs os ss) (hb : Below W.heap.size W W1) : Wm w W1 cs os ss := ⟨below_step h.below hb, blk_below h.b1 hb, blk_below h.b2 hb, blk_below h.b3 hb⟩
abbrev srcCs (k : Int) (s1 s2 : ByteArray) (p : Int) : Array Value := #[.int .i64 k, .string s1, .string s2, .int .i64 p]
theorem org7 {W : World} {g : Nat} {o1 : Bool} {o2 : Int} {o3 o4 : ByteArray} {o5 : Bool} {o6 o7 : Int} (h : W.heap[g]? = some (.cells (orgCs o1 o2 o3 o4 o5 o6 o7) 35 (0, 0))) :
    W.cell? ⟨g, 0, none⟩ = some (.bool o1) ∧ W.cell? ⟨g, 1, none⟩ = some (.int .i64 o2) ∧ W.cell? ⟨g, 2, none⟩ = some (.string o3) ∧ W.cell? ⟨g, 3, none⟩ = some (.string o4) ∧ W.cell? ⟨g, 4, none⟩ = some (.bool o5) ∧ W.cell? ⟨g, 5, none⟩ = some (.int .u32 o6) ∧ W.cell? ⟨g, 6, none⟩ = some (.int .i64 o7) :=
  ⟨(blk_cell h 0).trans rfl, (blk_cell h 1).trans rfl, (blk_cell h 2).trans rfl, (blk_cell h 3).trans rfl, (blk_cell h 4).trans rfl, (blk_cell h 5).trans rfl, (blk_cell h 6).trans rfl⟩
theorem src4 {W : World} {g : Nat} {k : Int} {s1 s2 : ByteArray} {p : Int} (h : W.heap[g]? = some (.cells (srcCs k s1 s2 p) 97 (0, 0))) :
    W.cell? ⟨g, 0, none⟩ = some (.int .i64 k) ∧ W.cell? ⟨g, 1, none⟩ = some (.string s1) ∧ W.cell? ⟨g, 2, none⟩ = some (.string s2) ∧ W.cell? ⟨g, 3, none⟩ = some (.int .i64 p) :=
  ⟨(blk_cell h 0).trans rfl, (blk_cell h 1).trans rfl, (blk_cell h 2).trans rfl, (blk_cell h 3).trans rfl⟩
def portsB (o3 : ByteArray) (o7 : Int) (q3 : ByteArray) (q7 : Int) : Bool := (o7 == q7) || (ownB o3 o7 && ownB q3 q7)
def hostB (q4 : ByteArray) (q5 : Bool) (q6 : Int) (o4 : ByteArray) (o5 : Bool) (o6 : Int) : Bool := q4.toList == o4.toList && (q5 == o5 && (q6 == o6))
def selfB (o1 : Bool) (o2 : Int) (o3 o4 : ByteArray) (o5 : Bool) (o6 o7 : Int) (q1 : Bool) (q2 : Int) (q3 q4 : ByteArray) (q5 : Bool) (q6 q7 : Int) : Bool :=
  sameB o1 o2 o3 o4 o5 o6 o7 ⟨q1, q2, q3, ⟨q4, q5, q6⟩, q7⟩ || (!q1 && (hostB q4 q5 q6 o4 o5 o6 && (togB q3 o3 && portsB o3 o7 q3 q7)))
def fitsB (s1 o3 : ByteArray) (q1 : Bool) (q3 : ByteArray) : Bool := if (s1.toList == []) = true then (if q1 = true then ((o3.toList == lHttp) || (o3.toList == lHttps)) else togB q3 o3) else togB s1 o3
def portB (p : Int) (o3 : ByteArray) (o7 : Int) : Bool := (p == -2) || ((p == o7) || (((p == -1) && ownB o3 o7) || ((p == 80) && ((o3.toList == lHttps) && (o7 == 443)))))
def cspmatch_Match.f (k : Int) (s1 s2 : ByteArray) (p : Int) (o1 : Bool) (o2 : Int) (o3 o4 : ByteArray) (o5 : Bool) (o6 o7 : Int) (q1 : Bool) (q2 : Int) (q3 q4 : ByteArray) (q5 : Bool) (q6 q7 : Int) : Option Bool :=
  if o1 = true then some false else if k = 2 then some true else if k = 3 then some (togB s1 o3) else if k = 1 then some (selfB o1 o2 o3 o4 o5 o6 o7 q1 q2 q3 q4 q5 q6 q7)
  else if k = 4 then (if (fitsB s1 o3 q1 q3 && portB p o3 o7) = true then N1.cspmatch_named.f s2 o1 o2 o3 o4 o5 o6 o7 else some false) else some false
theorem wm_start (w : World) (cs os ss : Array Value) : Wm w (((w.alloc (.cells cs 97)).alloc (.cells os 35)).alloc (.cells ss 35)) cs os ss := by
  refine ⟨(((Below.refl _ _).alloc (Nat.le_refl _) _).alloc (by simp) _).alloc (by simp; omega) _, ?_, ?_, ?_⟩
  · exact blk_alloc (blk_alloc (blk_new w _) _) _
  · refine blk_alloc ?_ _
    have := blk_new (w.alloc (.cells cs 97)) (.cells os 35 (0, 0))
    rwa [World.size_alloc] at this
  · have := blk_new ((w.alloc (.cells cs 97)).alloc (.cells os 35)) (.cells ss 35 (0, 0))
    rwa [World.size_alloc, World.size_alloc] at this
set_option maxRecDepth 100000 in
set_option maxHeartbeats 4000000 in
theorem match_early (k : Int) (s1 s2 : ByteArray) (p : Int) (o1 : Bool) (o2 : Int) (o3 o4 : ByteArray) (o5 : Bool) (o6 o7 : Int) (q1 : Bool) (q2 : Int) (q3 q4 : ByteArray) (q5 : Bool) (q6 q7 : Int) (w : World) (r : Bool) (h : (o1 = true ∧ r = false) ∨ (o1 = false ∧ k = 2 ∧ r = true) ∨ (o1 = false ∧ k = 3 ∧ r = togB s1 o3) ∨ (o1 = false ∧ k ≠ 1 ∧ k ≠ 2 ∧ k ≠ 3 ∧ k ≠ 4 ∧ r = false)) :
    Calls Tryd.prog 43 #[.agg #[.int .i64 k, .string s1, .string s2, .int .i64 p], .agg #[.bool o1, .int .i64 o2, .string o3, .string o4, .bool o5, .int .u32 o6, .int .i64 o7], .agg #[.bool q1, .int .i64 q2, .string q3, .string q4, .bool q5, .int .u32 q6, .int .i64 q7]] w fun e w' => e = .returned (.bool r) ∧ Below w.heap.size w w' := by
  have HB : Hid (∀ x y z : Obj, Below w.heap.size w (((w.alloc x).alloc y).alloc z)) := Lib.hid fun x y z => (((Below.refl _ _).alloc (Nat.le_refl _) _).alloc (by simp) _).alloc (by simp; omega) _
  have HT := Lib.hid (fun W : World => tog_same s1 o3 W)
  rcases h with ⟨rfl, rfl⟩ | ⟨rfl, rfl, rfl⟩ | ⟨rfl, rfl, rfl⟩ | ⟨rfl, n1, n2, n3, n4, rfl⟩
  · go_enter Tryd.func43, Tryd.ntmps43
    go_wp2_with fail
    go_ret
    exact ⟨rfl, HB.out _ _ _⟩
  · go_enter Tryd.func43, Tryd.ntmps43
    go_wp2_with fail
    go_ret
    exact ⟨rfl, HB.out _ _ _⟩
  · go_enter Tryd.func43, Tryd.ntmps43
    go_wp2_with (go_at_call 63; (with_reducible refine (HT.out _).mono ?_); rintro e w' ⟨rfl, rfl⟩)
    go_ret
    exact ⟨rfl, HB.out _ _ _⟩
  · have b1 : (k == 1) = false := by simpa using n1
    have b2 : (k == 2) = false := by simpa using n2
    have b3 : (k == 3) = false := by simpa using n3
    have b4 : (k == 4) = false := by simpa using n4
    clear n1 n2 n3 n4
    go_enter Tryd.func43, Tryd.ntmps43
    go_wp2_with fail
    go_ret
    exact ⟨rfl, HB.out _ _ _⟩
attribute [local go_sem high] eqHost
set_option maxRecDepth 100000 in
set_option maxHeartbeats 4000000 in
theorem match_one (s1 s2 : ByteArray) (p o2 : Int) (o3 o4 : ByteArray) (o5 : Bool) (o6 o7 : Int) (q1 : Bool) (q2 : Int) (q3 q4 : ByteArray) (q5 : Bool) (q6 q7 : Int) (w : World) :
    Calls Tryd.prog 43 #[.agg #[.int .i64 1, .string s1, .string s2, .int .i64 p], .agg #[.bool false, .int .i64 o2, .string o3, .string o4, .bool o5, .int .u32 o6, .int .i64 o7], .agg #[.bool q1, .int .i64 q2, .string q3, .string q4, .bool q5, .int .u32 q6, .int .i64 q7]] w fun e w' => e = .returned (.bool (selfB false o2 o3 o4 o5 o6 o7 q1 q2 q3 q4 q5 q6 q7)) ∧ Below w.heap.size w w' := by
  have HW0 := Lib.hid (wm_start w (srcCs 1 s1 s2 p) (orgCs false o2 o3 o4 o5 o6 o7) (orgCs q1 q2 q3 q4 q5 q6 q7))
  have HO := Lib.hid (fun W : World => own_below false o2 o3 o4 o5 o6 o7 W)
  have HQ := Lib.hid (fun W : World => own_below q1 q2 q3 q4 q5 q6 q7 W)
  have HT := Lib.hid (fun W : World => tog_same q3 o3 W)
  have HS := Lib.hid (fun W : World => origin_Same.calls false o2 o3 o4 o5 o6 o7 q1 q2 q3 q4 q5 q6 q7 _ W (same_some false o2 o3 o4 o5 o6 o7 ⟨q1, q2, q3, ⟨q4, q5, q6⟩, q7⟩))
  have HP : Hid (portsB o3 o7 q3 q7 = portsB o3 o7 q3 q7) := rfl
  unfold selfB
  generalize hp : portsB o3 o7 q3 q7 = pv
  have HPV := Lib.hid hp
  unfold portsB at HPV
  clear hp HP
  generalize sameB false o2 o3 o4 o5 o6 o7 ⟨q1, q2, q3, ⟨q4, q5, q6⟩, q7⟩ = sm at HS ⊢
  generalize togB q3 o3 = tg at HT ⊢
  generalize hx : ownB o3 o7 = xo at HO HPV
  generalize hy : ownB q3 q7 = xq at HQ HPV
  clear hx hy
  unfold hostB
  go_enter Tryd.func43, Tryd.ntmps43
  go_upto_region 9 with (fail)
  go_cut [7] (fun v7 wx => v7 = .bool pv ∧ Aside (Wm w wx (srcCs 1 s1 s2 p) (orgCs false o2 o3 o4 o5 o6 o7) (orgCs q1 q2 q3 q4 q5 q6 q7)))
  case first =>
    cases e7 : (o7 == q7)
    · rw [e7] at HPV
      cases xo
      · go_wp2_with (go_at_call 64; (with_reducible refine (HO.out _).mono ?_); rintro e w1 ⟨rfl, hb⟩; have HW1 := Lib.hid (HW0.out.to hb); clear hb)
        go_meet
        exact ⟨by rw [← HPV.out]; rfl, HW1.out⟩
      · cases xq <;>
        · go_wp2_with (go_at_call 64; (with_reducible refine (HO.out _).mono ?_); rintro e w1 ⟨rfl, hb⟩; have HW := Lib.hid (HW0.out.to hb); clear hb; obtain ⟨s0, sa, sb, sc⟩ := src4 HW.out.b1; obtain ⟨x0, x1, x2, x3, x4, x5, x6⟩ := org7 HW.out.b2; obtain ⟨y0, y1, y2, y3, y4, y5, y6⟩ := org7 HW.out.b3)
          go_wp2_with (go_at_call 64; (with_reducible refine (HQ.out _).mono ?_); rintro e w2 ⟨rfl, hb⟩; have HW2 := Lib.hid (HW.out.to hb); clear hb)
          go_meet
          exact ⟨by rw [← HPV.out]; rfl, HW2.out⟩
    · rw [e7] at HPV
      go_wp2_with fail
      go_meet
      exact ⟨by rw [← HPV.out]; rfl, HW0.out⟩
  obtain ⟨rfl, HW⟩ := hcut
  clear HW0 HPV HO HQ
  obtain ⟨s0, sa, sb, sc⟩ := src4 HW.out.b1
  obtain ⟨x0, x1, x2, x3, x4, x5, x6⟩ := org7 HW.out.b2
  obtain ⟨y0, y1, y2, y3, y4, y5, y6⟩ := org7 HW.out.b3
  have same : Hid (∀ W : World, Below wc.heap.size wc W → Wm w W (srcCs 1 s1 s2 p) (orgCs false o2 o3 o4 o5 o6 o7) (orgCs q1 q2 q3 q4 q5 q6 q7)) := Lib.hid fun W hb => HW.out.to hb
  cases sm
  · cases q1
    · cases hh : (q4.toList == o4.toList && (q5 == o5 && (q6 == o6)))
      · go_wp2_with (go_at_call 16; (with_reducible refine (HS.out _).mono ?_); rintro e w1 ⟨rfl, hb⟩; have HW1 := Lib.hid (same.out _ hb); clear hb; obtain ⟨x0, x1, x2, x3, x4, x5, x6⟩ := org7 HW1.out.b2; obtain ⟨y0, y1, y2, y3, y4, y5, y6⟩ := org7 HW1.out.b3)
        go_ret
        exact ⟨by rw [hh]; rfl, HW1.out.below⟩
      · cases tg <;> cases pv <;>
        · go_wp2_with (first
            | (go_at_call 16; (with_reducible refine (HS.out _).mono ?_); rintro e w1 ⟨rfl, hb⟩; have HW1 := Lib.hid (same.out _ hb); clear hb; obtain ⟨x0, x1, x2, x3, x4, x5, x6⟩ := org7 HW1.out.b2; obtain ⟨y0, y1, y2, y3, y4, y5, y6⟩ := org7 HW1.out.b3)
            | (go_at_call 63; (with_reducible refine (HT.out _).mono ?_); rintro e w2 ⟨rfl, rfl⟩))
          go_ret
          exact ⟨by rw [hh]; rfl, HW1.out.below⟩
    · go_wp2_with (go_at_call 16; (with_reducible refine (HS.out _).mono ?_); rintro e w1 ⟨rfl, hb⟩; have HW1 := Lib.hid (same.out _ hb); clear hb; obtain ⟨x0, x1, x2, x3, x4, x5, x6⟩ := org7 HW1.out.b2; obtain ⟨y0, y1, y2, y3, y4, y5, y6⟩ := org7 HW1.out.b3)
      go_ret
      exact ⟨rfl, HW1.out.below⟩
  · go_wp2_with (go_at_call 16; (with_reducible refine (HS.out _).mono ?_); rintro e w1 ⟨rfl, hb⟩; have HW1 := Lib.hid (same.out _ hb); clear hb; obtain ⟨x0, x1, x2, x3, x4, x5, x6⟩ := org7 HW1.out.b2; obtain ⟨y0, y1, y2, y3, y4, y5, y6⟩ := org7 HW1.out.b3)
    go_ret
    exact ⟨rfl, HW1.out.below⟩
set_option maxRecDepth 100000 in
set_option maxHeartbeats 4000000 in
theorem match_host (s1 s2 : ByteArray) (p o2 : Int) (o3 o4 : ByteArray) (o5 : Bool) (o6 o7 : Int) (q1 : Bool) (q2 : Int) (q3 q4 : ByteArray) (q5 : Bool) (q6 q7 : Int) (r : Bool) (w : World) (hG : Gw w)
    (h : (if (fitsB s1 o3 q1 q3 && portB p o3 o7) = true then N1.cspmatch_named.f s2 false o2 o3 o4 o5 o6 o7 else some false) = some r) :
    Calls Tryd.prog 43 #[.agg #[.int .i64 4, .string s1, .string s2, .int .i64 p], .agg #[.bool false, .int .i64 o2, .string o3, .string o4, .bool o5, .int .u32 o6, .int .i64 o7], .agg #[.bool q1, .int .i64 q2, .string q3, .string q4, .bool q5, .int .u32 q6, .int .i64 q7]] w fun e w' => e = .returned (.bool r) ∧ Below w.heap.size w w' := by
  have HG := Lib.hid hG
  have HW0 := Lib.hid (wm_start w (srcCs 4 s1 s2 p) (orgCs false o2 o3 o4 o5 o6 o7) (orgCs q1 q2 q3 q4 q5 q6 q7))
  have HO := Lib.hid (fun W : World => own_below false o2 o3 o4 o5 o6 o7 W)
  have HT := Lib.hid (fun W : World => tog_same q3 o3 W)
  have HU := Lib.hid (fun W : World => tog_same s1 o3 W)
  have HF : Hid (fitsB s1 o3 q1 q3 = fitsB s1 o3 q1 q3) := rfl
  generalize hf : fitsB s1 o3 q1 q3 = fv at h
  generalize hp : portB p o3 o7 = pv at h
  have HFV := Lib.hid hf
  have HPV := Lib.hid hp
  have HH := Lib.hid h
  unfold fitsB at HFV
  unfold portB at HPV
  clear hf hp h HF hG
  go_enter Tryd.func43, Tryd.ntmps43
  go_upto_region 12 with (fail)
  go_cut [8] (fun v8 wx => v8 = .bool ((o3.toList == lHttp) || (o3.toList == lHttps)) ∧ wx = (((w.alloc (.cells #[.int .i64 4, .string s1, .string s2, .int .i64 p] 97)).alloc (.cells #[.bool false, .int .i64 o2, .string o3, .string o4, .bool o5, .int .u32 o6, .int .i64 o7] 35)).alloc (.cells #[.bool q1, .int .i64 q2, .string q3, .string q4, .bool q5, .int .u32 q6, .int .i64 q7] 35)))
  case first =>
    cases h1 : (o3.toList == lHttp)
    · go_wp2_with fail
      go_meet
      exact ⟨by rw [h1]; rfl, rfl⟩
    · go_wp2_with fail
      go_meet
      exact ⟨by rw [h1]; rfl, rfl⟩
  obtain ⟨rfl, rfl⟩ := hcut
  go_upto_block 1 with (fail)
  go_cut [8] (fun v8 wx => v8 = .bool fv ∧ wx = (((w.alloc (.cells #[.int .i64 4, .string s1, .string s2, .int .i64 p] 97)).alloc (.cells #[.bool false, .int .i64 o2, .string o3, .string o4, .bool o5, .int .u32 o6, .int .i64 o7] 35)).alloc (.cells #[.bool q1, .int .i64 q2, .string q3, .string q4, .bool q5, .int .u32 q6, .int .i64 q7] 35)))
  case first =>
    cases hs : (s1.toList == [])
    · have hs2 : (s1.toList != []) = true := by rw [bne, hs]; rfl
      have hs3 : s1.toList.isEmpty = false := by rw [← hs]; cases s1.toList <;> rfl
      have e : togB s1 o3 = fv := by have := HFV.out; rw [hs, if_neg (by simp)] at this; exact this
      subst e
      clear HFV
      go_wp2_with (go_at_call 63; (with_reducible refine (HU.out _).mono ?_); rintro e w1 ⟨rfl, rfl⟩)
      go_meet
      exact ⟨rfl, rfl⟩
    · have hs2 : (s1.toList != []) = false := by rw [bne, hs]; rfl
      have hs3 : s1.toList.isEmpty = true := by rw [← hs]; cases s1.toList <;> rfl
      cases q1
      · have e : togB q3 o3 = fv := by have := HFV.out; rw [hs, if_pos rfl, if_neg (by simp)] at this; exact this
        subst e
        clear HFV
        go_wp2_with (go_at_call 63; (with_reducible refine (HT.out _).mono ?_); rintro e w1 ⟨rfl, rfl⟩)
        go_meet
        exact ⟨rfl, rfl⟩
      · have e : ((o3.toList == lHttp) || (o3.toList == lHttps)) = fv := by have := HFV.out; rw [hs, if_pos rfl, if_pos rfl] at this; exact this
        subst e
        clear HFV
        go_wp2_with fail
        go_meet
        exact ⟨rfl, rfl⟩
  obtain ⟨rfl, rfl⟩ := hcut
  clear HFV HT HU
  go_upto_region 17 with (fail)
  go_cut [9] (fun v9 wx => v9 = .bool pv ∧ Aside (Wm w wx (srcCs 4 s1 s2 p) (orgCs false o2 o3 o4 o5 o6 o7) (orgCs q1 q2 q3 q4 q5 q6 q7)))
  case first =>
    cases p1 : (p == -2)
    · cases p2 : (p == o7)
      · rw [p1, p2] at HPV
        cases p3 : (p == -1)
        · rw [p3] at HPV
          cases p4 : (p == 80)
          · rw [p4] at HPV
            go_wp2_with fail
            go_meet
            exact ⟨by rw [← HPV.out]; rfl, HW0.out⟩
          · rw [p4] at HPV
            cases p5 : (o3.toList == lHttps)
            · rw [p5] at HPV
              go_wp2_with fail
              go_meet
              exact ⟨by rw [← HPV.out]; rfl, HW0.out⟩
            · rw [p5] at HPV
              go_wp2_with fail
              go_meet
              exact ⟨by rw [← HPV.out]; rfl, HW0.out⟩
        · have p4 : (p == 80) = false := by have : p = -1 := by simpa using p3
                                            subst this; rfl
          rw [p3, p4] at HPV
          generalize hx : ownB o3 o7 = xo at HO HPV
          clear hx
          cases xo <;>
          · go_wp2_with (go_at_call 64; (with_reducible refine (HO.out _).mono ?_); rintro e w1 ⟨rfl, hb⟩; have HW1 := Lib.hid (HW0.out.to hb); clear hb; obtain ⟨s0, sa, sb, sc⟩ := src4 HW1.out.b1)
            go_meet
            exact ⟨by rw [← HPV.out]; rfl, HW1.out⟩
      · rw [p1, p2] at HPV
        go_wp2_with fail
        go_meet
        exact ⟨by rw [← HPV.out]; rfl, HW0.out⟩
    · rw [p1] at HPV
      go_wp2_with fail
      go_meet
      exact ⟨by rw [← HPV.out]; rfl, HW0.out⟩
  obtain ⟨rfl, HW⟩ := hcut
  clear HW0 HPV HO
  obtain ⟨s0, sa, sb, sc⟩ := src4 HW.out.b1
  obtain ⟨x0, x1, x2, x3, x4, x5, x6⟩ := org7 HW.out.b2
  cases fv
  · have hh := HH.out
    rw [if_neg (by simp)] at hh
    have HR := Lib.hid (Option.some.inj hh)
    clear hh
    go_wp2_with fail
    go_ret
    exact ⟨ret_bool HR.out, HW.out.below⟩
  · cases pv
    · have hh := HH.out
      rw [if_neg (by simp)] at hh
      have HR := Lib.hid (Option.some.inj hh)
      clear hh
      go_wp2_with fail
      go_ret
      exact ⟨ret_bool HR.out, HW.out.below⟩
    · have hh := HH.out
      rw [if_pos (show (true && true) = true from rfl)] at hh
      have HN := Lib.hid hh
      clear hh
      go_wp2_with (go_at_call 65; (with_reducible refine (N1.cspmatch_named.calls s2 false o2 o3 o4 o5 o6 o7 _ _ (HG.out.to HW.out.below) HN.out).mono ?_); rintro e w1 ⟨rfl, hb⟩; have HW1 := Lib.hid (HW.out.to hb); clear hb)
      go_ret
      exact ⟨rfl, HW1.out.below⟩
theorem cspmatch_Match.calls (k : Int) (s1 s2 : ByteArray) (p : Int) (o1 : Bool) (o2 : Int) (o3 o4 : ByteArray) (o5 : Bool) (o6 o7 : Int) (q1 : Bool) (q2 : Int) (q3 q4 : ByteArray) (q5 : Bool) (q6 q7 : Int) (r : Bool) (w : World) (hG : Gw w) (h : cspmatch_Match.f k s1 s2 p o1 o2 o3 o4 o5 o6 o7 q1 q2 q3 q4 q5 q6 q7 = some r) :
    Calls Tryd.prog 43 #[.agg #[.int .i64 k, .string s1, .string s2, .int .i64 p], .agg #[.bool o1, .int .i64 o2, .string o3, .string o4, .bool o5, .int .u32 o6, .int .i64 o7], .agg #[.bool q1, .int .i64 q2, .string q3, .string q4, .bool q5, .int .u32 q6, .int .i64 q7]] w fun e w' => e = .returned (.bool r) ∧ Below w.heap.size w w' := by
  unfold cspmatch_Match.f at h
  cases o1
  · rw [if_neg (by simp)] at h
    by_cases k2 : k = 2
    · rw [if_pos k2] at h
      exact match_early k s1 s2 p false o2 o3 o4 o5 o6 o7 q1 q2 q3 q4 q5 q6 q7 w r (.inr (.inl ⟨rfl, k2, (Option.some.inj h).symm⟩))
    rw [if_neg k2] at h
    by_cases k3 : k = 3
    · rw [if_pos k3] at h
      exact match_early k s1 s2 p false o2 o3 o4 o5 o6 o7 q1 q2 q3 q4 q5 q6 q7 w r (.inr (.inr (.inl ⟨rfl, k3, (Option.some.inj h).symm⟩)))
    rw [if_neg k3] at h
    by_cases k1 : k = 1
    · rw [if_pos k1] at h
      subst k1
      obtain rfl := Option.some.inj h
      exact match_one s1 s2 p o2 o3 o4 o5 o6 o7 q1 q2 q3 q4 q5 q6 q7 w
    rw [if_neg k1] at h
    by_cases k4 : k = 4
    · rw [if_pos k4] at h
      subst k4
      exact match_host s1 s2 p o2 o3 o4 o5 o6 o7 q1 q2 q3 q4 q5 q6 q7 r w hG h
    rw [if_neg k4] at h
    exact match_early k s1 s2 p false o2 o3 o4 o5 o6 o7 q1 q2 q3 q4 q5 q6 q7 w r (.inr (.inr (.inr ⟨rfl, k1, k2, k3, k4, (Option.some.inj h).symm⟩)))
  · rw [if_pos rfl] at h
    exact match_early k s1 s2 p true o2 o3 o4 o5 o6 o7 q1 q2 q3 q4 q5 q6 q7 w r (.inl ⟨rfl, (Option.some.inj h).symm⟩)
end Go.Proofs.YtgmacggbhcodjaaDoor.Q

