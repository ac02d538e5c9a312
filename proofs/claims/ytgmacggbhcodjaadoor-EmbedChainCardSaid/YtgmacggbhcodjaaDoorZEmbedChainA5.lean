/- A part of the claim EmbedChain: A5. -/
import Derived.Test.YtgmacggbhcodjaaDoorZEmbedChainA4
import Derived.Test.YtgmacggbhcodjaaDoorZEmbedChainA1
import Derived.Test.YtgmacggbhcodjaaDoorZEmbedChainL1
namespace Go.Proofs.YtgmacggbhcodjaaDoor.Q
set_option linter.unusedVariables false
set_option linter.unusedSimpArgs false
open Go.RowKit Go.Proofs.YtgmacggbhcodjaaDoorW Go.Proofs.YtgmacggbhcodjaaDoorW.PrintWords
open Go.Shelf
attribute [local go_sem] Oper.semAt_some
def labelOk (l : ByteArray) : Bool := decide (1 ≤ l.size) && decide (l.size ≤ 63) && allFrom isSmall l
theorem labelOk_lo (x : ByteArray) (h : x.size < 1) : labelOk x = false := by
  have : decide (1 ≤ x.size) = false := decide_eq_false (by omega)
  simp only [labelOk, this, Bool.false_and]
theorem labelOk_hi (x : ByteArray) (h : 63 < x.size) : labelOk x = false := by
  have : decide (x.size ≤ 63) = false := decide_eq_false (by omega)
  simp only [labelOk, this, Bool.and_false, Bool.false_and]
theorem labelOk_mid (x : ByteArray) (h1 : ¬ x.size < 1) (h2 : ¬ 63 < x.size) : labelOk x = allFrom isSmall x := by
  have e1 : decide (1 ≤ x.size) = true := decide_eq_true (by omega)
  have e2 : decide (x.size ≤ 63) = true := decide_eq_true (by omega)
  simp only [labelOk, e1, e2, Bool.true_and]
def endW (A : World) (B : Nat) (x y z v : Value) : World := (((A.setCell ⟨B, 0, none⟩ x).setCell ⟨B, 1, none⟩ y).setCell ⟨B, 2, none⟩ z).setCell ⟨B + 1, 0, none⟩ v
theorem endW_keeps (A : World) (B : Nat) (x y z v : Value) : KeepsOthers A (endW A B x y z v) := (((KeepsOthers.setCell _ _ _).trans (KeepsOthers.setCell _ _ _)).trans (KeepsOthers.setCell _ _ _)).trans (KeepsOthers.setCell _ _ _)
theorem endW_two (A : World) (B : Nat) (x y z v : Value) (cs : Array Value) (h : A.heap[B]? = some (.cells cs 26 (0, 0))) (hs : cs.size = 3) : (endW A B x y z v).heap[B]? = some (.cells #[x, y, z] 26 (0, 0)) := by
  obtain ⟨l⟩ := cs
  match l, hs with
  | [_, _, _], _ => exact blk_far (blk_put (blk_put (blk_put h 0 _ rfl) 1 _ rfl) 2 _ rfl) (by simp) _
theorem endW_three (A : World) (B : Nat) (x y z v u : Value) (h : Boxed A (B + 1) 29 u) : Boxed (endW A B x y z v) (B + 1) 29 v :=
  Boxed.set _ (((h.other (by omega) _ : Boxed (A.setCell ⟨B, 0, none⟩ x) (B + 1) 29 u) |> fun h1 => blk_far (blk_far h1 (by simp) _) (by simp) _))
theorem endW_below (A w : World) (B : Nat) (x y z v : Value) (h : Below B w A) : Below B w (endW A B x y z v) :=
  (((h.setCell (p := ⟨B, 0, none⟩) (Nat.le_refl _) _).setCell (p := ⟨B, 1, none⟩) (Nat.le_refl _) _).setCell (p := ⟨B, 2, none⟩) (Nat.le_refl _) _).setCell (p := ⟨B + 1, 0, none⟩) (by simp) _
def lastL (pre : List (Nat × ByteArray)) : ByteArray := (pre.getLast?.map (·.2)).getD ⟨#[]⟩
theorem lastL_snoc (pre : List (Nat × ByteArray)) (x : Nat × ByteArray) : lastL (pre ++ [x]) = x.2 := by simp [lastL]
theorem own_heap {β : Type} (B : Nat) (f : β → Obj) (hf : ∀ s, (f s).isCells = true) : Own (fun s W => W.heap[B]? = some (f s)) := by
  intro s X Y row hs hg hrow
  refine (hg.block B (by rcases Nat.lt_or_ge B X.heap.size with h | h; exact h; rw [Array.getElem?_eq_none h] at hs; cases hs) (fun e' => ?_)).trans hs
  obtain ⟨o, ho, hc⟩ := hrow B e'.symm
  rw [hs] at ho; cases ho; rw [hf] at hc; cases hc
theorem keepsOthers_drewN (W : World) (n : Nat) : KeepsOthers W (W.drewN n) := ⟨Nat.le_refl _, fun k o h _ => h⟩
theorem keepHi_drewN (n₁ : Nat) (W : World) (n : Nat) : KeepHi n₁ W (W.drewN n) := fun j o _ h _ => h
theorem keepHi_setCell {n₁ : Nat} {A W : World} (h : KeepHi n₁ A W) (b j : Nat) (v : Value) (hb : b < n₁) : KeepHi n₁ A (W.setCell ⟨b, j, none⟩ v) := fun k o hk hA hc => by
  rw [Below.heap_setCell _ _ _ k (by show k ≠ b; omega)]; exact h k o hk hA hc
def octet_Number.f (a0 : ByteArray) (a1 : Int) : Option (Int × Bool) := L1.octet_Number.f (a0.size + 3) a0 a1
theorem octet_Number.calls (a0 : ByteArray) (a1 r1 : Int) (r2 : Bool) (w : World) (h : octet_Number.f a0 a1 = some (r1, r2)) :
    Calls Tryd.prog 56 #[.string a0, .int .i64 a1] w fun e w' => e = .returned (.tuple #[.int .i64 r1, .bool r2]) ∧ Drawn0 w w' := L1.octet_Number.calls _ a0 a1 r1 r2 w h
def addStep (a n : Int) : Int := Go.bits .or .u32 (a * 256 % 4294967296) n
def adrStep (st : Option (Option Int)) (l : ByteArray) : Option (Option Int) :=
  match st with
  | some (some a) => (octet_Number.f l 255).bind fun p => if p.2 = true then some (some (addStep a p.1)) else some none
  | o => o
def addrOf (ls : List ByteArray) : Option (Option Int) := ls.foldl adrStep (some (some 0))
theorem num_loop (s : ByteArray) (m : Int) (h0 : 0 ≤ m) (hm : m ≤ 65535) (hs : s.size ≤ 8796093022206) (d : Nat) : ∀ (k : Nat) (x i : Int), 0 ≤ x → x ≤ m → 0 ≤ i → (s.size : Int) - i = d → d < k →
    ∃ n b, L1.octet_Number.l0 k s m x (s.size : Int) i = some (n, b) ∧ 0 ≤ n ∧ n ≤ m := by
  induction d with
  | zero =>
    intro k x i hx0 hx hi hd hk
    obtain ⟨k, rfl⟩ : ∃ q, k = q + 1 := ⟨k - 1, by omega⟩
    refine ⟨x, true, ?_, hx0, hx⟩
    simp only [L1.octet_Number.l0]
    rw [if_neg (by omega)]
  | succ d ih =>
    intro k x i hx0 hx hi hd hk
    obtain ⟨k, rfl⟩ : ∃ q, k = q + 1 := ⟨k - 1, by omega⟩
    have hb := PrintWords.bt_range s i
    have e1 : wrap64 (wrap64 (PrintWords.bt s i) - 48) = PrintWords.bt s i - 48 := by
      rw [IntWalk.wrap64_in (PrintWords.bt s i) ⟨by omega, by omega⟩, IntWalk.wrap64_in _ ⟨by omega, by omega⟩]
    simp only [L1.octet_Number.l0, e1]
    generalize PrintWords.bt s i - 48 = c
    rw [if_pos (by omega), if_pos hi, if_pos (by omega)]
    by_cases c1 : c < 0
    · exact ⟨0, false, by rw [if_pos c1], Int.le_refl _, h0⟩
    rw [if_neg c1]
    by_cases c2 : c > 9
    · exact ⟨0, false, by rw [if_pos c2], Int.le_refl _, h0⟩
    rw [if_neg c2]
    by_cases c3 : c > m
    · exact ⟨0, false, by rw [if_pos c3], Int.le_refl _, h0⟩
    rw [if_neg c3]
    have e2 : wrap64 (Int.tdiv (wrap64 (m - c)) 10) = (m - c) / 10 := by
      rw [IntWalk.wrap64_in (m - c) ⟨by omega, by omega⟩, Int.tdiv_eq_ediv_of_nonneg (by omega), IntWalk.wrap64_in _ ⟨by omega, by omega⟩]
    rw [e2]
    by_cases c4 : x > (m - c) / 10
    · exact ⟨0, false, by rw [if_pos c4], Int.le_refl _, h0⟩
    rw [if_neg c4]
    have e3 : wrap64 (wrap64 (10 * x) + c) = 10 * x + c := by
      rw [IntWalk.wrap64_in (10 * x) ⟨by omega, by omega⟩, IntWalk.wrap64_in _ ⟨by omega, by omega⟩]
    have e4 : wrap64 (i + 1) = i + 1 := IntWalk.wrap64_in _ ⟨by omega, by omega⟩
    rw [e3, e4]
    exact ih k _ (i + 1) (by omega) (by omega) (by omega) (by omega) (by omega)
theorem num_any (s : ByteArray) (m : Int) (h0 : 0 ≤ m) (hm : m ≤ 65535) (hs : s.size ≤ 8796093022206) : ∃ n b, octet_Number.f s m = some (n, b) ∧ 0 ≤ n ∧ n ≤ m := by
  have hj : ∀ b : Bool, ∃ n b', L1.octet_Number.j0 (s.size + 3) s m b = some (n, b') ∧ 0 ≤ n ∧ n ≤ m := by
    intro b
    simp only [L1.octet_Number.j0]
    by_cases hb : b = true
    · exact ⟨0, false, by rw [if_pos hb], Int.le_refl _, h0⟩
    · rw [if_neg hb]
      exact num_loop s m h0 hm hs s.size _ 0 0 (Int.le_refl _) h0 (Int.le_refl _) (by omega) (by omega)
  unfold octet_Number.f L1.octet_Number.f
  by_cases c1 : s.toList = []
  · rw [if_pos c1]; exact hj _
  rw [if_neg c1]
  by_cases c2 : s.toList = [48]
  · rw [if_pos c2]; exact hj _
  rw [if_neg c2]
  by_cases c3 : 0 < (s.size : Int)
  · rw [if_pos c3]
    by_cases c4 : PrintWords.bt s 0 = 48
    · rw [if_pos c4]; exact hj _
    · rw [if_neg c4]; exact hj _
  · exfalso
    apply c1
    have h : s.size = 0 := by omega
    rw [ByteArray.toList_eq]
    exact List.eq_nil_of_length_eq_zero (by simpa using h)
theorem num_total (x : ByteArray) (hx : x.size ≤ 8796093022206) : ∃ n b, octet_Number.f x 255 = some (n, b) ∧ 0 ≤ n ∧ n ≤ 255 := num_any x 255 (by decide) (by decide) hx
def hostOf (lo : ByteArray) (ls : List ByteArray) : Option (ByteArray × Bool × Int × Int) :=
  if ls.all labelOk = true then
    (if 253 < lo.size then some (⟨#[]⟩, false, 0, 20)
     else if allFrom isDigit (ls.getLastD ⟨#[]⟩) = true then
       (if ls.length = 4 then (addrOf ls).bind fun q => match q with | some a => some (⟨#[]⟩, true, a, 0) | none => some (⟨#[]⟩, false, 0, 20)
        else some (⟨#[]⟩, false, 0, 20))
     else some (lo, false, 0, 0))
  else some (⟨#[]⟩, false, 0, 20)
theorem upto_all (ls : List ByteArray) (k : Nat) (hk : k ≤ ls.length) : (upto (Pair ls) k).map (·.2) = ls.take k := by
  induction k with
  | zero => rfl
  | succ k ih =>
    rw [upto_succ, List.map_append, ih (by omega), List.take_succ_eq_append_getElem (by omega)]
    simp [Pair, List.getElem?_eq_getElem (show k < ls.length by omega)]
theorem lastL_upto (ls : List ByteArray) : lastL (upto (Pair ls) ls.length) = ls.getLastD ⟨#[]⟩ := by
  unfold lastL
  have h := upto_all ls ls.length (Nat.le_refl _)
  rw [List.take_length] at h
  rw [← List.getLast?_map, h, List.getLastD_eq_getLast?]
theorem all_upto (ls : List ByteArray) (h : ∀ p ∈ upto (Pair ls) ls.length, labelOk p.2 = true) : ls.all labelOk = true := by
  have h' := upto_all ls ls.length (Nat.le_refl _)
  rw [List.take_length] at h'
  rw [List.all_eq_true]
  intro x hx
  rw [← h'] at hx
  obtain ⟨p, hp, rfl⟩ := List.mem_map.1 hx
  exact h p hp
theorem not_all_upto (ls : List ByteArray) (k : Nat) (hk : k ≤ ls.length) (h : ∃ p ∈ upto (Pair ls) k, labelOk p.2 = false) : ls.all labelOk = false := by
  obtain ⟨p, hp, he⟩ := h
  have : p.2 ∈ ls.take k := by rw [← upto_all ls k hk]; exact List.mem_map.2 ⟨p, hp, rfl⟩
  rw [List.all_eq_false]
  exact ⟨p.2, List.mem_of_mem_take this, by simp [he]⟩
def DF (D : Nat) (Y : World) : Prop := Y.heap[D]? = some (.deferred (some []))
theorem ownFrom_df {β : Type} {B D : Nat} (h : D < B) : OwnFrom B (fun (_ : β) W => DF D W) := fun _ X _ _ hs hg hr =>
  (hg.block D (Array.getElem?_eq_some_iff.1 (show X.heap[D]? = _ from hs)).1 (fun e => by have := (hr D e.symm).1; omega)).trans hs
theorem df_keeps {D : Nat} {A B : World} (h : DF D A) (k : KeepsOthers A B) : DF D B := k.same D _ h rfl
theorem mapL_upto (s : ByteArray) (c : Int) (ls : List ByteArray) (h : octet_Split.f s c = some ls) (k : Nat) (hk : k ≤ ls.length) : (upto (PairL s c ls h) k).map (·.1.2) = ls.take k := by
  rw [← upto_all ls k hk]
  simp [upto, PairL]
theorem foldl_none (l : List ByteArray) : l.foldl adrStep (some none) = some none := by
  induction l with
  | nil => rfl
  | cons x l ih => exact ih
theorem put_two {W : World} {D B : Nat} {t : TypeId} {cs : Array Value} {l : List Deferred} (o : Obj) (hD : W.heap[D]? = some (.deferred (some l))) (h : W.heap[B]? = some (.cells cs t (0, 0))) : (W.putObj D o).heap[B]? = some (.cells cs t (0, 0)) := by
  refine ((grownBy_putObj' W D o).block B (blk_lt h) (fun e => ?_)).trans h
  injection e with e
  subst e
  rw [hD] at h; cases h
theorem results55 (w : World) (B : Nat) (x y z v : Value) (tmps : Array Value) (h2 : w.heap[B]? = some (.cells #[x, y, z] 26 (0, 0))) (h3 : Boxed w (B + 1) 29 v) (e2 : tmps.getD 2 undef = .pointer (some ⟨B, 0, none⟩)) (e3 : tmps.getD 3 undef = .pointer (some ⟨B + 1, 0, none⟩)) :
    (results Tryd.f55 tmps).run Tryd.prog w = .ok (.tuple #[.agg #[x, y, z], v]) w := by
  have hc := h3.cell
  have hl := run_loadVar_row (P := Tryd.prog) w B 26 26 #[x, y, z] (0, 0) _ h2 Tryd.underlying26 rfl (by kernel_rfl)
  have hl3 : (loadVar 29 ⟨B + 1, 0, none⟩).run Tryd.prog w = .ok v w := by
    simp [go_sem, hc]
  have e2' : tmps[2]?.getD undef = .pointer (some ⟨B, 0, none⟩) := by simpa using e2
  have e3' : tmps[3]?.getD undef = .pointer (some ⟨B + 1, 0, none⟩) := by simpa using e3
  simp [results, Tryd.results55, e2', e3', asAddr, hl, hl3]
set_option maxRecDepth 100000 in
set_option maxHeartbeats 4000000 in
theorem host_parse (s lo : ByteArray) (ls : List ByteArray) (hlo : octet_Lower.f s = some lo) (hls : octet_Split.f lo 46 = some ls) (r : ByteArray × Bool × Int × Int) (hr : hostOf lo ls = some r) (w : World) :
    CallsIn Fence.wide 10 Tryd.prog 55 #[.string s] w fun e W' => e = .returned (.tuple #[.agg #[.string r.1, .bool r.2.1, .int .u32 r.2.2.1], .int .i64 r.2.2.2]) ∧ Below w.heap.size w W' := by
  refine callsIn_of_wp_marks Tryd.func55 rfl trivial ?_ rfl
  simp only [Tryd.ntmps55, List.size_toArray, List.length_cons, List.length_nil, Nat.reduceAdd, Nat.reduceSub, Array.replicate_succ, Array.replicate_zero, List.push_toArray, List.append_toArray, List.nil_append, List.cons_append]
  gi_wp2_with (first
    | (refine ⟨trivial, ?_⟩; gi_at_call 29; refine (callsIn_wide.2 (octet_Lower.calls s lo _ hlo)).mono ?_; rintro e w1 ⟨rfl, hb⟩; have HB1 := Lib.hid hb; clear hb)
    | (refine ⟨trivial, ?_⟩; gi_at_call 72; refine (labels_in Fence.wide _ trivial rfl _ _).mono ?_; rintro e w' ⟨rfl, rfl⟩))
  rename_i w1 _ _
  have HW1 : Hid (Below w.heap.size w w1 ∧ w.heap.size + 2 ≤ w1.heap.size) := by
    have h := HB1.out
    have hs := h.size
    simp at hs
    refine ⟨(((Below.refl w.heap.size w).alloc (Nat.le_refl _) _).alloc (by simp) _).trans (h.mono (by simp; omega)), by omega⟩
  have b2 : Hid (w1.heap[w.heap.size]? = some (.cells #[.string ⟨#[]⟩, .bool false, .int .u32 0] 26 (0, 0))) := by
    refine (HB1.out.block _ (by simp; omega)).trans ?_
    refine (Below.heap_alloc _ _ _ (by simp)).trans ?_
    exact World.alloc_heap_new w _
  have b3 : Hid (Boxed w1 (w.heap.size + 1) 29 (.int .i64 0)) := by
    refine (HB1.out.block _ (by simp)).trans ?_
    have := World.alloc_heap_new (w.alloc (.cells #[.string ⟨#[]⟩, .bool false, .int .u32 0] 26)) (.cells #[.int .i64 0] 29)
    rw [World.size_alloc] at this
    exact this
  clear HB1
  have HBW : Hid (Below w.heap.size w (((w1.alloc (.cells #[.string ⟨#[]⟩] 9)).alloc (.cells #[.int .i64 0] 3)).alloc (.cells #[.string lo] 9))) := by
    have := HW1.out.2
    exact (((HW1.out.1).alloc (by omega) _).alloc (by simp; omega) _).alloc (by simp; omega) _
  have b4 := Boxed.new w1 9 (.string ⟨#[]⟩)
  have b5 := Boxed.new (w1.alloc (.cells #[.string ⟨#[]⟩] 9)) 3 (.int .i64 0)
  have b6 := Boxed.new ((w1.alloc (.cells #[.string ⟨#[]⟩] 9)).alloc (.cells #[.int .i64 0] 3)) 9 (.string lo)
  rw [World.size_alloc] at b5
  rw [World.size_alloc, World.size_alloc] at b6
  have H4 := Lib.hid ((b4.alloc (.cells #[.int .i64 0] 3)).alloc (.cells #[.string lo] 9))
  have H5 := Lib.hid (b5.alloc (.cells #[.string lo] 9))
  have H6 := Lib.hid b6
  clear b4 b5 b6
  refine wpIn_rangeFunc_ownF rfl (by omega) (gf := 91) (lb := #[.pointer (some ⟨w1.heap.size + 1 + 1, 0, none⟩)]) rfl trivial (enters_of Tryd.func91 (by kernel_rfl) rfl)
    (labels_stops _ (by omega) (w1.heap.size + 1 + 1) lo ls hls _ H6.out.cell (by simp)) keepHi_t (fun W l o o' hl => keepHi_b W l o o' hl) (Below.refl _ _) (fun _ => rfl)
    (fun pre W => (((W.heap[w.heap.size]? = some (.cells #[.string ⟨#[]⟩, .bool false, .int .u32 0] 26 (0, 0)) ∧ Boxed W (w.heap.size + 1) 29 (.int .i64 0)) ∧ (Boxed W w1.heap.size 9 (.string (lastL pre)) ∧ Boxed W (w1.heap.size + 1) 3 (.int .i64 (pre.length : Int)))) ∧ ∀ p ∈ pre, labelOk p.2 = true) ∧ Below w.heap.size w W)
    (fun c pre W => ((c = .ret ∧ ∃ p ∈ pre, labelOk p.2 = false) ∧ (W.heap[w.heap.size]? = some (.cells #[.string ⟨#[]⟩, .bool false, .int .u32 0] 26 (0, 0)) ∧ Boxed W (w.heap.size + 1) 29 (.int .i64 20))) ∧ Below w.heap.size w W)
    (OwnFrom.and (OwnFrom.and (OwnFrom.and (OwnFrom.and (Own.from (own_heap _ _ (fun _ => rfl)) _) (Own.from (boxed_own _ _ _) _)) (OwnFrom.and (Own.from (boxed_own _ _ _) _) (Own.from (boxed_own _ _ _) _))) (ownFrom_pure _ _)) (ownFrom_below (Nat.le_refl _) (by have := HW1.out.2; simp; omega)))
    (fun c => OwnFrom.and (OwnFrom.and (ownFrom_pure _ _) (OwnFrom.and (Own.from (own_heap _ _ (fun _ => rfl)) _) (Own.from (boxed_own _ _ _) _))) (ownFrom_below (Nat.le_refl _) (by have := HW1.out.2; simp; omega)))
    ⟨⟨⟨⟨?b2, ?b3⟩, H4.out, H5.out⟩, by simp⟩, HBW.out⟩
    (fun x => { tmps := #[.string lo, undef, .pointer (some ⟨w.heap.size, 0, none⟩), .pointer (some ⟨w.heap.size + 1, 0, none⟩), .pointer (some ⟨w1.heap.size, 0, none⟩), .pointer (some ⟨w1.heap.size + 1, 0, none⟩), undef, .string x.2, undef, undef, undef, undef, undef, .string s, .string lo, .string lo, .func (.func 91) #[] #[.pointer (some ⟨w1.heap.size + 1 + 1, 0, none⟩)], .int .i64 (x.1 : Int), .string x.2, undef, undef, undef, undef, undef, undef, undef, undef, undef, undef, undef, undef, undef, undef, undef, undef, undef, undef, undef, undef, undef, undef, undef, undef, undef, undef, undef, undef, undef, undef, undef, undef, undef, undef, undef, undef, undef, undef, undef, undef, undef, undef, undef, undef, undef, undef, undef, undef, undef, undef, undef, undef, undef, undef, undef, undef, undef], defers := [] }) ?assign ?body ?done ?stop
  case b2 => exact (((Below.heap_alloc _ _ _ (by have := HW1.out.2; simp; omega)).trans ((Below.heap_alloc _ _ _ (by have := HW1.out.2; simp; omega)).trans ((Below.heap_alloc _ _ _ (by have := HW1.out.2; omega)).trans b2.out))))
  case b3 => exact (((b3.out.alloc _).alloc _).alloc _)
  case assign =>
    intro l x W K hK
    gi_wp2
    exact hK
  case body =>
    rintro l pre ⟨xi, x⟩ W ⟨⟨⟨⟨c2, c3⟩, c4, c5⟩, hok⟩, hB⟩ hpl
    have K2 := Lib.hid c2
    have K3 := Lib.hid c3
    have K4 := Lib.hid c4
    have K5 := Lib.hid c5
    have HOK := Lib.hid hok
    have HB := Lib.hid hB
    have k3 := c3.cell
    have k3f := c3.frozen
    have k4 := c4.cell
    have k4f := c4.frozen
    have k5 := c5.cell
    have k5f := c5.frozen
    have k20 : W.cell? ⟨w.heap.size, 0, none⟩ = some (.string ⟨#[]⟩) := by simp [World.cell?, c2]
    have k21 : W.cell? ⟨w.heap.size, 1, none⟩ = some (.bool false) := by simp [World.cell?, c2]
    have k22 : W.cell? ⟨w.heap.size, 2, none⟩ = some (.int .u32 0) := by simp [World.cell?, c2]
    have k20f : W.frozen? ⟨w.heap.size, 0, none⟩ = false := by simp [World.frozen?, c2]
    have k21f : W.frozen? ⟨w.heap.size, 1, none⟩ = false := by simp [World.frozen?, c2]
    have k22f : W.frozen? ⟨w.heap.size, 2, none⟩ = false := by simp [World.frozen?, c2]
    have hlt := HW1.out.2
    clear c2 c3 c4 c5 hok hB
    have hneB : (w.heap.size : Nat) ≠ w1.heap.size := by omega
    have hl3 : ls.length ≤ 9223372036854775807 := by
      have := split_ne lo 46 ls hls
      omega
    by_cases g1 : x.size < 1
    · have HL := Lib.hid (labelOk_lo x g1)
      gi_wp2_with fail
      refine ⟨trivial, ?_⟩
      gi_wp2
      exact ⟨endW_keeps _ _ _ _ _ _, ⟨⟨rfl, ⟨(xi, x), by simp, HL.out⟩⟩, endW_two _ _ _ _ _ _ _ K2.out rfl, endW_three _ _ _ _ _ _ _ K3.out⟩, endW_below _ _ _ _ _ _ _ HB.out⟩
    by_cases g2 : 63 < x.size
    · have HL := Lib.hid (labelOk_hi x g2)
      gi_wp2_with fail
      refine ⟨trivial, ?_⟩
      gi_wp2
      exact ⟨endW_keeps _ _ _ _ _ _, ⟨⟨rfl, ⟨(xi, x), by simp, HL.out⟩⟩, endW_two _ _ _ _ _ _ _ K2.out rfl, endW_three _ _ _ _ _ _ _ K3.out⟩, endW_below _ _ _ _ _ _ _ HB.out⟩
    have hx63 : x.size ≤ 9223372036854775807 := by omega
    have hfit := fun W => fits_calls isSmall 74 small_calls x W hx63 (enters_of Tryd.func74 (by kernel_rfl) rfl)
    have HL := Lib.hid (labelOk_mid x g1 g2)
    cases hq : allFrom isSmall x with
    | false =>
      rw [hq] at hfit
      have HF := Lib.hid hfit
      have HQ := Lib.hid hq
      clear hfit hq
      gi_wp2_with (refine ⟨trivial, ?_⟩; gi_at_call 73; refine (CallsIn.inRound l (callsIn_wide.2 (HF.out _))).mono ?_; rintro e w' ⟨rfl, ⟨nd, rfl⟩⟩)
      exact ⟨(keepsOthers_drewN W nd).trans (endW_keeps _ _ _ _ _ _), ⟨⟨rfl, ⟨(xi, x), by simp, HL.out.trans HQ.out⟩⟩, endW_two (W.drewN nd) _ _ _ _ _ _ K2.out rfl, endW_three (W.drewN nd) _ _ _ _ _ _ K3.out⟩, endW_below _ _ _ _ _ _ _ (HB.out.drewN' nd)⟩
    | true =>
      rw [hq] at hfit
      have HF := Lib.hid hfit
      have HQ := Lib.hid hq
      clear hfit hq
      gi_wp2_with (refine ⟨trivial, ?_⟩; gi_at_call 73; refine (CallsIn.inRound l (callsIn_wide.2 (HF.out _))).mono ?_; rintro e w' ⟨rfl, ⟨nd, rfl⟩⟩)
      refine ⟨((keepsOthers_drewN W nd).trans (KeepsOthers.setCell _ _ _)).trans (KeepsOthers.setCell _ _ _), keepHi_setCell (keepHi_setCell (keepHi_drewN _ W nd) _ _ _ (by simp; omega)) _ _ _ (by simp), ⟨⟨⟨?_, ?_⟩, ?_, ?_⟩, ?_⟩, ?_⟩
      · exact blk_far (blk_far (w := W.drewN nd) K2.out (by show _ ≠ w1.heap.size; omega) _) (by show _ ≠ w1.heap.size + 1; omega) _
      · exact ((show Boxed (W.drewN nd) _ _ _ from K3.out).other (by omega) _).other (by omega) _
      · rw [lastL_snoc]; exact ((show Boxed (W.drewN nd) _ _ _ from K4.out).set _).other (by omega) _
      · have := (((show Boxed (W.drewN nd) _ _ _ from K5.out).other (B' := w1.heap.size) (by omega) (.string x)).set (.int .i64 ((pre.length : Int) + 1)))
        simpa using this
      · intro p hp
        rcases List.mem_append.1 hp with h | h
        · exact HOK.out p h
        · simp at h; subst h; exact HL.out.trans HQ.out
      · exact ((HB.out.drewN' nd).setCell (p := ⟨w1.heap.size, 0, none⟩) (by show _ ≤ w1.heap.size; omega) _).setCell (p := ⟨w1.heap.size + 1, 0, none⟩) (by show _ ≤ w1.heap.size + 1; omega) _
  case stop =>
    rintro D c pre W hD ⟨k, hk, rfl⟩ ⟨⟨⟨rfl, hbad⟩, c2, c3⟩, hB⟩ hK
    have hno := not_all_upto ls k hk hbad
    have hrr : r = (⟨#[]⟩, false, 0, 20) := by
      have h := hr
      unfold hostOf at h
      rw [if_neg (by rw [hno]; simp)] at h
      exact (Option.some.inj h).symm
    subst hrr
    gi_wp2
    refine ⟨by simp, .inl ⟨_, _, rfl, run_takeDeferred hK, ?_⟩⟩
    exact ⟨_, results55 _ w.heap.size _ _ _ _ _ (put_two _ hK c2) (put_two _ hK c3) rfl rfl, rfl, hB.trans (belowK_b (w := w) (Nat.le_refl _) W D _ _ (by have := HW1.out.2; simp at hD; omega) hK rfl rfl)⟩
  case done =>
    rintro D ys W hD rfl ⟨⟨⟨⟨c2, c3⟩, c4, c5⟩, hok⟩, hB⟩ hK
    have hall := all_upto ls hok
    rw [lastL_upto] at c4
    rw [upto_length] at c5
    have K2 := Lib.hid c2
    have K3 := Lib.hid c3
    have K4 := Lib.hid c4
    have K5 := Lib.hid c5
    have HB := Lib.hid hB
    have HK := Lib.hid hK
    have HD := Lib.hid hD
    have k3 := c3.cell
    have k3f := c3.frozen
    have k4 := c4.cell
    have k4f := c4.frozen
    have k5 := c5.cell
    have k5f := c5.frozen
    have k20 : W.cell? ⟨w.heap.size, 0, none⟩ = some (.string ⟨#[]⟩) := by simp [World.cell?, c2]
    have k21 : W.cell? ⟨w.heap.size, 1, none⟩ = some (.bool false) := by simp [World.cell?, c2]
    have k22 : W.cell? ⟨w.heap.size, 2, none⟩ = some (.int .u32 0) := by simp [World.cell?, c2]
    have k20f : W.frozen? ⟨w.heap.size, 0, none⟩ = false := by simp [World.frozen?, c2]
    have k21f : W.frozen? ⟨w.heap.size, 1, none⟩ = false := by simp [World.frozen?, c2]
    have k22f : W.frozen? ⟨w.heap.size, 2, none⟩ = false := by simp [World.frozen?, c2]
    have hlt := HW1.out.2
    have HDC : Hid (w1.heap.size + 3 ≤ D) := by
      have h := HD.out
      simp at h
      exact h
    have HLAST : Hid ((ls.getLastD ⟨#[]⟩).size ≤ 9223372036854775807) := by
      have h0 := (split_ne lo 46 ls hls).1
      have hm : ls.getLastD ⟨#[]⟩ ∈ ls := by
        rw [List.getLastD_eq_getLast?, List.getLast?_eq_some_getLast (by intro h; subst h; simp at h0)]
        exact List.getLast_mem _
      have := List.all_eq_true.1 hall _ hm
      have h2 : ¬ 63 < (ls.getLastD ⟨#[]⟩).size := fun h => by rw [labelOk_hi _ h] at this; cases this
      show _ ≤ _
      omega
    have HR : Hid (hostOf lo ls = some r) := hr
    unfold hostOf at HR
    rw [if_pos hall] at HR
    clear c2 c3 c4 c5 hok hB hr hK hD hall
    obtain ⟨z, hz⟩ : ∃ z, ls.getLastD ⟨#[]⟩ = z := ⟨_, rfl⟩
    rw [hz] at k4 K4 HR HLAST
    clear hz
    have hlast : z.size ≤ 9223372036854775807 := HLAST.out
    have hfin : ∀ (A : World) (x y z' v : Value), A.heap[D]? = some (.deferred (some [])) → A.heap[w.heap.size]? = some (.cells #[.string ⟨#[]⟩, .bool false, .int .u32 0] 26 (0, 0)) → Boxed A (w.heap.size + 1) 29 (.int .i64 0) → Below w.heap.size w A → ∀ (tmps : Array Value), tmps.getD 2 undef = .pointer (some ⟨w.heap.size, 0, none⟩) → tmps.getD 3 undef = .pointer (some ⟨w.heap.size + 1, 0, none⟩) →
        LeavesInM Fence.wide 10 Tryd.prog Tryd.f55 tmps (fun e W' => e = .returned (.tuple #[.agg #[x, y, z'], v]) ∧ Below w.heap.size w W') [{ target := .collected D, args := #[] }] .returning (endW A w.heap.size x y z' v) := by
      intro A x y z' v h1 h2 h3 h4 tmps e2 e3
      have hK' := (endW_keeps A w.heap.size x y z' v).same D _ h1 rfl
      refine ⟨by simp, .inl ⟨_, _, rfl, run_takeDeferred hK', ?_⟩⟩
      exact ⟨_, results55 _ w.heap.size _ _ _ _ _ (put_two _ hK' (endW_two A _ _ _ _ _ _ h2 rfl)) (put_two _ hK' (endW_three A _ _ _ _ _ _ h3)) e2 e3, rfl, (endW_below A w _ _ _ _ _ h4).trans (belowK_b (w := w) (Nat.le_refl _) _ D _ _ (by have := HDC.out; omega) hK' rfl rfl)⟩
    have hfin2 : ∀ (D2 : Nat) (_ : D < D2) (A : World), A.heap[D2]? = some (.deferred (some [])) → A.heap[D]? = some (.deferred (some [])) → A.heap[w.heap.size]? = some (.cells #[.string ⟨#[]⟩, .bool false, .int .u32 0] 26 (0, 0)) → Boxed A (w.heap.size + 1) 29 (.int .i64 0) → Below w.heap.size w A → ∀ (x y z' v : Value) (tmps : Array Value), tmps.getD 2 undef = .pointer (some ⟨w.heap.size, 0, none⟩) → tmps.getD 3 undef = .pointer (some ⟨w.heap.size + 1, 0, none⟩) →
        LeavesInM Fence.wide 10 Tryd.prog Tryd.f55 tmps (fun e W' => e = .returned (.tuple #[.agg #[x, y, z'], v]) ∧ Below w.heap.size w W') [{ target := .collected D2, args := #[] }, { target := .collected D, args := #[] }] .returning (endW A w.heap.size x y z' v) := by
      intro D2 hlt A h0 h1 h2 h3 h4 x y z' v tmps e2 e3
      have hK' := (endW_keeps A w.heap.size x y z' v).same D2 _ h0 rfl
      have hK1' := (endW_keeps A w.heap.size x y z' v).same D _ h1 rfl
      refine ⟨by simp, .inl ⟨_, _, rfl, run_takeDeferred hK', ?_⟩⟩
      have hK1 := ((grownBy_putObj' _ D2 (.deferred none)).block D (Array.getElem?_eq_some_iff.1 hK1').1 (fun e => by injection e; omega)).trans hK1'
      refine ⟨by simp, .inl ⟨_, _, rfl, run_takeDeferred hK1, ?_⟩⟩
      have f1 := put_two (.deferred none) hK' (endW_two A _ x y z' v _ h2 rfl)
      have f2 := put_two (cs := #[v]) (.deferred none) hK' (endW_three A _ x y z' v _ h3)
      exact ⟨_, results55 _ w.heap.size _ _ _ _ _ (put_two (.deferred none) hK1 f1) (put_two (cs := #[v]) (.deferred none) hK1 f2) e2 e3, rfl, ((endW_below A w _ _ _ _ _ h4).trans (belowK_b (w := w) (Nat.le_refl _) _ D2 _ _ (by have := HDC.out; omega) hK' rfl rfl)).trans (belowK_b (w := w) (Nat.le_refl _) _ D _ _ (by have := HDC.out; omega) hK1 rfl rfl)⟩
    have HFIN2 := Lib.hid hfin2
    have HFIN := Lib.hid hfin
    clear hfin2
    clear hfin
    by_cases g1 : 253 < lo.size
    · rw [if_pos g1] at HR
      have hrr : r = (⟨#[]⟩, false, 0, 20) := (Option.some.inj HR.out).symm
      subst hrr
      clear HR
      gi_wp2_with fail
      refine ⟨trivial, ?_⟩
      gi_wp2
      exact HFIN.out W _ _ _ _ HK.out K2.out K3.out HB.out _ rfl rfl
    rw [if_neg g1] at HR
    have g1i : (lo.size : Int) ≤ 253 := by omega
    clear g1
    have hfit := fun W => fits_calls isDigit 75 digit_calls z W hlast (enters_of Tryd.func75 (by kernel_rfl) rfl)
    cases hq : allFrom isDigit z with
    | false =>
      rw [hq] at hfit HR
      rw [if_neg (by simp)] at HR
      have hrr : r = (lo, false, 0, 0) := (Option.some.inj HR.out).symm
      subst hrr
      clear HR hq
      have HF := Lib.hid hfit
      clear hfit
      gi_wp2_with (refine ⟨trivial, ?_⟩; gi_at_call 73; refine (callsIn_wide.2 (HF.out _)).mono ?_; rintro e w' ⟨rfl, ⟨nd, rfl⟩⟩)
      exact HFIN.out (W.drewN _) _ _ _ _ HK.out K2.out K3.out (HB.out.drewN' _) _ rfl rfl
    | true =>
      rw [hq] at hfit HR
      rw [if_pos rfl] at HR
      clear hq
      have HF := Lib.hid hfit
      clear hfit
      by_cases g4 : ls.length = 4
      · rw [if_pos g4] at HR
        have HG4 := Lib.hid g4
        have g4b : ((ls.length : Int) == 4) = true := by simpa using (show (ls.length : Int) = 4 by omega)
        have g4c : ((ls.length : Int) != 4) = false := by simpa using (show (ls.length : Int) = 4 by omega)
        clear g4
        have n0 : ∀ q, ((W.drewN q).alloc (.cells #[.string ⟨#[]⟩, .bool false, .int .u32 0] 26)).cell? ⟨W.heap.size, 0, none⟩ = some (.string ⟨#[]⟩) := fun q => by have := World.alloc_heap_new (W.drewN q) (.cells #[.string ⟨#[]⟩, .bool false, .int .u32 0] 26); exact (blk_cell this 0).trans rfl
        have n1 : ∀ q, ((W.drewN q).alloc (.cells #[.string ⟨#[]⟩, .bool false, .int .u32 0] 26)).cell? ⟨W.heap.size, 1, none⟩ = some (.bool false) := fun q => by have := World.alloc_heap_new (W.drewN q) (.cells #[.string ⟨#[]⟩, .bool false, .int .u32 0] 26); exact (blk_cell this 1).trans rfl
        have n2 : ∀ q, ((W.drewN q).alloc (.cells #[.string ⟨#[]⟩, .bool false, .int .u32 0] 26)).cell? ⟨W.heap.size, 2, none⟩ = some (.int .u32 0) := fun q => by have := World.alloc_heap_new (W.drewN q) (.cells #[.string ⟨#[]⟩, .bool false, .int .u32 0] 26); exact (blk_cell this 2).trans rfl
        have n0f : ∀ q j, ((W.drewN q).alloc (.cells #[.string ⟨#[]⟩, .bool false, .int .u32 0] 26)).frozen? ⟨W.heap.size, j, none⟩ = false := fun q j => by have := World.alloc_heap_new (W.drewN q) (.cells #[.string ⟨#[]⟩, .bool false, .int .u32 0] 26); exact blk_frozen this j
        gi_wp2_with (first
          | (refine ⟨trivial, ?_⟩; gi_at_call 73; refine (callsIn_wide.2 (HF.out _)).mono ?_; rintro e w' ⟨rfl, ⟨nd, rfl⟩⟩)
          | (refine ⟨trivial, ?_⟩; gi_at_call 72; refine (labels_in Fence.wide _ trivial rfl _ _).mono ?_; rintro e w' ⟨rfl, rfl⟩))
        rename_i nd1 _ _ _
        obtain ⟨W2, hW2⟩ : ∃ W2 : World, ((((((W.drewN (nd1 + nd)).alloc (.cells #[.string ⟨#[]⟩, .bool false, .int .u32 0] 26)).setCell ⟨W.heap.size, 0, none⟩ (.string ⟨#[]⟩)).setCell ⟨W.heap.size, 1, none⟩ (.bool true)).setCell ⟨W.heap.size, 2, none⟩ (.int .u32 0)).alloc (.cells #[.string lo] 9)) = W2 := ⟨_, rfl⟩
        have hlo2 : ∀ k o, k < W.heap.size → W.heap[k]? = some o → W2.heap[k]? = some o := by
          intro k o hk ho
          rw [← hW2]
          refine (Below.heap_alloc _ _ _ (by simp; omega)).trans ?_
          rw [Below.heap_setCell _ _ _ k (by show k ≠ W.heap.size; omega), Below.heap_setCell _ _ _ k (by show k ≠ W.heap.size; omega), Below.heap_setCell _ _ _ k (by show k ≠ W.heap.size; omega)]
          exact (Below.heap_alloc (W.drewN (nd1 + nd)) _ _ hk).trans ho
        have hH : W2.heap[W.heap.size]? = some (.cells #[.string ⟨#[]⟩, .bool true, .int .u32 0] 26 (0, 0)) := by
          rw [← hW2]
          refine (Below.heap_alloc _ _ _ (by simp)).trans ?_
          have := World.alloc_heap_new (W.drewN (nd1 + nd)) (.cells #[.string ⟨#[]⟩, .bool false, .int .u32 0] 26)
          exact blk_put (blk_put (blk_put (g := W.heap.size) this 0 _ rfl) 1 _ rfl) 2 _ rfl
        have hS : Boxed W2 (W.heap.size + 1) 9 (.string lo) := by
          rw [← hW2]
          have := Boxed.new (((((W.drewN (nd1 + nd)).alloc (.cells #[.string ⟨#[]⟩, .bool false, .int .u32 0] 26)).setCell ⟨W.heap.size, 0, none⟩ (.string ⟨#[]⟩)).setCell ⟨W.heap.size, 1, none⟩ (.bool true)).setCell ⟨W.heap.size, 2, none⟩ (.int .u32 0)) 9 (.string lo)
          simpa using this
        have hsz2 : W2.heap.size = W.heap.size + 2 := by rw [← hW2]; simp
        have hWw : w.heap.size + 2 ≤ W.heap.size := by
          have := K3.out.lt
          omega
        have hB2 : Below w.heap.size w W2 := by
          refine HB.out.trans ⟨by rw [← hW2]; rfl, by rw [← hW2]; rfl, by rw [← hW2]; rfl, by omega, fun k hk => ?_⟩
          have hk' : k < W.heap.size := by omega
          rw [Array.getElem?_eq_getElem hk']
          exact hlo2 k _ hk' (Array.getElem?_eq_getElem hk')
        have hD2 : W2.heap[D]? = some (.deferred (some [])) := hlo2 D _ (Array.getElem?_eq_some_iff.1 HK.out).1 HK.out
        have c2 := hlo2 _ _ (by omega) K2.out
        have c3 : Boxed W2 (w.heap.size + 1) 29 (.int .i64 0) := hlo2 _ _ (by omega) K3.out
        rw [hW2]
        have HDW : Hid (D < W2.heap.size) := (Array.getElem?_eq_some_iff.1 hD2).1
        have HLO := Lib.hid hlo2
        have HHH := Lib.hid hH
        have HSS := Lib.hid hS
        have HB2 := Lib.hid hB2
        have HD2 := Lib.hid hD2
        have HC2 := Lib.hid c2
        have HC3 := Lib.hid c3
        have HSZ := Lib.hid hsz2
        clear hlo2 hH hS hB2 hD2 c2 c3 hsz2 n0 n1 n2 n0f hW2 k3 k3f k4 k4f k5 k5f k20 k21 k22 k20f k21f k22f HF hlast
        refine wpIn_rangeFunc_ownF rfl (by omega) (gf := 91) (lb := #[.pointer (some ⟨W.heap.size + 1, 0, none⟩)]) rfl trivial (enters_of Tryd.func91 (by kernel_rfl) rfl)
          (labels_stopsL _ (by omega) (W.heap.size + 1) lo ls hls W2 HSS.out.cell (by have := HSZ.out; omega)) keepHi_t (fun W l o o' hl => keepHi_b W l o o' hl) (Below.refl _ _) (fun _ => rfl)
          (fun pre Y => ((Y.heap[w.heap.size]? = some (.cells #[.string ⟨#[]⟩, .bool false, .int .u32 0] 26 (0, 0)) ∧ Boxed Y (w.heap.size + 1) 29 (.int .i64 0)) ∧ ∃ a : Int, (pre.map (·.1.2)).foldl adrStep (some (some 0)) = some (some a) ∧ Y.heap[W.heap.size]? = some (.cells #[.string ⟨#[]⟩, .bool true, .int .u32 a] 26 (0, 0))) ∧ Below w.heap.size w Y ∧ DF D Y)
          (fun c pre Y => ((c = .ret ∧ (pre.map (·.1.2)).foldl adrStep (some (some 0)) = some none) ∧ (Y.heap[w.heap.size]? = some (.cells #[.string ⟨#[]⟩, .bool false, .int .u32 0] 26 (0, 0)) ∧ Boxed Y (w.heap.size + 1) 29 (.int .i64 20))) ∧ Below w.heap.size w Y ∧ DF D Y)
          (OwnFrom.and (OwnFrom.and (OwnFrom.and (Own.from (own_heap _ _ (fun _ => rfl)) _) (Own.from (boxed_own _ _ _) _)) (Own.from (fun s X Y row hs hg hr => by obtain ⟨a, e, h⟩ := hs; exact ⟨a, e, own_heap W.heap.size (fun _ : Unit => .cells #[.string ⟨#[]⟩, .bool true, .int .u32 a] 26 (0, 0)) (fun _ => rfl) () X Y row h hg hr⟩) _)) (OwnFrom.and (ownFrom_below (Nat.le_refl _) (by have := HSZ.out; omega)) (ownFrom_df HDW.out)))
          (fun c => OwnFrom.and (OwnFrom.and (ownFrom_pure _ _) (OwnFrom.and (Own.from (own_heap _ _ (fun _ => rfl)) _) (Own.from (boxed_own _ _ _) _))) (OwnFrom.and (ownFrom_below (Nat.le_refl _) (by have := HSZ.out; omega)) (ownFrom_df HDW.out)))
          ⟨⟨⟨HC2.out, HC3.out⟩, 0, rfl, HHH.out⟩, HB2.out, HD2.out⟩
          (fun x => { tmps := #[.string lo, undef, .pointer (some ⟨w.heap.size, 0, none⟩), .pointer (some ⟨w.heap.size + 1, 0, none⟩), .pointer (some ⟨w1.heap.size, 0, none⟩), .pointer (some ⟨w1.heap.size + 1, 0, none⟩), undef, undef, .pointer (some ⟨W.heap.size, 0, none⟩), undef, .string x.1.2, undef, undef, .string s, .string lo, .string lo, .func (.func 91) #[] #[.pointer (some ⟨w1.heap.size + 1 + 1, 0, none⟩)], undef, undef, undef, undef, undef, undef, undef, undef, undef, undef, undef, undef, undef, undef, undef, undef, undef, undef, undef, .bool (decide (253 < (lo.size : Int))), .string lo, .int .i64 (lo.size : Int), .bool (decide (253 < (lo.size : Int))), .bool (decide (253 < (lo.size : Int))), .string z, .bool true, .bool true, .int .i64 (ls.length : Int), .bool false, .bool false, .bool (decide (253 < (lo.size : Int))), undef, .bool false, .string z, .bool true, .bool false, undef, undef, .agg #[.string ⟨#[]⟩, .bool true, .int .u32 0], .string lo, .func (.func 91) #[] #[.pointer (some ⟨W.heap.size + 1, 0, none⟩)], .int .i64 (x.1.1 : Int), .string x.1.2, undef, undef, undef, undef, undef, undef, undef, undef, undef, undef, undef, undef, undef, undef, undef, undef], defers := [] }) ?assign2 ?body2 ?done2 ?stop2
        case assign2 =>
          intro l x W K hK
          gi_wp2
          exact hK
        case body2 =>
          rintro l pre ⟨⟨xi, x⟩, hx⟩ Y ⟨⟨⟨c2, c3⟩, a, hfold, cH⟩, hB, hDF⟩ hpl
          obtain ⟨n, b, hnum, hn0, hn1⟩ := num_total x hx
          have L2 := Lib.hid c2
          have L3 := Lib.hid c3
          have LH := Lib.hid cH
          have LB := Lib.hid hB
          have LF := Lib.hid hfold
          have LD := Lib.hid hDF
          have k3 := c3.cell
          have k3f := c3.frozen
          have k20 : Y.cell? ⟨w.heap.size, 0, none⟩ = some (.string ⟨#[]⟩) := by simp [World.cell?, c2]
          have k21 : Y.cell? ⟨w.heap.size, 1, none⟩ = some (.bool false) := by simp [World.cell?, c2]
          have k22 : Y.cell? ⟨w.heap.size, 2, none⟩ = some (.int .u32 0) := by simp [World.cell?, c2]
          have k20f : Y.frozen? ⟨w.heap.size, 0, none⟩ = false := by simp [World.frozen?, c2]
          have k21f : Y.frozen? ⟨w.heap.size, 1, none⟩ = false := by simp [World.frozen?, c2]
          have k22f : Y.frozen? ⟨w.heap.size, 2, none⟩ = false := by simp [World.frozen?, c2]
          have kH : Y.cell? ⟨W.heap.size, 2, none⟩ = some (.int .u32 a) := by simp [World.cell?, cH]
          have kHf : Y.frozen? ⟨W.heap.size, 2, none⟩ = false := by simp [World.frozen?, cH]
          have HNUM := Lib.hid (fun W => octet_Number.calls x 255 n b W hnum)
          have HNUM' := Lib.hid hnum
          clear c2 c3 cH hB hfold hnum hpl hDF
          cases b with
          | false =>
            gi_wp2_with (refine ⟨trivial, ?_⟩; gi_at_call 56; refine (CallsIn.inRound l (callsIn_wide.2 (HNUM.out _))).mono ?_; rintro e w' ⟨rfl, ⟨nd, rfl⟩⟩)
            exact ⟨(keepsOthers_drewN Y nd).trans (endW_keeps _ _ _ _ _ _), ⟨⟨rfl, by rw [List.map_append, List.foldl_append, LF.out]; simp [adrStep, HNUM'.out]⟩, endW_two (Y.drewN nd) _ _ _ _ _ _ L2.out rfl, endW_three (Y.drewN nd) _ _ _ _ _ _ L3.out⟩, endW_below _ _ _ _ _ _ _ (LB.out.drewN' nd), df_keeps LD.out ((keepsOthers_drewN Y nd).trans (endW_keeps _ _ _ _ _ _))⟩
          | true =>
            gi_wp2_with (refine ⟨trivial, ?_⟩; gi_at_call 56; refine (CallsIn.inRound l (callsIn_wide.2 (HNUM.out _))).mono ?_; rintro e w' ⟨rfl, ⟨nd, rfl⟩⟩)
            refine ⟨(keepsOthers_drewN Y nd).trans (KeepsOthers.setCell _ _ _), keepHi_setCell (keepHi_drewN _ Y nd) _ _ _ (by have := HSZ.out; omega), ⟨⟨?_, ?_⟩, addStep a n, ?_, ?_⟩, ?_, df_keeps LD.out ((keepsOthers_drewN Y nd).trans (KeepsOthers.setCell _ _ _))⟩
            · exact blk_far (w := Y.drewN nd) L2.out (by show _ ≠ W.heap.size; omega) _
            · exact blk_far (w := Y.drewN nd) (cs := #[.int .i64 0]) L3.out (by show _ ≠ W.heap.size; omega) _
            · rw [List.map_append, List.foldl_append, LF.out]; simp [adrStep, HNUM'.out]
            · exact blk_put (w := Y.drewN nd) LH.out 2 _ rfl
            · exact (LB.out.drewN' nd).setCell (p := ⟨W.heap.size, 2, none⟩) (by show _ ≤ W.heap.size; omega) _
        case done2 =>
          rintro D2 ys Y hD2 rfl ⟨⟨⟨c2, c3⟩, a, hfold, cH⟩, hB, hD1⟩ hK2
          have hadr : addrOf ls = some (some a) := by
            have := mapL_upto lo 46 ls hls ls.length (Nat.le_refl _)
            rw [List.take_length] at this
            unfold addrOf
            rw [this] at hfold
            exact hfold
          have hrr : r = (⟨#[]⟩, true, a, 0) := by
            have h := HR.out
            rw [hadr] at h
            exact (Option.some.inj h).symm
          subst hrr
          have L2 := Lib.hid c2
          have L3 := Lib.hid c3
          have LH := Lib.hid cH
          have LB := Lib.hid hB
          have LD := Lib.hid hD1
          have LK := Lib.hid hK2
          have LD2 := Lib.hid hD2
          have k3 := c3.cell
          have k3f := c3.frozen
          have k20 : Y.cell? ⟨w.heap.size, 0, none⟩ = some (.string ⟨#[]⟩) := by simp [World.cell?, c2]
          have k21 : Y.cell? ⟨w.heap.size, 1, none⟩ = some (.bool false) := by simp [World.cell?, c2]
          have k22 : Y.cell? ⟨w.heap.size, 2, none⟩ = some (.int .u32 0) := by simp [World.cell?, c2]
          have k20f : Y.frozen? ⟨w.heap.size, 0, none⟩ = false := by simp [World.frozen?, c2]
          have k21f : Y.frozen? ⟨w.heap.size, 1, none⟩ = false := by simp [World.frozen?, c2]
          have k22f : Y.frozen? ⟨w.heap.size, 2, none⟩ = false := by simp [World.frozen?, c2]
          have kH0 : Y.cell? ⟨W.heap.size, 0, none⟩ = some (.string ⟨#[]⟩) := by simp [World.cell?, cH]
          have kH1 : Y.cell? ⟨W.heap.size, 1, none⟩ = some (.bool true) := by simp [World.cell?, cH]
          have kH2 : Y.cell? ⟨W.heap.size, 2, none⟩ = some (.int .u32 a) := by simp [World.cell?, cH]
          clear c2 c3 cH hB hD1 hK2 hD2 hadr hfold HR
          gi_wp2
          exact HFIN2.out D2 (by have := LD2.out; have := HDW.out; omega) _ LK.out LD.out L2.out L3.out LB.out _ _ _ _ _ rfl rfl
        case stop2 =>
          rintro D2 c pre Y hD2 ⟨k, hk, rfl⟩ ⟨⟨⟨rfl, hbad⟩, c2, c3⟩, hB, hD1⟩ hK2
          have hadr : addrOf ls = some none := by
            have := mapL_upto lo 46 ls hls k hk
            rw [this] at hbad
            unfold addrOf
            rw [← List.take_append_drop k ls, List.foldl_append, hbad]
            exact foldl_none _
          have hrr : r = (⟨#[]⟩, false, 0, 20) := by
            have h := HR.out
            rw [hadr] at h
            exact (Option.some.inj h).symm
          subst hrr
          gi_wp2
          refine ⟨by simp, .inl ⟨_, _, rfl, run_takeDeferred hK2, ?_⟩⟩
          have hne : D ≠ D2 := by have := HDW.out; omega
          have hK1 : (Y.putObj D2 (.deferred none)).heap[D]? = some (.deferred (some [])) := ((grownBy_putObj' Y D2 (.deferred none)).block D (Array.getElem?_eq_some_iff.1 (show Y.heap[D]? = _ from hD1)).1 (fun e => hne (by injection e))).trans hD1
          refine ⟨by simp, .inl ⟨_, _, rfl, run_takeDeferred hK1, ?_⟩⟩
          have e1 := put_two (.deferred none) hK2 c2
          have e2 := put_two (cs := #[.int .i64 20]) (.deferred none) hK2 c3
          exact ⟨_, results55 _ w.heap.size _ _ _ _ _ (put_two (.deferred none) hK1 e1) (put_two (cs := #[.int .i64 20]) (.deferred none) hK1 e2) rfl rfl, rfl, (hB.trans (belowK_b (w := w) (Nat.le_refl _) Y D2 _ _ (by have := HDW.out; have := HDC.out; have := HW1.out.2; omega) hK2 rfl rfl)).trans (belowK_b (w := w) (Nat.le_refl _) _ D _ _ (by have := HDC.out; have := HW1.out.2; omega) hK1 rfl rfl)⟩
      · rw [if_neg g4] at HR
        have hrr : r = (⟨#[]⟩, false, 0, 20) := (Option.some.inj HR.out).symm
        subst hrr
        clear HR
        have g4b : ((ls.length : Int) == 4) = false := by simpa using (show ¬ (ls.length : Int) = 4 by omega)
        have g4c : ((ls.length : Int) != 4) = true := by simpa using (show ¬ (ls.length : Int) = 4 by omega)
        clear g4
        gi_wp2_with (refine ⟨trivial, ?_⟩; gi_at_call 73; refine (callsIn_wide.2 (HF.out _)).mono ?_; rintro e w' ⟨rfl, ⟨nd, rfl⟩⟩)
        exact HFIN.out (W.drewN _) _ _ _ _ HK.out K2.out K3.out (HB.out.drewN' _) _ rfl rfl
def host_Parse.f (a0 : ByteArray) : Option (ByteArray × Bool × Int × Int) :=
  (octet_Lower.f a0).bind fun lo => (octet_Split.f lo 46).bind fun ls => hostOf lo ls
theorem host_Parse.calls (a0 : ByteArray) (r1 : ByteArray) (r2 : Bool) (r3 r4 : Int) (w : World) (h : host_Parse.f a0 = some (r1, r2, r3, r4)) :
    Calls Tryd.prog 55 #[.string a0] w fun e w' => e = .returned (.tuple #[.agg #[.string r1, .bool r2, .int .u32 r3], .int .i64 r4]) ∧ Below w.heap.size w w' := by
  obtain ⟨lo, hlo, h⟩ := Option.bind_eq_some_iff.1 h
  obtain ⟨ls, hls, h⟩ := Option.bind_eq_some_iff.1 h
  exact callsIn_wide.1 (host_parse a0 lo ls hlo hls _ h w)
end Go.Proofs.YtgmacggbhcodjaaDoor.Q

