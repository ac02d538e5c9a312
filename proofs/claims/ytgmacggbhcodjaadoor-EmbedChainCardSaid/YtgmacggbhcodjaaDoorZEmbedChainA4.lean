/- A part of the claim EmbedChain: A4. -/
import Derived.Test.YtgmacggbhcodjaaDoorZEmbedChainA3
import Derived.RangeFuncNested
import Derived.RangeFuncBound
import Derived.RangeFuncCalls
import Derived.RangeFuncLeaves
import Derived.Shelf.Abstract
import Derived.Shelf.RegionOpen
import Derived.WalkKit
import Derived.OwnWalkIn
import Derived.TacticsInMore
import Derived.LoopNIn
import Derived.LoopIn
namespace Go.Proofs.YtgmacggbhcodjaaDoor.Q
set_option linter.unusedVariables false
set_option linter.unusedSimpArgs false
open Go.RowKit Go.Proofs.YtgmacggbhcodjaaDoorW Go.Proofs.YtgmacggbhcodjaaDoorW.PrintWords
def isDigit (c : Int) : Bool := decide (48 ≤ c) && decide (c ≤ 57)
def isSmall (c : Int) : Bool := (decide (97 ≤ c) && decide (c ≤ 122)) || isDigit c || c == 45 || c == 95
theorem digit_calls (c : Int) (w : World) : Calls Tryd.prog 75 #[.int .u8 c] w fun e w' => e = .returned (.bool (isDigit c)) ∧ Drawn0 w w' := by
  by_cases h1 : 48 ≤ c
  · by_cases h2 : c ≤ 57
    · have hd : isDigit c = true := by simp [isDigit, h1, h2]
      rw [hd]
      go_enter Tryd.func75, Tryd.ntmps75
      go_wp2
      go_ret
      exact ⟨rfl, by repeat (first | exact Drawn0.refl _ | apply Drawn0.step)⟩
    · have hd : isDigit c = false := by simp [isDigit, h1, h2]
      rw [hd]
      go_enter Tryd.func75, Tryd.ntmps75
      go_wp2
      go_ret
      exact ⟨rfl, by repeat (first | exact Drawn0.refl _ | apply Drawn0.step)⟩
  · have hd : isDigit c = false := by simp [isDigit, h1]
    rw [hd]
    go_enter Tryd.func75, Tryd.ntmps75
    go_wp2
    go_ret
    exact ⟨rfl, by repeat (first | exact Drawn0.refl _ | apply Drawn0.step)⟩
theorem small_calls (c : Int) (w : World) : Calls Tryd.prog 74 #[.int .u8 c] w fun e w' => e = .returned (.bool (isSmall c)) ∧ Drawn0 w w' := by
  have hc := fun W => digit_calls c W
  by_cases h1 : 97 ≤ c ∧ c ≤ 122
  · obtain ⟨h1, h2⟩ := h1
    have hd : isSmall c = true := by simp [isSmall, h1, h2]
    rw [hd]
    go_enter Tryd.func74, Tryd.ntmps74
    go_wp2
    go_ret
    exact ⟨rfl, by repeat (first | exact Drawn0.refl _ | apply Drawn0.step)⟩
  · by_cases h3 : isDigit c = true
    · have hd : isSmall c = true := by simp [isSmall, h3]
      rw [hd]
      rw [h3] at hc
      have H := Lib.hid hc
      have h4 : 48 ≤ c ∧ c ≤ 57 := by simpa [isDigit] using h3
      obtain ⟨h4, h5⟩ := h4
      clear hc h1 h3 hd
      go_enter Tryd.func74, Tryd.ntmps74
      go_wp2_with (go_at_call 75; refine (H.out _).mono ?_; rintro e w' ⟨rfl, ⟨nd, rfl⟩⟩)
      go_ret
      exact ⟨rfl, by repeat (first | exact Drawn0.refl _ | apply Drawn0.step)⟩
    · replace h3 : isDigit c = false := by simpa using h3
      have hd : isSmall c = (c == 45 || c == 95) := by
        have : (decide (97 ≤ c) && decide (c ≤ 122)) = false := by simp; omega
        simp [isSmall, h3, this]
      rw [hd]
      rw [h3] at hc
      have H := Lib.hid hc
      clear hc h3 hd
      by_cases h6 : c = 45
      · subst h6
        go_enter Tryd.func74, Tryd.ntmps74
        go_wp2_with (go_at_call 75; refine (H.out _).mono ?_; rintro e w' ⟨rfl, ⟨nd, rfl⟩⟩)
        go_ret
        exact ⟨rfl, by repeat (first | exact Drawn0.refl _ | apply Drawn0.step)⟩
      · have h6b : (c == 45) = false := by simpa using h6
        have h1b : 97 ≤ c → 122 < c := by omega
        by_cases h7 : 97 ≤ c
        · have h8 : 122 < c := h1b h7
          clear h1b h1 h6
          go_enter Tryd.func74, Tryd.ntmps74
          go_wp2_with (go_at_call 75; refine (H.out _).mono ?_; rintro e w' ⟨rfl, ⟨nd, rfl⟩⟩)
          go_ret
          exact ⟨by simp [h6b]; try omega, by repeat (first | exact Drawn0.refl _ | apply Drawn0.step)⟩
        · clear h1b h1 h6
          go_enter Tryd.func74, Tryd.ntmps74
          go_wp2_with (go_at_call 75; refine (H.out _).mono ?_; rintro e w' ⟨rfl, ⟨nd, rfl⟩⟩)
          go_ret
          exact ⟨by simp [h6b]; try omega, by repeat (first | exact Drawn0.refl _ | apply Drawn0.step)⟩
def allFrom (p : Int → Bool) (s : ByteArray) : Bool := s.data.toList.all fun b => p b.toNat
set_option maxHeartbeats 400000 in
theorem fits_calls (p : Int → Bool) (g : Nat) (hp : ∀ c W, Calls Tryd.prog g #[.int .u8 c] W fun e w' => e = .returned (.bool (p c)) ∧ Drawn0 W w') (s : ByteArray) (w : World) (hs : s.size ≤ 9223372036854775807) (eg : ∀ args w, (callFunc g args).run Tryd.prog w = .ok (.enter g args) w) :
    Calls Tryd.prog 73 #[.string s, .func (.func g) #[] #[]] w fun e w' => e = .returned (.bool (allFrom p s)) ∧ Drawn0 w w' := by
  go_enter Tryd.func73, Tryd.ntmps73
  go_wp2_with fail
  go_loopw [5, 8] (fun _ i wr => ∃ k : Nat, k ≤ s.size ∧ i = .int .i64 k ∧ Aside (∀ j, j < k → p (PrintWords.bt s j) = true) ∧ Drawn0 w wr) (fun _ i _ => s.size - (intOf i).toNat)
  case atStart => exact ⟨0, Nat.zero_le _, rfl, fun j hj => absurd hj (Nat.not_lt_zero _), Drawn0.refl _⟩
  case round =>
    obtain ⟨k, hk, rfl, HA, ⟨nd, rfl⟩⟩ := hrel
    by_cases hlt : k < s.size
    · have hlti : (k : Int) < s.size := by omega
      have hbt := bt_nat s k hlt
      have hc := fun W => hp (s[k].toNat : Int) W
      have HBT := Lib.hid hbt
      clear hbt hp
      cases hq : p (s[k].toNat : Int) with
      | true =>
        rw [hq] at hc
        have H := Lib.hid hc
        have HQ := Lib.hid hq
        clear hc hq
        go_wp2_with (refine (H.out _).mono ?_; rintro e w' ⟨rfl, ⟨nd, rfl⟩⟩)
        go_roundw
        case rel =>
          refine ⟨k + 1, by omega, by go_num, (show Aside _ from fun j hj => ?_), by repeat (first | exact Drawn0.refl _ | apply Drawn0.step)⟩
          by_cases e : j = k
          · subst e; rw [HBT.out]; exact HQ.out
          · exact HA.out j (by omega)
        case measure => simp [intOf]; omega
      | false =>
        rw [hq] at hc
        have H := Lib.hid hc
        have HF : Hid (allFrom p s = false) := by
          unfold allFrom
          rw [List.all_eq_false]
          exact ⟨s.data.toList[k]'(by simpa using hlt), List.getElem_mem _, by show ¬ p (s[k].toNat : Int) = true; rw [hq]; simp⟩
        clear hc hq
        go_wp2_with (refine (H.out _).mono ?_; rintro e w' ⟨rfl, ⟨nd, rfl⟩⟩)
        go_ret
        exact ⟨ret_bool HF.out.symm, by repeat (first | exact Drawn0.refl _ | apply Drawn0.step)⟩
    · obtain rfl : k = s.size := by omega
      have HF : Hid (allFrom p s = true) := by
        unfold allFrom
        show _ = true
        rw [List.all_eq_true]
        intro b hb
        obtain ⟨i, hi, rfl⟩ := List.getElem_of_mem hb
        have hi' : i < s.size := by simpa using hi
        have := HA.out i hi'
        rw [bt_nat s i hi'] at this
        exact this
      clear hk hlt hp
      go_wp2
      go_ret
      exact ⟨ret_bool HF.out.symm, by repeat (first | exact Drawn0.refl _ | apply Drawn0.step)⟩
open Go.Shelf
attribute [local go_sem] Oper.semAt_some
def upto {α : Type} (f : Nat → α) (k : Nat) : List α := (List.range k).map f
theorem upto_succ {α : Type} (f : Nat → α) (k : Nat) : upto f (k + 1) = upto f k ++ [f k] := by simp [upto, List.range_succ]
theorem upto_length {α : Type} (f : Nat → α) (k : Nat) : (upto f k).length = k := by simp [upto]
theorem labels_in (F : Fence) (n : Nat) (h : F.fn 72) (hro : F.round = none) (s : ByteArray) (w : World) :
    CallsIn F n Tryd.prog 72 #[.string s] w fun e w' => e = .returned (.func (.func 91) #[] #[.pointer (some ⟨w.heap.size, 0, none⟩)]) ∧ w' = w.alloc (.cells #[.string s] 9) := by
  refine callsIn_of_wp Tryd.func72 rfl h ?_ hro
  simp only [Tryd.ntmps72, List.size_toArray, List.length_cons, List.length_nil, Nat.reduceAdd, Nat.reduceSub, Array.replicate_succ, Array.replicate_zero, List.push_toArray, List.append_toArray, List.nil_append, List.cons_append]
  gi_wp2
  go_ret
  exact ⟨rfl, rfl⟩
def KeepHi (n₁ : Nat) (A B : World) : Prop := ∀ j o, n₁ ≤ j → A.heap[j]? = some o → o.isCells = true → B.heap[j]? = some o
theorem keepHi_t {n₁ : Nat} {A B C : World} (h : KeepHi n₁ A B) (k : KeepHi n₁ B C) : KeepHi n₁ A C := fun j o hj ho hc => k j o hj (h j o hj ho hc) hc
theorem keepHi_b {n₁ : Nat} (W : World) (l : Nat) (o o' : Obj) (_hl : n₁ ≤ l) (ho : W.heap[l]? = some o) (hc : o.isCells = false) (_hw : o.isWalk = false) : KeepHi n₁ W (W.putObj l o') := by
  intro j p hj hp hpc
  by_cases e : j = l
  · subst e; rw [ho] at hp; cases hp; rw [hc] at hpc; cases hpc
  · rw [← hp]
    exact (grownBy_putObj' W l o').block j (by rcases Nat.lt_or_ge j W.heap.size with h | h; exact h; rw [Array.getElem?_eq_none h] at hp; cases hp) (by intro h; injection h with h; exact e h)
def Pair (ls : List ByteArray) (j : Nat) : Nat × ByteArray := (j, ls[j]?.getD ByteArray.empty)
theorem split_ne (s : ByteArray) (c : Int) (ls : List ByteArray) (h : octet_Split.f s c = some ls) : 0 < ls.length ∧ ls.length ≤ s.size + 1 ∧ s.size ≤ 8796093022206 := by
  unfold octet_Split.f at h
  by_cases hs : s.size ≤ 8796093022206
  · rw [if_pos hs] at h
    obtain rfl := Option.some.inj h
    have := (cutTo_le s c s.size).2
    simp; omega
  · rw [if_neg hs] at h; exact absurd h (by simp)
theorem R_open {w : World} {e base : Nat} {ok : Nat → Prop} {v : Value} {xs : List ByteArray} (h : Kd.R Kd.string e w base ok v xs) (hn : 0 < xs.length) :
    ∃ g cap cur, v = .slice (some ⟨g, 0, none⟩) xs.length cap ∧ base ≤ g ∧ w.heap[g]? = some (.cells cur e (0, 0)) ∧ ∀ j, j < xs.length → cur[j]? = some (.string (xs[j]?.getD ByteArray.empty)) := by
  have ho := Kd.own_of_R h
  rcases ho.2 with ⟨_, h0⟩ | ⟨g, cap, cur, rfl, hb, hh, hc, hm, hs, ht⟩
  · omega
  · refine ⟨g, cap, cur, rfl, hb, hh, fun j hj => ?_⟩
    have := congrArg (fun l => l[j]?) ht
    simp only [Nat.mul_one, List.getElem?_take, hj, if_true, encs] at this
    rw [List.getElem?_map, List.getElem?_eq_getElem hj] at this
    rw [List.getElem?_eq_getElem hj]
    simpa using this
set_option maxRecDepth 100000 in
set_option maxHeartbeats 1000000 in
theorem labels1_in (n : Nat) (hn : 1 ≤ n) (l Bs : Nat) (s : ByteArray) (ls : List ByteArray) (hls : octet_Split.f s 46 = some ls) (n₁ : Nat) (J Jx : Nat → World → Prop) (W : World) (hn1 : n₁ ≤ W.heap.size)
    (hJ : AbidesFrom W.heap.size J)
    (hY : ∀ k W1, J k W1 → k < ls.length → YieldAt Fence.wide (n - 1) Tryd.prog l #[.int .i64 (k : Int), .string (ls[k]?.getD ByteArray.empty)] W1 fun e W' =>
      (e = .returned (.bool true) ∧ J (k + 1) W' ∧ KeepHi n₁ W1 W') ∨ (e = .returned (.bool false) ∧ Jx (k + 1) W'))
    (hBs : W.cell? ⟨Bs, 0, none⟩ = some (.string s)) (h0 : J 0 W) :
    CallsIn Fence.wide n Tryd.prog 91 #[.func (.yield l) #[] #[], .pointer (some ⟨Bs, 0, none⟩)] W fun e W' => (∃ v, e = .returned v) ∧
      (J ls.length W' ∨ ∃ k, k ≤ ls.length ∧ Jx k W') := by
  have hlen := split_ne s 46 ls hls
  obtain ⟨hl0, hl1, hl2⟩ := hlen
  have hl3 : ls.length ≤ 9223372036854775807 := by omega
  have HL1 := Lib.hid hl1
  have HL2 := Lib.hid hl2
  clear hl1 hl2
  refine callsIn_of_wp Tryd.func91 rfl trivial ?_ rfl
  simp only [Tryd.ntmps91, List.size_toArray, List.length_cons, List.length_nil, Nat.reduceAdd, Nat.reduceSub, Array.replicate_succ, Array.replicate_zero, List.push_toArray, List.append_toArray, List.nil_append, List.cons_append]
  have HJ := Lib.hid hJ
  have HY := Lib.hid hY
  have HN := Lib.hid hn1
  have H0 := Lib.hid h0
  clear hJ hY hn1 h0
  gi_wp2_with (refine ⟨trivial, ?_⟩; gi_at_call 79; refine (callsIn_wide.2 (octet_Split.calls s 46 ls _ hls)).mono ?_; rintro e w' ⟨v, rfl, hr, hb⟩; obtain ⟨g, cap, cur, rfl, hbg, hh, hcell⟩ := R_open hr hl0; have HB := Lib.hid hb; have HG := Lib.hid hbg; have HH := Lib.hid hh; have HC := Lib.hid hcell; clear hr hb hbg hh hcell)
  have H0' := Lib.hid (HJ.out 0 _ _ none H0.out ⟨HB.out.os, HB.out.tape, HB.out.output, HB.out.size, fun k hk _ => HB.out.block k hk⟩ (fun r e => by cases e))
  clear H0
  gi_loopw [3, 4, 8] (fun _ _ i wr => ∃ k : Nat, k ≤ ls.length ∧ i = .int .i64 k ∧ Aside (J k wr) ∧ Aside (wr.heap[g]? = some (.cells cur 9 (0, 0))))
    (fun _ _ i _ => ls.length - (intOf i).toNat)
  case atStart => exact ⟨0, Nat.zero_le _, rfl, H0'.out, HH.out⟩
  case round =>
    obtain ⟨k, hk, rfl, HJs, HHs⟩ := hrel
    by_cases hlt : k < ls.length
    · obtain ⟨fn, tmps, assign, body, hy, hR⟩ := HY.out k wr HJs.out hlt
      have hcx : wr.cell? ⟨g, k, none⟩ = some (.string (ls[k]?.getD ByteArray.empty)) := by
        have := HC.out k hlt
        simp [World.cell?, HHs.out, this]
      obtain ⟨x, hx⟩ : ∃ x, ls[k]?.getD ByteArray.empty = x := ⟨_, rfl⟩
      rw [hx] at hy hcx
      clear hx
      have hRH := Lib.hid hR
      clear hR
      gi_wp2
      refine hRH.out.mono ?_
      rintro e W3 (⟨rfl, hJ3, hk3⟩ | ⟨rfl, hJx3⟩)
      · have HJ3 := Lib.hid hJ3
        have HK3 := Lib.hid hk3
        clear hJ3 hk3
        gi_wp2
        go_roundw
        case rel => exact ⟨k + 1, by omega, by go_num, HJ3.out, HK3.out g _ (Nat.le_trans HN.out HG.out) HHs.out rfl⟩
        case measure => simp [intOf]; omega
      · have HJ3 := Lib.hid hJx3
        clear hJx3
        gi_wp2
        refine bodyPost_ret (results_none rfl _ _ _) rfl ?_
        exact ⟨⟨_, rfl⟩, .inr ⟨k + 1, by omega, HJ3.out⟩⟩
    · obtain rfl : k = ls.length := by omega
      clear hlt hk
      gi_wp2
      go_end0
      exact ⟨⟨_, rfl⟩, .inl HJs.out⟩
theorem labels_stops (n : Nat) (hn : 1 ≤ n) (Bs : Nat) (s : ByteArray) (ls : List ByteArray) (hls : octet_Split.f s 46 = some ls) (w : World) (hBs : w.cell? ⟨Bs, 0, none⟩ = some (.string s)) (hB : Bs < w.heap.size) :
    SeqStopsK Fence.wide n Tryd.prog 91 #[.pointer (some ⟨Bs, 0, none⟩)] (fun x : Nat × ByteArray => #[Value.int .i64 (x.1 : Int), Value.string x.2]) (KeepHi w.heap.size) (fun ys => ys = upto (Pair ls) ls.length)
      (fun pre => ∃ k, k ≤ ls.length ∧ pre = upto (Pair ls) k) ls.length w := fun l J Jx W hW hJ _ hY h0 =>
  (labels1_in n hn l Bs s ls hls w.heap.size (fun k => J (upto (Pair ls) k)) (fun k => Jx (upto (Pair ls) k)) W hW.size (fun k => hJ _) (fun k W1 hk hlt => by
    have := hY (upto (Pair ls) k) (Pair ls k) W1 hk (by rw [upto_length]; exact hlt)
    rw [← upto_succ] at this
    exact this) ((hW.cell (p := ⟨Bs, 0, none⟩) hB).trans hBs) h0).mono fun e W' ⟨he, hh⟩ => ⟨he, hh.elim (fun h => .inl ⟨_, rfl, h⟩) (fun ⟨k, hk, h⟩ => .inr ⟨_, ⟨k, hk, rfl⟩, h⟩)⟩
abbrev Lb := {p : Nat × ByteArray // p.2.size ≤ 8796093022206}
theorem extract_size_le (s : ByteArray) (a b : Nat) : (s.extract a b).size ≤ s.size := by rw [ByteArray.size_extract]; omega
theorem cutTo_size (s : ByteArray) (c : Int) : ∀ k, ∀ l ∈ (cutTo s c k).1, l.size ≤ s.size
  | 0 => fun l h => by simp [cutTo] at h
  | k + 1 => fun l h => by
    unfold cutTo at h
    split at h
    · rcases List.mem_append.1 h with h | h
      · exact cutTo_size s c k l h
      · simp at h; subst h; exact extract_size_le _ _ _
    · exact cutTo_size s c k l h
theorem split_size (s : ByteArray) (c : Int) (ls : List ByteArray) (h : octet_Split.f s c = some ls) : ∀ l ∈ ls, l.size ≤ s.size := by
  unfold octet_Split.f at h
  by_cases hs : s.size ≤ 8796093022206
  · rw [if_pos hs] at h
    obtain rfl := Option.some.inj h
    intro l hl
    rcases List.mem_append.1 hl with h | h
    · exact cutTo_size s c _ l h
    · simp at h; subst h; exact extract_size_le _ _ _
  · rw [if_neg hs] at h; exact absurd h (by simp)
theorem pair_size (s : ByteArray) (c : Int) (ls : List ByteArray) (h : octet_Split.f s c = some ls) (k : Nat) : (Pair ls k).2.size ≤ 8796093022206 := by
  have h1 := split_size s c ls h
  have h2 := (split_ne s c ls h).2.2
  unfold Pair
  cases e : ls[k]? with
  | none => exact Nat.zero_le _
  | some x =>
    have := h1 x (List.mem_of_getElem? e)
    show x.size ≤ _
    omega
def PairL (s : ByteArray) (c : Int) (ls : List ByteArray) (h : octet_Split.f s c = some ls) (k : Nat) : Lb := ⟨Pair ls k, pair_size s c ls h k⟩
theorem labels_stopsL (n : Nat) (hn : 1 ≤ n) (Bs : Nat) (s : ByteArray) (ls : List ByteArray) (hls : octet_Split.f s 46 = some ls) (w : World) (hBs : w.cell? ⟨Bs, 0, none⟩ = some (.string s)) (hB : Bs < w.heap.size) :
    SeqStopsK Fence.wide n Tryd.prog 91 #[.pointer (some ⟨Bs, 0, none⟩)] (fun x : Lb => #[Value.int .i64 (x.1.1 : Int), Value.string x.1.2]) (KeepHi w.heap.size) (fun ys => ys = upto (PairL s 46 ls hls) ls.length)
      (fun pre => ∃ k, k ≤ ls.length ∧ pre = upto (PairL s 46 ls hls) k) ls.length w := fun l J Jx W hW hJ _ hY h0 =>
  (labels1_in n hn l Bs s ls hls w.heap.size (fun k => J (upto (PairL s 46 ls hls) k)) (fun k => Jx (upto (PairL s 46 ls hls) k)) W hW.size (fun k => hJ _) (fun k W1 hk hlt => by
    have := hY (upto (PairL s 46 ls hls) k) (PairL s 46 ls hls k) W1 hk (by rw [upto_length]; exact hlt)
    rw [← upto_succ] at this
    exact this) ((hW.cell (p := ⟨Bs, 0, none⟩) hB).trans hBs) h0).mono fun e W' ⟨he, hh⟩ => ⟨he, hh.elim (fun h => .inl ⟨_, rfl, h⟩) (fun ⟨k, hk, h⟩ => .inr ⟨_, ⟨k, hk, rfl⟩, h⟩)⟩
end Go.Proofs.YtgmacggbhcodjaaDoor.Q

