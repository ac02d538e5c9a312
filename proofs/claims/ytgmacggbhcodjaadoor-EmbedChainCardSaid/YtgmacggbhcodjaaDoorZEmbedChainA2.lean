/- A part of the claim EmbedChain: A2. -/
import Derived.Test.YtgmacggbhcodjaaDoorZEmbedChainA0
import Derived.Deep.QuietTactic
import Derived.BigQuiet
import Derived.WalkSpells
namespace Go.Proofs.YtgmacggbhcodjaaDoor.Q
open Go.RowKit Go.Proofs.YtgmacggbhcodjaaDoorW.PrintWords
set_option linter.unusedVariables false
set_option linter.unusedSimpArgs false
def strings_IndexByte.f (a0 : ByteArray) (a1 : Int) : Option Int := some (Lib.indexByte a0.data.toList a1.toNat.toUInt8)
theorem strings_IndexByte.calls (a0 : ByteArray) (a1 : Int) (r : Int) (w : World) (h : strings_IndexByte.f a0 a1 = some r) :
    Calls Tryd.prog 53 #[.string a0, .int .u8 a1] w fun e w' => e = .returned (.int .i64 r) ∧ Drawn0 w w' := by
  refine (Tryd.strings_IndexByte a0 a1 w).mono ?_
  rintro e w' ⟨rfl, rfl⟩
  exact ⟨ret_int (Option.some.inj h), Drawn0.refl _⟩
def strings_Cut.f (a0 a1 : ByteArray) : Option (ByteArray × ByteArray × Bool) :=
  if a1.size = 1 ∧ a0.size ≤ 4611686018427387904 then
    (if 0 ≤ Lib.indexByte a0.data.toList (a1.data.toList.getD 0 0) then
      some (a0.extract 0 (Lib.indexByte a0.data.toList (a1.data.toList.getD 0 0)).toNat, a0.extract ((Lib.indexByte a0.data.toList (a1.data.toList.getD 0 0)).toNat + 1) a0.size, true)
    else some (a0, ⟨#[]⟩, false)) else none
theorem one_byte (a : ByteArray) (h : a.size = 1) : ∃ c, a = ⟨#[c]⟩ := by
  obtain ⟨⟨l⟩⟩ := a
  have h' : l.length = 1 := h
  match l, h' with
  | [c], _ => exact ⟨c, rfl⟩
theorem cut_lite (s : ByteArray) (c : UInt8) (w : World) (hs : s.size ≤ 4611686018427387904) :
    Calls Tryd.prog 52 #[.string s, .string ⟨#[c]⟩] w fun e w' => e = .returned (if 0 ≤ Lib.indexByte s.data.toList c then .tuple #[.string (s.extract 0 (Lib.indexByte s.data.toList c).toNat), .string (s.extract ((Lib.indexByte s.data.toList c).toNat + 1) s.size), .bool true] else .tuple #[.string s, .string ⟨#[]⟩, .bool false]) ∧ Drawn0 w w' := by
  have hge := Lib.indexByte_ge s.data.toList c
  have hlt : Lib.indexByte s.data.toList c < s.size ∨ Lib.indexByte s.data.toList c = -1 := by
    by_cases h : 0 ≤ Lib.indexByte s.data.toList c
    · obtain ⟨n, hn⟩ := Int.eq_ofNat_of_zero_le h
      have := (Lib.indexByte_some (o := n) hn).1
      have hl : n < s.data.toList.length := by
        rcases Nat.lt_or_ge n s.data.toList.length with h | h
        · exact h
        · rw [List.getElem?_eq_none h] at this; exact absurd this (by simp)
      have : s.data.toList.length = s.size := by simp
      exact .inl (by omega)
    · exact .inr (by omega)
  have hc : ∀ W, Calls Tryd.prog 69 #[.string s, .string ⟨#[c]⟩] W fun e w' => e = .returned (.int .i64 (Lib.indexByte s.data.toList c)) ∧ w' = W := fun W => Tryd.stringslite_Index_one s c W
  generalize Lib.indexByte s.data.toList c = i at hge hlt hc ⊢
  by_cases h0 : 0 ≤ i
  · rw [if_pos h0]
    obtain ⟨n, rfl⟩ := Int.eq_ofNat_of_zero_le h0
    have hn : n < s.size := by omega
    clear hge hlt h0
    have H := Lib.hid hc
    clear hc
    go_enter Tryd.func52, Tryd.ntmps52
    go_wp2_with (go_at_call 69; refine (H.out _).mono ?_; rintro e w' ⟨rfl, rfl⟩)
    go_quiet (fail)
    go_wp2
    go_ret3
    exact ⟨rfl, by repeat (first | exact Drawn0.refl _ | apply Drawn0.step)⟩
  · rw [if_neg h0]
    obtain rfl : i = -1 := by omega
    clear hge hlt h0
    have H := Lib.hid hc
    clear hc
    go_enter Tryd.func52, Tryd.ntmps52
    go_wp2_with (go_at_call 69; refine (H.out _).mono ?_; rintro e w' ⟨rfl, rfl⟩)
    go_ret3
    exact ⟨rfl, by repeat (first | exact Drawn0.refl _ | apply Drawn0.step)⟩
theorem strings_Cut.calls (a0 a1 r1 r2 : ByteArray) (r3 : Bool) (w : World) (h : strings_Cut.f a0 a1 = some (r1, r2, r3)) :
    Calls Tryd.prog 28 #[.string a0, .string a1] w fun e w' => e = .returned (.tuple #[.string r1, .string r2, .bool r3]) ∧ Drawn0 w w' := by
  unfold strings_Cut.f at h
  by_cases hs : a1.size = 1 ∧ a0.size ≤ 4611686018427387904
  case neg => rw [if_neg hs] at h; exact absurd h (by simp)
  rw [if_pos hs] at h
  obtain ⟨c, rfl⟩ := one_byte a1 hs.1
  have hc := fun W => cut_lite a0 c W hs.2
  have hv : (if 0 ≤ Lib.indexByte a0.data.toList c then Value.tuple #[.string (a0.extract 0 (Lib.indexByte a0.data.toList c).toNat), .string (a0.extract ((Lib.indexByte a0.data.toList c).toNat + 1) a0.size), .bool true] else .tuple #[.string a0, .string ⟨#[]⟩, .bool false]) = .tuple #[.string r1, .string r2, .bool r3] := by
    have h' : (if 0 ≤ Lib.indexByte a0.data.toList c then some (a0.extract 0 (Lib.indexByte a0.data.toList c).toNat, a0.extract ((Lib.indexByte a0.data.toList c).toNat + 1) a0.size, true) else some (a0, ⟨#[]⟩, false)) = some (r1, r2, r3) := h
    by_cases h0 : 0 ≤ Lib.indexByte a0.data.toList c
    · rw [if_pos h0] at h' ⊢
      injection h' with h'
      injection h' with e1 h'
      injection h' with e2 e3
      rw [e1, e2, e3]
    · rw [if_neg h0] at h' ⊢
      injection h' with h'
      injection h' with e1 h'
      injection h' with e2 e3
      rw [e1, e2, e3]
  rw [hv] at hc
  have H := Lib.hid hc
  clear hc hv h
  go_enter Tryd.func28, Tryd.ntmps28
  go_wp2_with (go_at_call 52; refine (H.out _).mono ?_; rintro e w' ⟨rfl, ⟨n, rfl⟩⟩)
  go_ret3
  exact ⟨rfl, by repeat (first | exact Drawn0.refl _ | apply Drawn0.step)⟩
def strings_Split.f (a0 a1 : ByteArray) : Option (List ByteArray) :=
  if 1 ≤ a1.size ∧ a0.size < 4294967281 then some (Lib.splitB a1 0 (Lib.countB a0 a1) a0) else none
theorem strings_Split.calls (a0 a1 : ByteArray) (r : List ByteArray) (w : World) (hG : Gw w) (h : strings_Split.f a0 a1 = some r) :
    Calls Tryd.prog 76 #[.string a0, .string a1] w fun e w' => ∃ v0_ : Value, e = .returned (v0_) ∧ Kd.R Kd.string 9 w' w.heap.size (fun _ => True) v0_ r ∧ Below w.heap.size w w' := by
  unfold strings_Split.f at h
  by_cases hs : 1 ≤ a1.size ∧ a0.size < 4294967281
  case neg => rw [if_neg hs] at h; exact absurd h (by simp)
  rw [if_pos hs] at h
  obtain ⟨m, hm⟩ := hG.maxLen
  have hl := Lib.splitB_all a1 hs.1 0 _ a0 rfl
  have hle := Lib.countB_le a1 hs.1 a0.size a0 (Nat.le_refl _)
  refine (Tryd.strings_Split a0 a1 m w hs.2 hm hs.1).mono ?_
  rintro e w' ⟨rfl, rfl⟩
  obtain rfl := Option.some.inj h
  refine ⟨_, rfl, ?_, (Below.refl _ _).alloc (Nat.le_refl _) _⟩
  have := R_str (w := w.alloc (.cells ((Lib.splitB a1 0 (Lib.countB a0 a1) a0).map Value.string).toArray 9)) (e := 9) (base := w.heap.size) (g := w.heap.size) (cap := Lib.countB a0 a1 + 1) (xs := Lib.splitB a1 0 (Lib.countB a0 a1) a0) (cur := ((Lib.splitB a1 0 (Lib.countB a0 a1) a0).map Value.string).toArray) (Nat.le_refl _) (by simp [World.alloc, -World.alloc_eq]) (by omega) (by unfold maxLen; omega) (by simp [hl]) (by rw [List.toList_toArray]; exact List.take_of_length_le (by simp))
  rw [hl] at this
  exact this
def strings_Join.f (l0 : List ByteArray) (a1 : ByteArray) : Option ByteArray :=
  if l0.length ≤ 140737488355328 ∧ (Lib.join (l0.map (·.data.toList)) a1.data.toList).length ≤ 140737488355328 then some ⟨(Lib.join (l0.map (·.data.toList)) a1.data.toList).toArray⟩ else none
theorem strings_Join.calls (A0 : Option Addr) (c0 : Nat) (l0 : List ByteArray) (a1 r : ByteArray) (w : World) (hr0 : Kd.C Kd.string w A0 l0.length l0) (hc0 : l0.length ≤ c0) (h : strings_Join.f l0 a1 = some r) :
    Calls Tryd.prog 78 #[.slice A0 l0.length c0, .string a1] w fun e w' => e = .returned (.string r) ∧ Below w.heap.size w w' := by
  unfold strings_Join.f at h
  by_cases hs : l0.length ≤ 140737488355328 ∧ (Lib.join (l0.map (·.data.toList)) a1.data.toList).length ≤ 140737488355328
  case neg => rw [if_neg hs] at h; exact absurd h (by simp)
  rw [if_pos hs] at h
  cases l0 with
  | nil =>
    refine (Tryd.strings_Join_none A0 c0 a1 w).mono ?_
    rintro e w' ⟨rfl, rfl⟩
    obtain rfl := Option.some.inj h
    exact ⟨rfl, Below.refl _ _⟩
  | cons x l =>
    obtain ⟨b, o, rfl, hb, hc⟩ := C_str hr0 (by simp)
    refine (Tryd.strings_Join b o c0 (x :: l) a1 w hc hb hs.1 hc0 hs.2).mono ?_
    rintro e w' ⟨rfl, hw⟩
    exact ⟨ret_str (Option.some.inj h), hw⟩
def strconv_Itoa.f (a0 : Int) : Option ByteArray := if -9223372036854775808 ≤ a0 ∧ a0 ≤ 9223372036854775807 then some ⟨(Lib.itoa a0).toArray⟩ else none
theorem strconv_Itoa.calls (a0 : Int) (r : ByteArray) (w : World) (hG : Gw w) (h : strconv_Itoa.f a0 = some r) :
    Calls Tryd.prog 50 #[.int .i64 a0] w fun e w' => e = .returned (.string r) ∧ Below w.heap.size w w' := by
  unfold strconv_Itoa.f at h
  by_cases hs : -9223372036854775808 ≤ a0 ∧ a0 ≤ 9223372036854775807
  case neg => rw [if_neg hs] at h; exact absurd h (by simp)
  rw [if_pos hs] at h
  refine (Tryd.strconv_Itoa a0 hs.1 hs.2 w hG.pow10).mono ?_
  rintro e w' ⟨rfl, k, os, rfl⟩
  exact ⟨ret_str (Option.some.inj h), ⟨rfl, rfl, rfl, by show w.heap.size ≤ (w.heap ++ os).size; rw [Array.size_append]; omega, fun j hj => by show (w.heap ++ os)[j]? = w.heap[j]?; rw [Array.getElem?_append, if_pos hj]⟩⟩
end Go.Proofs.YtgmacggbhcodjaaDoor.Q

