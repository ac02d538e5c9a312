/- A part of the claim EmbedChain: A3. -/
import Derived.Test.YtgmacggbhcodjaaDoorZEmbedChainA2
import Derived.RangeFuncNested
import Derived.RangeFuncBox
import Derived.Maps.AppendAt
import Derived.OwnWalk
namespace Go.Proofs.YtgmacggbhcodjaaDoor.Q
set_option linter.unusedVariables false
set_option linter.unusedSimpArgs false
open Go.RowKit Go.Proofs.YtgmacggbhcodjaaDoorW Go.Proofs.YtgmacggbhcodjaaDoorW.PrintWords
theorem infoStr : (Tryd.prog.info? 9).map (fun i => (i.zero, i.size, i.bytes)) = some (some (.string ⟨#[]⟩), 1, 16) := by kernel_rfl
set_option maxRecDepth 100000 in
theorem put_calls (p : ByteArray) (Be Bo n0 : Nat) (v : Value) (xs : List ByteArray) (w : World) (he : Boxed w Be 4 (.bool true)) (hv : Boxed w Bo 22 v) (hrow : w.ownsRow n0 9 1 v xs.length (xs.map Value.string)) (hn0 : n0 ≤ w.heap.size) (hB : n0 ≤ Bo) (hne : Be ≠ Bo) (hlen : xs.length + 1 ≤ 8796093022208) :
    Calls Tryd.prog 111 #[.string p, .pointer (some ⟨Be, 0, none⟩), .pointer (some ⟨Bo, 0, none⟩)] w fun e w' => e = .returned (.tuple #[]) ∧ ∃ v', Boxed w' Bo 22 v' ∧ w'.ownsRow n0 9 1 v' (xs ++ [p]).length ((xs ++ [p]).map Value.string) ∧ Below n0 w w' ∧ Boxed w' Be 4 (.bool true) := by
  have hec := he.cell
  have hvc := hv.cell
  have hvf := hv.frozen
  have HL := Lib.hid hlen
  have HE := Lib.hid he
  have HV := Lib.hid hv
  have HR := Lib.hid hrow
  have H0 := Lib.hid hn0
  clear hlen he hv hrow hn0
  obtain ⟨i0, hi, hz0, hz1, hz2⟩ := info_parts infoStr
  go_enter Tryd.func111, Tryd.ntmps111
  go_wp2_with (at_builtin; refine wpList_append_own _ rfl _ _ 22 rfl n0 9 i0 (.string ⟨#[]⟩) 1 16 Tryd.underlying22 hi hz0 hz1 hz2 rfl (by decide) _ _ _ rfl (HR.out.alloc _) ⟨w.heap.size, 0, none⟩ 1 1 [.string p] rfl rfl (cell_one_new _ _ _) (by simp [Value.oneCell']) (by unfold maxLen; have := HL.out; omega) (by have := HL.out; omega) (by have := H0.out; simp; omega) ?_; intro v' w1 hown' hgrow _; obtain ⟨g', cap', rfl⟩ := ownsRow_succ hown'; obtain ⟨hv1, hv2, hr2, hk2, hb2⟩ := HV.out.appended (by decide) HR.out H0.out hB hown' hgrow; have HE2 := Lib.hid (((HE.out.alloc (.cells #[.string p] 9)).kept hgrow (HE.out.not_row (by decide) HR.out)).other hne (.slice (some ⟨g', 0, none⟩) (xs.length + 1) cap')); have hc1 := hv1.cell; have hf1 := hv1.frozen; have HV2 := Lib.hid hv2; have HR2 := Lib.hid hr2; have HB2 := Lib.hid hb2; clear hown' hgrow hv1 hv2 hr2 hk2 hb2)
  go_end0
  refine ⟨rfl, _, HV2.out, ?_, HB2.out, HE2.out⟩
  have := HR2.out
  simpa using this
def cutTo (s : ByteArray) (c : Int) : Nat → List ByteArray × Nat
  | 0 => ([], 0)
  | k + 1 => if PrintWords.bt s k = c then ((cutTo s c k).1 ++ [s.extract (cutTo s c k).2 k], k + 1) else cutTo s c k
theorem cutTo_le (s : ByteArray) (c : Int) : ∀ k, (cutTo s c k).2 ≤ k ∧ (cutTo s c k).1.length ≤ k
  | 0 => ⟨Nat.le_refl _, Nat.le_refl _⟩
  | k + 1 => by
    have h := cutTo_le s c k
    unfold cutTo
    split
    · exact ⟨Nat.le_refl _, by simp; omega⟩
    · exact ⟨by omega, by omega⟩
theorem boxed_drewN {W : World} {B : Nat} {t : TypeId} {v : Value} (h : Boxed W B t v) (n : Nat) : Boxed (W.drewN n) B t v := h
theorem ownsRow_drewN {W : World} {base : Nat} {e : TypeId} {size : Nat} {v : Value} {n : Nat} {xs : List Value} (h : W.ownsRow base e size v n xs) (q : Nat) : (W.drewN q).ownsRow base e size v n xs := h
theorem _root_.Go.RowKit.Below.drewN' {B : Nat} {a w : World} (h : Below B a w) (n : Nat) : Below B a (w.drewN n) := ⟨h.os, h.tape, h.output, h.size, h.block⟩
theorem bt_nat (s : ByteArray) (k : Nat) (h : k < s.size) : PrintWords.bt s k = (s[k].toNat : Int) := by simp [PrintWords.bt, h]
theorem is_calls (c b : Int) (B : Nat) (w : World) (hc : w.cell? ⟨B, 0, none⟩ = some (.int .u8 b)) :
    Calls Tryd.prog 98 #[.int .u8 c, .pointer (some ⟨B, 0, none⟩)] w fun e w' => e = .returned (.bool (c == b)) ∧ Drawn0 w w' := by
  go_enter Tryd.func98, Tryd.ntmps98
  go_wp2
  go_ret
  exact ⟨rfl, by repeat (first | exact Drawn0.refl _ | apply Drawn0.step)⟩
set_option maxRecDepth 100000 in
set_option maxHeartbeats 1000000 in
theorem cut_calls (s : ByteArray) (c : Int) (Bb : Nat) (w : World) (hb : Boxed w Bb 5 (.int .u8 c)) (hs : s.size ≤ 8796093022206) :
    Calls Tryd.prog 97 #[.string s, .func (.func 98) #[] #[.pointer (some ⟨Bb, 0, none⟩)], .bool true] w fun e w' => ∃ v0_ : Value, e = .returned v0_ ∧ Kd.R Kd.string 9 w' w.heap.size (fun _ => True) v0_ ((cutTo s c s.size).1 ++ [s.extract (cutTo s c s.size).2 s.size]) ∧ Below w.heap.size w w' := by
  have HS := Lib.hid hs
  have hsz : s.size ≤ 9223372036854775807 := by omega
  clear hs
  go_enter Tryd.func97, Tryd.ntmps97
  go_wp2_with fail
  go_loopw [9, 10, 14] (fun fr i' i wr => ∃ k : Nat, k ≤ s.size ∧ i = .int .i64 k ∧ fr = .int .i64 (cutTo s c k).2 ∧ Aside (Boxed wr w.heap.size 4 (.bool true)) ∧ Aside (∃ v, Boxed wr (w.heap.size + 1) 22 v ∧ wr.ownsRow (w.heap.size + 1) 9 1 v (cutTo s c k).1.length ((cutTo s c k).1.map Value.string)) ∧ Aside (Below w.heap.size w wr)) (fun _ _ i _ => s.size - (intOf i).toNat)
  case atStart => exact ⟨0, Nat.zero_le _, rfl, rfl, (Boxed.new w 4 (.bool true)).alloc _, ⟨_, by have := Boxed.new (w.alloc (.cells #[.bool true] 4)) 22 (.slice none 0 0); rw [World.size_alloc] at this; exact this, own_nil _ _ _ _⟩, ((Below.refl _ _).alloc (Nat.le_refl _) _).alloc (by simp) _⟩
  case round =>
    obtain ⟨k, hk, rfl, rfl, HE, HO, HB⟩ := hrel
    have hle := (cutTo_le s c k).1
    by_cases hlt : k < s.size
    · have hbx : Boxed wr Bb 5 (.int .u8 c) := (HB.out.block Bb hb.lt).trans hb
      have hbc := Lib.hid hbx.cell
      clear hbx
      have hlti : (k : Int) < s.size := by omega
      go_wp2_with fail
      refine (is_calls _ c Bb _ hbc.out).mono ?_
      rintro e w' ⟨rfl, ⟨nd, rfl⟩⟩
      go_wp2_with fail
      · have hq : (((s[k].toNat : Int)) == c) = true := by assumption
        have hst : cutTo s c (k + 1) = ((cutTo s c k).1 ++ [s.extract (cutTo s c k).2 k], k + 1) := by
          rw [cutTo, bt_nat s k hlt, if_pos (by simpa using hq)]
        have HST := Lib.hid hst
        clear hst hq
        obtain ⟨v, hv, hr⟩ := HO.out
        have hlen := (cutTo_le s c k).2
        have hx : (s.extract (cutTo s c k).2 k) = s.extract (cutTo s c k).2 k := rfl
        refine (put_calls _ w.heap.size (w.heap.size + 1) (w.heap.size + 1) v (cutTo s c k).1 _ (boxed_drewN HE.out nd) (boxed_drewN hv nd) (ownsRow_drewN hr nd) (by have := hv.lt; simp; omega) (Nat.le_refl _) (by omega) (by have := HS.out; omega)).mono ?_
        rintro e w' ⟨rfl, v', hv', hr', hb', he'⟩
        have HB' := Lib.hid ((HB.out.drewN' nd).trans (hb'.mono (by omega)))
        have HR' := Lib.hid hr'
        have HV' := Lib.hid hv'
        have HE' := Lib.hid he'
        clear hv hr hv' hr' hb' he'
        go_wp2
        go_roundw
        case rel => exact ⟨k + 1, by omega, by go_num, by rw [HST.out]; go_num, HE'.out, ⟨v', HV'.out, by rw [HST.out]; exact HR'.out⟩, HB'.out⟩
        case measure => simp [intOf]; omega
      · have hq : (((s[k].toNat : Int)) == c) = false := by assumption
        have hst : cutTo s c (k + 1) = cutTo s c k := by
          rw [cutTo, bt_nat s k hlt, if_neg (by simpa using hq)]
        have HST := Lib.hid hst
        clear hst hq
        go_roundw
        case rel => exact ⟨k + 1, by omega, by go_num, by rw [HST.out], boxed_drewN HE.out nd, (by obtain ⟨v, hv, hr⟩ := HO.out; exact ⟨v, boxed_drewN hv nd, by rw [HST.out]; exact ownsRow_drewN hr nd⟩), HB.out.drewN' nd⟩
        case measure => simp [intOf]; omega
    · obtain rfl : k = s.size := by omega
      obtain ⟨v, hv, hr⟩ := HO.out
      have hlen := (cutTo_le s c s.size).2
      clear hlt hk
      go_wp2_with fail
      refine (put_calls _ w.heap.size (w.heap.size + 1) (w.heap.size + 1) v (cutTo s c s.size).1 _ HE.out hv hr (by have := hv.lt; omega) (Nat.le_refl _) (by omega) (by have := HS.out; omega)).mono ?_
      rintro e w' ⟨rfl, v', hv', hr', hb', he'⟩
      have HB' := Lib.hid (HB.out.trans (hb'.mono (by omega)))
      have HR' := Lib.hid hr'
      have hc' := hv'.cell
      clear hv hr hv' hr' hb' he'
      go_wp2
      go_ret
      exact ⟨_, rfl, Kd.R_of_own (by rw [show encs Value.string _ = _ from rfl]; exact own_weaken HR'.out (by omega)) (fun _ _ => trivial), HB'.out⟩
def octet_Split.f (a0 : ByteArray) (a1 : Int) : Option (List ByteArray) :=
  if a0.size ≤ 8796093022206 then some ((cutTo a0 a1 a0.size).1 ++ [a0.extract (cutTo a0 a1 a0.size).2 a0.size]) else none
theorem octet_Split.calls (a0 : ByteArray) (a1 : Int) (r : List ByteArray) (w : World) (h : octet_Split.f a0 a1 = some r) :
    Calls Tryd.prog 79 #[.string a0, .int .u8 a1] w fun e w' => ∃ v0_ : Value, e = .returned (v0_) ∧ Kd.R Kd.string 9 w' w.heap.size (fun _ => True) v0_ r ∧ Below w.heap.size w w' := by
  unfold octet_Split.f at h
  by_cases hs : a0.size ≤ 8796093022206
  case neg => rw [if_neg hs] at h; exact absurd h (by simp)
  rw [if_pos hs] at h
  obtain rfl := Option.some.inj h
  clear h
  have HS := Lib.hid hs
  clear hs
  go_enter Tryd.func79, Tryd.ntmps79
  go_wp2_with fail
  refine (cut_calls a0 a1 w.heap.size _ (Boxed.new w 5 (.int .u8 a1)) HS.out).mono ?_
  rintro e w' ⟨v, rfl, hr, hb⟩
  have HR := Lib.hid hr
  have HB := Lib.hid hb
  clear hr hb
  go_wp2
  go_ret
  exact ⟨_, rfl, Kd.R_lower HR.out (by simp), ((Below.refl _ _).alloc (Nat.le_refl _) _).trans (HB.out.mono (by simp))⟩
end Go.Proofs.YtgmacggbhcodjaaDoor.Q

