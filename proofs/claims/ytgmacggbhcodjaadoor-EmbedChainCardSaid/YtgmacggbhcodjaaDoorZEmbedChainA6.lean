/- A part of the claim EmbedChain: A6. -/
import Derived.Test.YtgmacggbhcodjaaDoorZEmbedChainA5
import Derived.Test.YtgmacggbhcodjaaDoorZEmbedChainL2
namespace Go.Proofs.YtgmacggbhcodjaaDoor.Q
set_option linter.unusedVariables false
set_option linter.unusedSimpArgs false
open Go.RowKit Go.Proofs.YtgmacggbhcodjaaDoorW Go.Proofs.YtgmacggbhcodjaaDoorW.PrintWords Go.Proofs.YtgmacggbhcodjaaDoorW.PrintMore
attribute [local go_sem] max2_int max_two
def cleanStep (last : Bool) (out : List ByteArray) (p : ByteArray) : List ByteArray :=
  if p.toList = [46, 46] then (if last = true then out.take (out.length - 1) ++ [⟨#[]⟩] else out.take (out.length - 1))
  else if p.toList = [46] then (if last = true then out ++ [⟨#[]⟩] else out)
  else out ++ [p]
def cleanTo (ls : List ByteArray) : Nat → List ByteArray
  | 0 => []
  | k + 1 => cleanStep (decide (k + 1 = ls.length)) (cleanTo ls k) (ls[k]?.getD ByteArray.empty)
theorem cleanStep_len (b : Bool) (o : List ByteArray) (p : ByteArray) : (cleanStep b o p).length ≤ o.length + 1 := by
  unfold cleanStep
  repeat' split
  all_goals (simp; try omega)
theorem cleanTo_len (ls : List ByteArray) : ∀ k, (cleanTo ls k).length ≤ k
  | 0 => Nat.le_refl _
  | k + 1 => by
    have := cleanTo_len ls k
    have h := cleanStep_len (decide (k + 1 = ls.length)) (cleanTo ls k) (ls[k]?.getD ByteArray.empty)
    unfold cleanTo
    omega
def urlp_clean.f (a0 : ByteArray) : Option ByteArray :=
  (L2.strings_TrimPrefix.f a0 ⟨#[47]⟩).bind fun t => (strings_Split.f t ⟨#[47]⟩).bind fun ls =>
    if ls.length ≤ 4294967296 then (strings_Join.f (cleanTo ls ls.length) ⟨#[47]⟩).bind fun j => some (⟨#[47]⟩ ++ j) else none
theorem app_close {w wr w2 : World} {B g0 : Nat} {o v' : Value} {xs : List ByteArray} {p : ByteArray} {cu : Obj} {T : Obj} (ho : wr.ownsRow B 9 1 o xs.length (xs.map Value.string)) (hne : some g0 ≠ o.ownBlock) (hcu : wr.heap[g0]? = some cu) (hb : Below B w wr) (hB : B ≤ w.heap.size)
    (hown : w2.ownsRow B 9 1 v' (xs.length + 1) (xs.map Value.string ++ [.string p])) (hgrow : (wr.alloc T).grownBy w2 o.ownBlock) (hloc : v'.ownBlock = o.ownBlock ∨ v'.ownBlock = some (wr.alloc T).heap.size) :
    w2.ownsRow B 9 1 v' (xs ++ [p]).length ((xs ++ [p]).map Value.string) ∧ some g0 ≠ v'.ownBlock ∧ w2.heap[g0]? = some cu ∧ Below B w w2 := by
  have hlt : g0 < wr.heap.size := (Array.getElem?_eq_some_iff.1 hcu).1
  have hs := hb.size
  refine ⟨by simpa using hown, ?_, ?_, ?_⟩
  · rcases hloc with h | h
    · rw [h]; exact hne
    · rw [h]; intro e; injection e with e; rw [World.size_alloc] at e; omega
  · refine (hgrow.block g0 (by rw [World.size_alloc]; omega) hne).trans ?_
    exact (Below.heap_alloc _ _ _ hlt).trans hcu
  · refine (hb.alloc (by omega) T).grown hgrow (by rw [World.size_alloc]; omega) (fun j ej => ?_)
    exact own_base ho j ej
theorem cut_close {wr : World} {B g n cap : Nat} {xs : List ByteArray} (h : wr.ownsRow B 9 1 (.slice (some ⟨g, 0, none⟩) n cap) n (xs.map Value.string)) (hn : n = xs.length) :
    wr.ownsRow B 9 1 (.slice (some ⟨g, 0, none⟩) (n - 1) cap) (xs.take (xs.length - 1)).length ((xs.take (xs.length - 1)).map Value.string) := by
  obtain ⟨hl, h | ⟨g', cap', cu, e, hb, hh, hc, hm, hs, ht⟩⟩ := h
  · exact absurd h.1 (by intro e; cases e)
  · injection e with e1 e2 e3
    injection e1 with e1
    injection e1 with e1
    subst e1 e3
    have hlen : (xs.take (xs.length - 1)).length = n - 1 := by simp; omega
    refine ⟨by simp, .inr ⟨g, cap, cu, by rw [hlen], hb, hh, by rw [hlen]; omega, hm, hs, ?_⟩⟩
    rw [hlen, List.map_take, ← ht, List.take_take, hn]
    congr 1
    omega
theorem join_size {l : List ByteArray} {s j : ByteArray} (h : strings_Join.f l s = some j) : j.size ≤ 140737488355328 := by
  unfold strings_Join.f at h
  split at h
  · rename_i hh
    obtain rfl := Option.some.inj h
    show (Lib.join _ _).toArray.size ≤ _
    rw [List.size_toArray]; exact hh.2
  · exact absurd h (by simp)
set_option maxRecDepth 100000 in
set_option maxHeartbeats 2000000 in
theorem clean_calls (a0 t j : ByteArray) (ls : List ByteArray) (w : World) (hG : Gw w) (ht : L2.strings_TrimPrefix.f a0 ⟨#[47]⟩ = some t) (hls : strings_Split.f t ⟨#[47]⟩ = some ls) (hlen : ls.length ≤ 4294967296) (hl0 : 0 < ls.length) (hj : strings_Join.f (cleanTo ls ls.length) ⟨#[47]⟩ = some j) :
    Calls Tryd.prog 57 #[.string a0] w fun e w' => e = .returned (.string (⟨#[47]⟩ ++ j)) ∧ Below w.heap.size w w' := by
  have hlen' : ls.length ≤ 9223372036854775807 := by omega
  have HLEN := Lib.hid hlen
  have HT := Lib.hid (fun W => L2.strings_TrimPrefix.calls a0 ⟨#[47]⟩ t W ht)
  have HS := Lib.hid (fun W hW => strings_Split.calls t ⟨#[47]⟩ ls W hW hls)
  have HJ := Lib.hid hj
  have HG := Lib.hid hG
  clear hlen ht hls hj hG
  go_enter Tryd.func57, Tryd.ntmps57
  go_wp2_with fail
  go_step3
  go_wp2_with (first | (go_at_call 77; refine (HT.out _).mono ?_; rintro e w' ⟨rfl, ⟨nd, rfl⟩⟩) | (go_at_call 76; refine (HS.out _ ?hG).mono ?_; (case hG => exact HG.out.to (by repeat (first | exact Below.refl _ _ | apply Below.drewN' | apply Below.drew))); rintro e w1 ⟨v, rfl, hr, hb⟩; obtain ⟨g0, cap0, cur, rfl, hbg, hh, hcell⟩ := R_open hr hl0; have HB1 := Lib.hid hb; have HBG := Lib.hid hbg; have HH := Lib.hid hh; have HC := Lib.hid hcell; clear hr hb hbg hh hcell))
  go_step3
  go_wp2
  have HBW : Hid (Below w.heap.size w w1) := by
    have h := HB1.out
    exact ((Below.refl w.heap.size w).drewN' _).trans h
  have HG0 : Hid (w.heap.size ≤ g0) := HBG.out
  clear HB1 HBG
  go_loopw [3, 5, 6, 12] (fun o _ _ i wr => ∃ k : Nat, k ≤ ls.length ∧ i = .int .i64 k ∧ Aside (wr.ownsRow w.heap.size 9 1 o (cleanTo ls k).length ((cleanTo ls k).map Value.string)) ∧ Aside (some g0 ≠ o.ownBlock) ∧ Aside (wr.heap[g0]? = some (.cells cur 9 (0, 0))) ∧ Aside (Below w.heap.size w wr)) (fun _ _ _ i _ => ls.length - (intOf i).toNat)
  case atStart => exact ⟨0, Nat.zero_le _, rfl, own_nil _ _ _ _, (by show some g0 ≠ none; simp), HH.out, HBW.out⟩
  case round =>
    obtain ⟨k, hk, rfl, HO, HNE, HCU, HB⟩ := hrel
    by_cases hlt : k < ls.length
    · have hcx : wr.cell? ⟨g0, k, none⟩ = some (.string (ls[k]?.getD ByteArray.empty)) := by
        have := HC.out k hlt
        simp [World.cell?, HCU.out, this]
      have hst : cleanTo ls (k + 1) = cleanStep (decide (k + 1 = ls.length)) (cleanTo ls k) (ls[k]?.getD ByteArray.empty) := rfl
      have hln := cleanTo_len ls k
      obtain ⟨p, hp⟩ : ∃ p, ls[k]?.getD ByteArray.empty = p := ⟨_, rfl⟩
      rw [hp] at hcx hst
      have HST := Lib.hid hst
      have HLN := Lib.hid hln
      clear hp hst hln
      generalize cleanTo ls k = xs at HST HO HLN
      have HB' := HB
      obtain ⟨i0, hi, hz0, hz1, hz2⟩ := info_parts infoStr
      by_cases p2 : p.toList = [46, 46]
      · have p2b : (p.toList == [46, 46]) = true := by simpa using p2
        by_cases pl : k + 1 = ls.length
        · have HY : Hid (cleanTo ls (k + 1) = xs.take (xs.length - 1) ++ [⟨#[]⟩]) := HST.out.trans (by unfold cleanStep; rw [if_pos p2, if_pos (by simpa using pl)])
          have plb : ((k : Int) == (ls.length : Int) - 1) = true := by simpa using (show (k : Int) = (ls.length : Int) - 1 by omega)
          rcases HO.out.2 with ⟨ho, h0⟩ | ⟨g, cap, cu, ho, hgB, hgh, hgc, hgm, hgs, hgt⟩
          · subst ho
            have hx : xs = [] := List.eq_nil_of_length_eq_zero h0
            subst hx
            have HZL : Hid (0 ≤ 4294967296) := Nat.zero_le _
            clear p2 pl HST h0
            go_wp2_with (at_builtin; refine wpList_append_own_at _ rfl _ _ 22 rfl w.heap.size 9 i0 (.string ⟨#[]⟩) 1 16 Tryd.underlying22 hi hz0 hz1 hz2 rfl (by decide) _ _ _ rfl (HO.out.alloc _) ⟨wr.heap.size, 0, none⟩ 1 1 [.string ⟨#[]⟩] rfl rfl (cell_one_new _ _ _) (by simp [Value.oneCell']) (by unfold maxLen; have := HLN.out; have := HLEN.out; have := HZL.out; first | omega | (simp; done) | (simp; omega)) (by have := HLN.out; have := HLEN.out; have := HZL.out; first | omega | (simp; done) | (simp; omega)) (by have := HB.out.size; simp; omega) ?_; intro v' w2 hown' hgrow _ hloc; obtain ⟨q1, q2, q3, q4⟩ := app_close HO.out HNE.out HCU.out HB.out (Nat.le_refl _) hown' hgrow hloc; have Q1 := Lib.hid q1; have Q2 := Lib.hid q2; have Q3 := Lib.hid q3; have Q4 := Lib.hid q4; clear hown' hgrow hloc q1 q2 q3 q4)
            go_roundw
            case rel => exact ⟨k + 1, by omega, by go_num, by rw [HY.out]; exact Q1.out, Q2.out, Q3.out, Q4.out⟩
            case measure => simp [intOf]; omega
          · subst ho
            have HCUT := Lib.hid (cut_close HO.out rfl)
            have HNE2 : Hid (some g0 ≠ (Value.slice (some ⟨g, 0, none⟩) (xs.length - 1) cap).ownBlock) := HNE.out
            have hzl : (xs.take (xs.length - 1)).length ≤ xs.length := by simp
            have hml : xs.length ≤ 4294967296 := by have := HLN.out; have := HLEN.out; omega
            obtain ⟨m, hm⟩ : ∃ m, xs.length = m := ⟨_, rfl⟩
            have HZL : Hid ((xs.take (xs.length - 1)).length ≤ 4294967296) := by show _ ≤ _; omega
            rw [hm] at hgc hml HCUT HNE2 HZL HY ⊢
            clear p2 pl HST hgB hgh hgm hgs hgt hzl hm
            generalize xs.take (m - 1) = zs at HCUT HZL HY
            rcases m with _ | _ | m
            · have HCUT' : Hid (wr.ownsRow w.heap.size 9 1 (.slice (some ⟨g, 0, none⟩) 0 cap) zs.length (zs.map Value.string)) := HCUT.out
              have HNE3 : Hid (some g0 ≠ (Value.slice (some ⟨g, 0, none⟩) 0 cap).ownBlock) := HNE2.out
              clear HCUT HNE2
              go_wp2_with (at_builtin; refine wpList_append_own_at _ rfl _ _ 22 rfl w.heap.size 9 i0 (.string ⟨#[]⟩) 1 16 Tryd.underlying22 hi hz0 hz1 hz2 rfl (by decide) _ _ _ rfl (HCUT'.out.alloc _) ⟨wr.heap.size, 0, none⟩ 1 1 [.string ⟨#[]⟩] rfl rfl (cell_one_new _ _ _) (by simp [Value.oneCell']) (by unfold maxLen; have := HLN.out; have := HLEN.out; have := HZL.out; first | omega | (simp; done) | (simp; omega)) (by have := HLN.out; have := HLEN.out; have := HZL.out; first | omega | (simp; done) | (simp; omega)) (by have := HB.out.size; simp; omega) ?_; intro v' w2 hown' hgrow _ hloc; obtain ⟨q1, q2, q3, q4⟩ := app_close HCUT'.out HNE3.out HCU.out HB.out (Nat.le_refl _) hown' hgrow hloc; have Q1 := Lib.hid q1; have Q2 := Lib.hid q2; have Q3 := Lib.hid q3; have Q4 := Lib.hid q4; clear hown' hgrow hloc q1 q2 q3 q4)
              go_roundw
              case rel => exact ⟨k + 1, by omega, by go_num, by rw [HY.out]; exact Q1.out, Q2.out, Q3.out, Q4.out⟩
              case measure => simp [intOf]; omega
            · have HCUT' : Hid (wr.ownsRow w.heap.size 9 1 (.slice (some ⟨g, 0, none⟩) 0 cap) zs.length (zs.map Value.string)) := HCUT.out
              have HNE3 : Hid (some g0 ≠ (Value.slice (some ⟨g, 0, none⟩) 0 cap).ownBlock) := HNE2.out
              clear HCUT HNE2
              go_wp2_with (at_builtin; refine wpList_append_own_at _ rfl _ _ 22 rfl w.heap.size 9 i0 (.string ⟨#[]⟩) 1 16 Tryd.underlying22 hi hz0 hz1 hz2 rfl (by decide) _ _ _ rfl (HCUT'.out.alloc _) ⟨wr.heap.size, 0, none⟩ 1 1 [.string ⟨#[]⟩] rfl rfl (cell_one_new _ _ _) (by simp [Value.oneCell']) (by unfold maxLen; have := HLN.out; have := HLEN.out; have := HZL.out; first | omega | (simp; done) | (simp; omega)) (by have := HLN.out; have := HLEN.out; have := HZL.out; first | omega | (simp; done) | (simp; omega)) (by have := HB.out.size; simp; omega) ?_; intro v' w2 hown' hgrow _ hloc; obtain ⟨q1, q2, q3, q4⟩ := app_close HCUT'.out HNE3.out HCU.out HB.out (Nat.le_refl _) hown' hgrow hloc; have Q1 := Lib.hid q1; have Q2 := Lib.hid q2; have Q3 := Lib.hid q3; have Q4 := Lib.hid q4; clear hown' hgrow hloc q1 q2 q3 q4)
              go_roundw
              case rel => exact ⟨k + 1, by omega, by go_num, by rw [HY.out]; exact Q1.out, Q2.out, Q3.out, Q4.out⟩
              case measure => simp [intOf]; omega
            · have HCUT' : Hid (wr.ownsRow w.heap.size 9 1 (.slice (some ⟨g, 0, none⟩) (m + 1) cap) zs.length (zs.map Value.string)) := HCUT.out
              have HNE3 : Hid (some g0 ≠ (Value.slice (some ⟨g, 0, none⟩) (m + 1) cap).ownBlock) := HNE2.out
              clear HCUT HNE2
              go_wp2_with (at_builtin; refine wpList_append_own_at _ rfl _ _ 22 rfl w.heap.size 9 i0 (.string ⟨#[]⟩) 1 16 Tryd.underlying22 hi hz0 hz1 hz2 rfl (by decide) _ _ _ rfl (HCUT'.out.alloc _) ⟨wr.heap.size, 0, none⟩ 1 1 [.string ⟨#[]⟩] rfl rfl (cell_one_new _ _ _) (by simp [Value.oneCell']) (by unfold maxLen; have := HLN.out; have := HLEN.out; have := HZL.out; first | omega | (simp; done) | (simp; omega)) (by have := HLN.out; have := HLEN.out; have := HZL.out; first | omega | (simp; done) | (simp; omega)) (by have := HB.out.size; simp; omega) ?_; intro v' w2 hown' hgrow _ hloc; obtain ⟨q1, q2, q3, q4⟩ := app_close HCUT'.out HNE3.out HCU.out HB.out (Nat.le_refl _) hown' hgrow hloc; have Q1 := Lib.hid q1; have Q2 := Lib.hid q2; have Q3 := Lib.hid q3; have Q4 := Lib.hid q4; clear hown' hgrow hloc q1 q2 q3 q4)
              go_roundw
              case rel => exact ⟨k + 1, by omega, by go_num, by rw [HY.out]; exact Q1.out, Q2.out, Q3.out, Q4.out⟩
              case measure => simp [intOf]; omega
        · have HY : Hid (cleanTo ls (k + 1) = xs.take (xs.length - 1)) := HST.out.trans (by unfold cleanStep; rw [if_pos p2, if_neg (by simpa using pl)])
          have plb : ((k : Int) == (ls.length : Int) - 1) = false := by simpa using (show ¬ (k : Int) = (ls.length : Int) - 1 by omega)
          rcases HO.out.2 with ⟨ho, h0⟩ | ⟨g, cap, cu, ho, hgB, hgh, hgc, hgm, hgs, hgt⟩
          · subst ho
            have hx : xs = [] := List.eq_nil_of_length_eq_zero h0
            subst hx
            have HZL : Hid (0 ≤ 4294967296) := Nat.zero_le _
            clear p2 pl HST h0
            go_wp2
            go_roundw
            case rel => exact ⟨k + 1, by omega, by go_num, by rw [HY.out]; exact HO.out, HNE.out, HCU.out, HB.out⟩
            case measure => simp [intOf]; omega
          · subst ho
            have HCUT := Lib.hid (cut_close HO.out rfl)
            have HNE2 : Hid (some g0 ≠ (Value.slice (some ⟨g, 0, none⟩) (xs.length - 1) cap).ownBlock) := HNE.out
            have hzl : (xs.take (xs.length - 1)).length ≤ xs.length := by simp
            have hml : xs.length ≤ 4294967296 := by have := HLN.out; have := HLEN.out; omega
            obtain ⟨m, hm⟩ : ∃ m, xs.length = m := ⟨_, rfl⟩
            have HZL : Hid ((xs.take (xs.length - 1)).length ≤ 4294967296) := by show _ ≤ _; omega
            rw [hm] at hgc hml HCUT HNE2 HZL HY ⊢
            clear p2 pl HST hgB hgh hgm hgs hgt hzl hm
            generalize xs.take (m - 1) = zs at HCUT HZL HY
            rcases m with _ | _ | m
            · have HCUT' : Hid (wr.ownsRow w.heap.size 9 1 (.slice (some ⟨g, 0, none⟩) 0 cap) zs.length (zs.map Value.string)) := HCUT.out
              have HNE3 : Hid (some g0 ≠ (Value.slice (some ⟨g, 0, none⟩) 0 cap).ownBlock) := HNE2.out
              clear HCUT HNE2
              go_wp2
              go_roundw
              case rel => exact ⟨k + 1, by omega, by go_num, by rw [HY.out]; exact HCUT'.out, HNE3.out, HCU.out, HB.out⟩
              case measure => simp [intOf]; omega
            · have HCUT' : Hid (wr.ownsRow w.heap.size 9 1 (.slice (some ⟨g, 0, none⟩) 0 cap) zs.length (zs.map Value.string)) := HCUT.out
              have HNE3 : Hid (some g0 ≠ (Value.slice (some ⟨g, 0, none⟩) 0 cap).ownBlock) := HNE2.out
              clear HCUT HNE2
              go_wp2
              go_roundw
              case rel => exact ⟨k + 1, by omega, by go_num, by rw [HY.out]; exact HCUT'.out, HNE3.out, HCU.out, HB.out⟩
              case measure => simp [intOf]; omega
            · have HCUT' : Hid (wr.ownsRow w.heap.size 9 1 (.slice (some ⟨g, 0, none⟩) (m + 1) cap) zs.length (zs.map Value.string)) := HCUT.out
              have HNE3 : Hid (some g0 ≠ (Value.slice (some ⟨g, 0, none⟩) (m + 1) cap).ownBlock) := HNE2.out
              clear HCUT HNE2
              go_wp2
              go_roundw
              case rel => exact ⟨k + 1, by omega, by go_num, by rw [HY.out]; exact HCUT'.out, HNE3.out, HCU.out, HB.out⟩
              case measure => simp [intOf]; omega
      have HZL : Hid (xs.length ≤ 4294967296) := by have := HLN.out; have := HLEN.out; show _ ≤ _; omega
      have p2b : (p.toList == [46, 46]) = false := by simpa using p2
      by_cases p1 : p.toList = [46]
      · have p1b : (p.toList == [46]) = true := by simpa using p1
        have p2c : p.toList ≠ [46, 46] := p2
        by_cases pl : k + 1 = ls.length
        · have HY : Hid (cleanTo ls (k + 1) = xs ++ [⟨#[]⟩]) := HST.out.trans (by unfold cleanStep; rw [if_neg p2, if_pos p1, if_pos (by simpa using pl)])
          have plb : ((k : Int) == (ls.length : Int) - 1) = true := by simpa using (show (k : Int) = (ls.length : Int) - 1 by omega)
          clear p1 p2 p2c pl HST
          go_wp2_with (at_builtin; refine wpList_append_own_at _ rfl _ _ 22 rfl w.heap.size 9 i0 (.string ⟨#[]⟩) 1 16 Tryd.underlying22 hi hz0 hz1 hz2 rfl (by decide) _ _ _ rfl (HO.out.alloc _) ⟨wr.heap.size, 0, none⟩ 1 1 [.string ⟨#[]⟩] rfl rfl (cell_one_new _ _ _) (by simp [Value.oneCell']) (by unfold maxLen; have := HLN.out; have := HLEN.out; have := HZL.out; first | omega | (simp; done) | (simp; omega)) (by have := HLN.out; have := HLEN.out; have := HZL.out; first | omega | (simp; done) | (simp; omega)) (by have := HB.out.size; simp; omega) ?_; intro v' w2 hown' hgrow _ hloc; obtain ⟨q1, q2, q3, q4⟩ := app_close HO.out HNE.out HCU.out HB.out (Nat.le_refl _) hown' hgrow hloc; have Q1 := Lib.hid q1; have Q2 := Lib.hid q2; have Q3 := Lib.hid q3; have Q4 := Lib.hid q4; clear hown' hgrow hloc q1 q2 q3 q4)
          go_roundw
          case rel => exact ⟨k + 1, by omega, by go_num, by rw [HY.out]; exact Q1.out, Q2.out, Q3.out, Q4.out⟩
          case measure => simp [intOf]; omega
        · have HY : Hid (cleanTo ls (k + 1) = xs) := HST.out.trans (by unfold cleanStep; rw [if_neg p2, if_pos p1, if_neg (by simpa using pl)])
          have plb : ((k : Int) == (ls.length : Int) - 1) = false := by simpa using (show ¬ (k : Int) = (ls.length : Int) - 1 by omega)
          clear p1 p2 p2c pl HST
          go_wp2
          go_roundw
          case rel => exact ⟨k + 1, by omega, by go_num, by rw [HY.out]; exact HO.out, HNE.out, HCU.out, HB.out⟩
          case measure => simp [intOf]; omega
      have HY : Hid (cleanTo ls (k + 1) = xs ++ [p]) := HST.out.trans (by unfold cleanStep; rw [if_neg p2, if_neg p1])
      have p1b : (p.toList == [46]) = false := by simpa using p1
      clear p1 p2 HST
      go_wp2_with (at_builtin; refine wpList_append_own_at _ rfl _ _ 22 rfl w.heap.size 9 i0 (.string ⟨#[]⟩) 1 16 Tryd.underlying22 hi hz0 hz1 hz2 rfl (by decide) _ _ _ rfl (HO.out.alloc _) ⟨wr.heap.size, 0, none⟩ 1 1 [.string p] rfl rfl (cell_one_new _ _ _) (by simp [Value.oneCell']) (by unfold maxLen; have := HLN.out; have := HLEN.out; have := HZL.out; first | omega | (simp; done) | (simp; omega)) (by have := HLN.out; have := HLEN.out; have := HZL.out; first | omega | (simp; done) | (simp; omega)) (by have := HB.out.size; simp; omega) ?_; intro v' w2 hown' hgrow _ hloc; obtain ⟨q1, q2, q3, q4⟩ := app_close HO.out HNE.out HCU.out HB.out (Nat.le_refl _) hown' hgrow hloc; have Q1 := Lib.hid q1; have Q2 := Lib.hid q2; have Q3 := Lib.hid q3; have Q4 := Lib.hid q4; clear hown' hgrow hloc q1 q2 q3 q4)
      go_roundw
      case rel => exact ⟨k + 1, by omega, by go_num, by rw [HY.out]; exact Q1.out, Q2.out, Q3.out, Q4.out⟩
      case measure => simp [intOf]; omega
    · obtain rfl : k = ls.length := by omega
      clear hlt hk
      have hjs : j.size ≤ 140737488355328 := join_size HJ.out
      obtain ⟨A, c, ho, hcap, hrd⟩ := Kd.R_reads (Kd.R_of_own (enc := Value.string) (h1 := fun _ => rfl) (ok := fun _ => True) HO.out (fun _ _ => trivial))
      subst ho
      have HRD := Lib.hid hrd
      have HCAP := Lib.hid hcap
      clear hrd hcap
      go_wp2_with (go_at_call 78; refine (strings_Join.calls _ _ _ _ _ _ HRD.out HCAP.out HJ.out).mono ?_; rintro e w2 ⟨rfl, hb⟩; have HB2 := Lib.hid hb; clear hb)
      rw [Exit.noGoto_ret]
      go_ret
      exact ⟨rfl, HB.out.trans (HB2.out.mono HB.out.size)⟩
theorem splitB_pos (sep : ByteArray) (sv k : Nat) (s : ByteArray) : 0 < (Lib.splitB sep sv k s).length := by
  cases k with
  | zero => simp [Lib.splitB]
  | succ k => unfold Lib.splitB; split <;> simp
theorem urlp_clean.calls (a0 r : ByteArray) (w : World) (hG : Gw w) (h : urlp_clean.f a0 = some r) :
    Calls Tryd.prog 57 #[.string a0] w fun e w' => e = .returned (.string r) ∧ Below w.heap.size w w' := by
  obtain ⟨t, ht, h⟩ := Option.bind_eq_some_iff.1 h
  obtain ⟨ls, hls, h⟩ := Option.bind_eq_some_iff.1 h
  by_cases hl : ls.length ≤ 4294967296
  case neg => rw [if_neg hl] at h; exact absurd h (by simp)
  rw [if_pos hl] at h
  obtain ⟨j, hj, h⟩ := Option.bind_eq_some_iff.1 h
  obtain rfl := Option.some.inj h
  refine clean_calls a0 t j ls w hG ht hls hl ?_ hj
  unfold strings_Split.f at hls
  split at hls
  · obtain rfl := Option.some.inj hls; exact splitB_pos _ _ _ _
  · exact absurd hls (by simp)
end Go.Proofs.YtgmacggbhcodjaaDoor.Q

