/- A part of the claim EmbedOwn: PEmbedOwn. -/
import Derived.Test.YtgmacggbhcodjaaDoorZEmbedOwnF
import Derived.Test.YtgmacggbhcodjaaDoorZEmbedOwnR1
namespace Go.Proofs.YtgmacggbhcodjaaDoor.Pure
open Go.RowKit Go.Proofs.YtgmacggbhcodjaaDoor.Q Go.Proofs.YtgmacggbhcodjaaDoorW.PrintWords
abbrev Og := S35
theorem same_refl (o : Og) : sameB o.f0 o.f1 o.f2 o.f3.f0 o.f3.f1 o.f3.f2 o.f4 o = true := by
  obtain ⟨a, b, c, ⟨d, e, f⟩, g⟩ := o
  unfold sameB origin_Same.f L3.origin_Same.f L3.origin_bare.f
  cases a <;> simp
theorem few_l0 (l : List Og) (hl : l.length ≤ 40) : ∀ (d k : Nat) (i : Int), 0 ≤ i → (l.length : Int) - i ≤ d → d + 1 ≤ k → ∃ b, F.glacislaw18_few.l0 k l i = some b := by
  intro d
  induction d with
  | zero =>
    intro k i h1 hd hk
    obtain ⟨k, rfl⟩ : ∃ m, k = m + 1 := ⟨k - 1, by omega⟩
    rw [F.glacislaw18_few.l0, if_neg (by omega)]
    exact ⟨_, rfl⟩
  | succ d ih =>
    intro k i h1 hd hk
    obtain ⟨k, rfl⟩ : ∃ m, k = m + 1 := ⟨k - 1, by omega⟩
    by_cases hlt : i < (l.length : Int)
    · have w2 : wrap64 (i + 1) = i + 1 := by unfold wrap64; omega
      obtain ⟨b, hr⟩ := ih k (i + 1) (by omega) (by omega) (by omega)
      rw [F.glacislaw18_few.l0, if_pos hlt, if_pos h1, w2, hr]
      split <;> exact ⟨_, rfl⟩
    · rw [F.glacislaw18_few.l0, if_neg hlt]
      exact ⟨_, rfl⟩
theorem few_some (o : Og) (l : List Og) (k : Nat) (hk : 50 ≤ k) : ∃ b, F.glacislaw18_few.f k o.f0 o.f1 o.f2 o.f3.f0 o.f3.f1 o.f3.f2 o.f4 l = some b ∧ (b = true → l.length ≤ 40) := by
  obtain ⟨k, rfl⟩ : ∃ m, k = m + 1 := ⟨k - 1, by omega⟩
  unfold F.glacislaw18_few.f
  by_cases h : (l.length : Int) > 40
  · rw [if_pos h, F.glacislaw18_few.j0, if_pos rfl]
    exact ⟨false, rfl, by simp⟩
  · rw [if_neg h, F.glacislaw18_few.j0]
    obtain ⟨b, hb⟩ := few_l0 l (by omega) 40 k 0 (by omega) (by omega) (by omega)
    rw [hb]
    split
    · exact ⟨false, rfl, by simp⟩
    · exact ⟨b, rfl, fun _ => by omega⟩
def allSame (o : Og) (l : List Og) : Bool := l.all fun a => sameB o.f0 o.f1 o.f2 o.f3.f0 o.f3.f1 o.f3.f2 o.f4 a
theorem xfo_two (o : Og) (l : List Og) (hl : l.length ≤ 9223372036854775807) : embed_Xfo.f 2 o.f0 o.f1 o.f2 o.f3.f0 o.f3.f1 o.f3.f2 o.f4 l = some (allSame o l) := by
  unfold embed_Xfo.f allSame
  rw [if_pos hl]
  have : (xfoBad 2 o.f0 o.f1 o.f2 o.f3.f0 o.f3.f1 o.f3.f2 o.f4) = fun a => !sameB o.f0 o.f1 o.f2 o.f3.f0 o.f3.f1 o.f3.f2 o.f4 a := by funext a; simp [xfoBad]
  rw [this]
  simp [List.all_eq_not_any_not]
theorem xfo_one (o : Og) (l : List Og) (hl : l.length ≤ 9223372036854775807) : embed_Xfo.f 1 o.f0 o.f1 o.f2 o.f3.f0 o.f3.f1 o.f3.f2 o.f4 l = some ((l.length : Int) == 0) := by
  unfold embed_Xfo.f
  rw [if_pos hl]
  have : (xfoBad 1 o.f0 o.f1 o.f2 o.f3.f0 o.f3.f1 o.f3.f2 o.f4) = fun a => true := by funext a; simp [xfoBad]
  rw [this]
  cases l with
  | nil => rfl
  | cons x l => simp; omega
theorem xfo_zero (o : Og) (l : List Og) (hl : l.length ≤ 9223372036854775807) : embed_Xfo.f 0 o.f0 o.f1 o.f2 o.f3.f0 o.f3.f1 o.f3.f2 o.f4 l = some true := by
  unfold embed_Xfo.f
  rw [if_pos hl]
  rfl
theorem xfo_three (o : Og) (l : List Og) (hl : l.length ≤ 9223372036854775807) : embed_Xfo.f 3 o.f0 o.f1 o.f2 o.f3.f0 o.f3.f1 o.f3.f2 o.f4 l = some true := by
  unfold embed_Xfo.f
  rw [if_pos hl]
  rfl
theorem allSame_rep (o : Og) (n : Nat) : allSame o (List.replicate n o) = true := by
  unfold allSame
  rw [List.all_eq_true]
  intro x hx
  obtain rfl := List.eq_of_mem_replicate hx
  exact same_refl x
theorem own_j3 (o : Og) (l : List Og) (hl : l.length ≤ 40) (k : Nat) : F.glacislaw18_EmbedOwn.j3 (k + 1) l true (allSame o l) true o.f0 o.f1 o.f2 o.f3.f0 o.f3.f1 o.f3.f2 o.f4 = some true := by
  rw [F.glacislaw18_EmbedOwn.j3, xfo_two o l (by omega), xfo_one o l (by omega), xfo_zero o l (by omega), xfo_three o l (by omega)]
  simp
theorem rd_at (l : List Og) (i : Nat) (h : i < l.length) : rd_T35 l (i : Int) = l[i] := by
  unfold rd_T35
  rw [show ((i : Int).toNat) = i from rfl, List.getD_eq_getElem?_getD, List.getElem?_eq_getElem h]
  rfl
theorem allSame_take (o : Og) (l : List Og) (i : Nat) (h : i < l.length) : allSame o (l.take (i + 1)) = (allSame o (l.take i) && sameB o.f0 o.f1 o.f2 o.f3.f0 o.f3.f1 o.f3.f2 o.f4 l[i]) := by
  unfold allSame
  rw [List.take_succ_eq_append_getElem h, List.all_append]
  simp
theorem own_l1 (o : Og) (l : List Og) (hl : l.length ≤ 40) (n : Nat) (hn : n ≤ 100) : ∀ (d k i : Nat), i ≤ l.length → l.length - i ≤ d → d + 2 ≤ k →
    F.glacislaw18_EmbedOwn.l1 k l true (List.replicate (n + 1) o) (allSame o (l.take i)) i o.f0 o.f1 o.f2 o.f3.f0 o.f3.f1 o.f3.f2 o.f4 = some true := by
  intro d
  induction d with
  | zero =>
    intro k i h1 hd hk
    obtain ⟨k, rfl⟩ : ∃ m, k = m + 1 + 1 := ⟨k - 2, by omega⟩
    obtain rfl : i = l.length := by omega
    rw [F.glacislaw18_EmbedOwn.l1, if_neg (by omega), xfo_two o _ (by simp; omega), xfo_one o _ (by simp; omega), List.take_length, allSame_rep]
    simp only [Option.bind_some, if_true]
    have e : (((List.replicate (n + 1) o).length : Int) == 0) = false := by simp; omega
    rw [e]
    exact own_j3 o l hl k
  | succ d ih =>
    intro k i h1 hd hk
    rcases Nat.lt_or_ge i l.length with hlt | hge
    · obtain ⟨k, rfl⟩ : ∃ m, k = m + 1 := ⟨k - 1, by omega⟩
      have hr := ih k (i + 1) (by omega) (by omega) (by omega)
      have w2 : wrap64 ((i : Int) + 1) = ((i + 1 : Nat) : Int) := by unfold wrap64; omega
      rw [allSame_take o l i hlt] at hr
      rw [F.glacislaw18_EmbedOwn.l1, if_pos (by omega), if_pos (by omega), w2, rd_at l i hlt, same_some]
      simp only [Option.bind_some]
      cases ha : allSame o (l.take i) with
      | true => rw [ha] at hr; rw [if_pos rfl]; simpa using hr
      | false => rw [ha] at hr; rw [if_neg (by simp)]; simpa using hr
    · exact by
        obtain rfl : i = l.length := by omega
        obtain ⟨k, rfl⟩ : ∃ m, k = m + 1 + 1 := ⟨k - 2, by omega⟩
        rw [F.glacislaw18_EmbedOwn.l1, if_neg (by omega), xfo_two o _ (by simp; omega), xfo_one o _ (by simp; omega), List.take_length, allSame_rep]
        simp only [Option.bind_some, if_true]
        have e : (((List.replicate (n + 1) o).length : Int) == 0) = false := by simp; omega
        rw [e]
        exact own_j3 o l hl k
theorem own_l0 (o : Og) (l : List Og) (hl : l.length ≤ 40) (x : Int) (m : Nat) (hm : Int.tmod x 20 = m) (hm2 : m < 20) : ∀ (d k i : Nat), i ≤ m + 1 → m + 1 - i ≤ d → d + 50 ≤ k →
    F.glacislaw18_EmbedOwn.l0 k l x true (List.replicate i o) i o.f0 o.f1 o.f2 o.f3.f0 o.f3.f1 o.f3.f2 o.f4 = some true := by
  intro d
  induction d with
  | zero =>
    intro k i h1 hd hk
    obtain ⟨k, rfl⟩ : ∃ m, k = m + 1 := ⟨k - 1, by omega⟩
    obtain rfl : i = m + 1 := by omega
    rw [F.glacislaw18_EmbedOwn.l0, hm, if_neg (by omega)]
    have := own_l1 o l hl m (by omega) 40 k 0 (by omega) (by omega) (by omega)
    simpa [allSame] using this
  | succ d ih =>
    intro k i h1 hd hk
    obtain ⟨k, rfl⟩ : ∃ m, k = m + 1 := ⟨k - 1, by omega⟩
    rcases Nat.lt_or_ge i (m + 1) with hlt | hge
    · have hr := ih k (i + 1) (by omega) (by omega) (by omega)
      have w2 : wrap64 ((i : Int) + 1) = ((i + 1 : Nat) : Int) := by unfold wrap64; omega
      rw [F.glacislaw18_EmbedOwn.l0, hm, if_pos (by omega), if_pos (by simp; omega), w2]
      have e : List.replicate i o ++ [o] = List.replicate (i + 1) o := by rw [List.replicate_succ']
      obtain ⟨a, b, c, ⟨d, e', f⟩, g⟩ := o
      rw [e]
      exact hr
    · obtain rfl : i = m + 1 := by omega
      rw [F.glacislaw18_EmbedOwn.l0, hm, if_neg (by omega)]
      have := own_l1 o l hl m (by omega) 40 k 0 (by omega) (by omega) (by omega)
      simpa [allSame] using this
theorem EmbedOwn (o : Og) (l : List Og) (x : Int) (ho : OrgOk o) (hl : l.length ≤ maxLen ∧ ∀ y ∈ l, OrgOk y) (hx : (Lit.int .i64 x).wf = true) :
    ∃ k, F.glacislaw18_EmbedOwn.f k o.f0 o.f1 o.f2 o.f3.f0 o.f3.f1 o.f3.f2 o.f4 l x = some true := by
  refine ⟨200, ?_⟩
  have hb : -9223372036854775808 ≤ x ∧ x ≤ 9223372036854775807 := by
    have e : (Lit.int .i64 x).wf = (decide (IntKind.min .i64 ≤ x) && decide (x ≤ IntKind.max .i64)) := rfl
    rw [e, Bool.and_eq_true, decide_eq_true_eq, decide_eq_true_eq] at hx
    have e1 : IntKind.min .i64 = -9223372036854775808 := by kernel_rfl
    have e2 : IntKind.max .i64 = 9223372036854775807 := by kernel_rfl
    rw [e1, e2] at hx
    exact hx
  unfold F.glacislaw18_EmbedOwn.f
  obtain ⟨b, hb1, hb2⟩ := few_some o l 200 (by omega)
  rw [show glacislaw18_awake.f = some true from rfl, hb1]
  simp only [Option.bind_some]
  cases b with
  | false => rw [if_neg (by simp)]
  | true =>
    have hle := hb2 rfl
    rw [if_pos rfl]
    have main : ∀ z : Int, 0 ≤ z → F.glacislaw18_EmbedOwn.j0 200 l z true o.f0 o.f1 o.f2 o.f3.f0 o.f3.f1 o.f3.f2 o.f4 = some true := by
      intro z hz
      rw [F.glacislaw18_EmbedOwn.j0]
      have h1 : Int.tmod z 20 = ((z.toNat % 20 : Nat) : Int) := by rw [Int.tmod_eq_emod_of_nonneg hz]; omega
      exact own_l0 o l hle z (z.toNat % 20) h1 (Nat.mod_lt _ (by omega)) 20 199 0 (by omega) (by omega) (by omega)
    by_cases hn : x < 0
    · rw [if_pos hn]
      refine main _ ?_
      unfold wrap64
      omega
    · rw [if_neg hn]
      exact main _ (by omega)
end Go.Proofs.YtgmacggbhcodjaaDoor.Pure

