/- A part of the claim EmbedMore: PEmbedMore. -/
import Derived.Test.YtgmacggbhcodjaaGreatDoorZEmbedMoreT1
import Derived.Test.YtgmacggbhcodjaaGreatDoorZEmbedMoreR1
import Derived.Test.YtgmacggbhcodjaaGreatDoorZEmbedMoreX1b
namespace Go.Proofs.YtgmacggbhcodjaaGreatDoor.Pure
set_option linter.unusedVariables false
set_option linter.unusedSimpArgs false
open Go.RowKit Go.Proofs.YtgmacggbhcodjaaGreatDoor.Q Go.Proofs.YtgmacggbhcodjaaGreatDoorW.PrintWords
theorem few_l0 (l : List Og) (hl : l.length ≤ 40) : ∀ (d k i : Nat), l.length - i ≤ d → d + 1 ≤ k → ∃ b, X1.glacislaw18_few.l0 k l (i : Int) = some b ∧ (b = true → ∀ j, i ≤ j → ∀ h : j < l.length, l[j].f3.f0.size ≤ 1000) := by
  intro d
  induction d with
  | zero =>
    intro k i hd hk
    obtain ⟨k, rfl⟩ : ∃ m, k = m + 1 := ⟨k - 1, by omega⟩
    rw [X1.glacislaw18_few.l0, if_neg (by omega)]
    exact ⟨_, rfl, fun _ j h1 h2 => by omega⟩
  | succ d ih =>
    intro k i hd hk
    obtain ⟨k, rfl⟩ : ∃ m, k = m + 1 := ⟨k - 1, by omega⟩
    rcases Nat.lt_or_ge i l.length with hlt | hge
    · have w2 : wrap64 ((i : Int) + 1) = ((i + 1 : Nat) : Int) := by unfold wrap64; omega
      obtain ⟨b, hr, hb⟩ := ih k (i + 1) (by omega) (by omega)
      have e : rd_T31 l (i : Int) = l[i] := by
        unfold rd_T31
        rw [show ((i : Int).toNat) = i from rfl, List.getD_eq_getElem?_getD, List.getElem?_eq_getElem hlt]; rfl
      rw [X1.glacislaw18_few.l0, if_pos (by omega), if_pos (by omega), w2, hr, e]
      split
      · exact ⟨_, rfl, by simp⟩
      · refine ⟨_, rfl, fun h j h1 h2 => ?_⟩
        rcases Nat.eq_or_lt_of_le h1 with rfl | h3
        · omega
        · exact hb h j h3 h2
    · rw [X1.glacislaw18_few.l0, if_neg (by omega)]
      exact ⟨_, rfl, fun _ j h1 h2 => by omega⟩
theorem few_some (o : Og) (l : List Og) (k : Nat) (hk : 50 ≤ k) : ∃ b, X1.glacislaw18_few.f k o.f0 o.f1 o.f2 o.f3.f0 o.f3.f1 o.f3.f2 o.f4 l = some b ∧ (b = true → l.length ≤ 40 ∧ ∀ a ∈ l, a.f3.f0.size ≤ 1000) := by
  obtain ⟨k, rfl⟩ : ∃ m, k = m + 1 := ⟨k - 1, by omega⟩
  unfold X1.glacislaw18_few.f
  by_cases h : (l.length : Int) > 40
  · rw [if_pos h, X1.glacislaw18_few.j0, if_pos rfl]
    exact ⟨false, rfl, by simp⟩
  · rw [if_neg h, X1.glacislaw18_few.j0]
    obtain ⟨b, hb, hn⟩ := few_l0 l (by omega) 40 k 0 (by omega) (by omega)
    have hb' : X1.glacislaw18_few.l0 k l 0 = some b := hb
    rw [hb']
    split
    · exact ⟨false, rfl, by simp⟩
    · refine ⟨b, rfl, fun h1 => ⟨by omega, fun a ha => ?_⟩⟩
      obtain ⟨j, hj, rfl⟩ := List.mem_iff_getElem.1 ha
      exact hn h1 j (Nat.zero_le _) hj
def Mod (ps : List Po) : Prop := ∀ p ∈ ps, p.f1.length ≤ 1048576 ∧ p.f3.length ≤ 1048576 ∧ ∀ s ∈ p.f1, s.size ≤ 1048576
theorem little_l1 (ps : List Po) (e1 : Int) (e2 : ByteArray) (e3 : Int) (e4 : ByteArray) (x3 : Int) (n : Nat) (ys : List ByteArray) (hy : ys.length ≤ 60) (hnext : ∀ k, n ≤ k → ∃ b, X1.glacislaw15_Little.l0 k (wrap64 (x3 + 1)) ps e1 e2 e3 e4 = some b) :
    ∀ (d k i : Nat), ys.length - i ≤ d → n + d + 1 ≤ k → ∃ b, X1.glacislaw15_Little.l1 k x3 ys (i : Int) ps e1 e2 e3 e4 = some b := by
  intro d
  induction d with
  | zero =>
    intro k i hd hk
    obtain ⟨k, rfl⟩ : ∃ m, k = m + 1 := ⟨k - 1, by omega⟩
    rw [X1.glacislaw15_Little.l1, if_neg (by omega)]
    exact hnext k (by omega)
  | succ d ih =>
    intro k i hd hk
    obtain ⟨k, rfl⟩ : ∃ m, k = m + 1 := ⟨k - 1, by omega⟩
    rcases Nat.lt_or_ge i ys.length with hlt | hge
    · have w2 : wrap64 ((i : Int) + 1) = ((i + 1 : Nat) : Int) := by unfold wrap64; omega
      obtain ⟨b, hr⟩ := ih k (i + 1) (by omega) (by omega)
      rw [X1.glacislaw15_Little.l1, if_pos (by omega), if_pos (by omega), w2, hr]
      split <;> exact ⟨_, rfl⟩
    · rw [X1.glacislaw15_Little.l1, if_neg (by omega)]
      exact hnext k (by omega)
theorem rd_pol (l : List Po) (i : Nat) (h : i < l.length) : rd_T45 l (i : Int) = l[i] := by
  unfold rd_T45
  rw [show ((i : Int).toNat) = i from rfl, List.getD_eq_getElem?_getD, List.getElem?_eq_getElem h]; rfl
theorem little_l0 (ps : List Po) (hp : Mod ps) (hl : ps.length ≤ 30) (e1 : Int) (e2 : ByteArray) (e3 : Int) (e4 : ByteArray) :
    ∀ (d k i : Nat), ps.length - i ≤ d → 62 * d + 1 ≤ k → ∃ b, X1.glacislaw15_Little.l0 k (i : Int) ps e1 e2 e3 e4 = some b := by
  intro d
  induction d with
  | zero =>
    intro k i hd hk
    obtain ⟨k, rfl⟩ : ∃ m, k = m + 1 := ⟨k - 1, by omega⟩
    rw [X1.glacislaw15_Little.l0, if_neg (by omega)]
    exact ⟨_, rfl⟩
  | succ d ih =>
    intro k i hd hk
    obtain ⟨k, rfl⟩ : ∃ m, k = m + 1 := ⟨k - 1, by omega⟩
    rcases Nat.lt_or_ge i ps.length with hlt | hge
    · have w2 : wrap64 ((i : Int) + 1) = ((i + 1 : Nat) : Int) := by unfold wrap64; omega
      obtain ⟨m1, m2, _⟩ := hp ps[i] (List.getElem_mem hlt)
      rw [X1.glacislaw15_Little.l0, if_pos (by omega)]
      simp only [Option.bind_some]
      rw [if_pos (by omega), rd_pol ps i hlt]
      rw [if_pos (by simp; omega)]
      rw [if_pos (by simp; omega)]
      split
      · exact ⟨_, rfl⟩
      · rename_i hq
        refine little_l1 ps e1 e2 e3 e4 (i : Int) (62 * d + 1) _ (by omega) (fun k hk => ?_) 60 k 0 (by omega) (by omega)
        rw [w2]
        exact ih k (i + 1) (by omega) hk
    · rw [X1.glacislaw15_Little.l0, if_neg (by omega)]
      exact ⟨_, rfl⟩
theorem little_some (ps : List Po) (hp : Mod ps) (e1 : Int) (e2 : ByteArray) (e3 : Int) (e4 : ByteArray) (k : Nat) (hk : 2000 ≤ k) : ∃ b, X1.glacislaw15_Little.f k ps e1 e2 e3 e4 = some b := by
  unfold X1.glacislaw15_Little.f
  split
  · exact ⟨_, rfl⟩
  · exact little_l0 ps hp (by omega) e1 e2 e3 e4 30 k 0 (by omega) (by omega)
theorem fr_more (o : Og) (p : Po) (anc : List Og) (a : Og) (h : fr o p (anc ++ [a]) = true) : fr o p anc = true := by
  unfold fr at *
  rw [List.all_append] at h
  cases hp : p.f0 <;> simp_all
theorem xo_more (x : Int) (o : Og) (anc : List Og) (a : Og) (h : xo x o (anc ++ [a]) = true) : xo x o anc = true := by
  unfold xo at *
  rw [List.any_append] at h
  cases h1 : (!(x == 1) && !(x == 2)) <;> cases h2 : anc.any (xfoBad x o.f0 o.f1 o.f2 o.f3.f0 o.f3.f1 o.f3.f2 o.f4) <;> simp_all
theorem all_more (o : Og) (ps : List Po) (anc : List Og) (a : Og) (h : (ps.all fun p => fr o p (anc ++ [a])) = true) : (ps.all fun p => fr o p anc) = true := by
  rw [List.all_eq_true] at *
  exact fun p hp => fr_more o p anc a (h p hp)
theorem fr_bare (o : Og) (ps : List Po) (anc : List Og) (h : ps.any (·.f0) = false) : (ps.all fun p => fr o p anc) = true := by
  rw [List.all_eq_true]
  intro p hp
  have := List.any_eq_false.1 h p hp
  unfold fr
  cases hq : p.f0
  · rfl
  · exact absurd hq (by simpa using this)
theorem verd_nil (x : Int) (o : Og) (ps : List Po) : verd x o [] false ps = 0 := by
  unfold verd
  have h1 : (ps.all fun p => fr o p []) = true := by rw [List.all_eq_true]; intro p _; unfold fr; simp
  have h2 : xo x o [] = true := by unfold xo; simp
  rw [if_pos h1, h2]
  simp
theorem more_l0 (x y : Int) (o : Og) (anc : List Og) (a : Og) (ps : List Po) (hp : Mod ps) (hq : ps.length ≤ 1048576) (e1 : Int) (e2 : ByteArray) (e3 : Int) (e4 : ByteArray) (hn : ∀ b ∈ anc ++ [a], b.f3.f0.size ≤ 1000) (ha : (anc ++ [a]).length ≤ 40) :
    ∀ (d k i : Nat), i ≤ ps.length → ps.length - i ≤ d → 2 * d + 3 ≤ k →
    X1.glacislaw18_EmbedMore.l0 k x y true (anc ++ [a]) (verd x o anc false ps) (verd x o (anc ++ [a]) false ps) ((ps.take i).any (·.f0)) (i : Int) ps e1 e2 e3 e4 o.f0 o.f1 o.f2 o.f3.f0 o.f3.f1 o.f3.f2 o.f4 = some true := by
  have fin : ∀ k, X1.glacislaw18_EmbedMore.l0 (k + 1 + 1) x y true (anc ++ [a]) (verd x o anc false ps) (verd x o (anc ++ [a]) false ps) ((ps.take ps.length).any (·.f0)) (ps.length : Int) ps e1 e2 e3 e4 o.f0 o.f1 o.f2 o.f3.f0 o.f3.f1 o.f3.f2 o.f4 = some true := by
    intro k
    have hpp : ∀ p ∈ ps, p.f1.length ≤ 1099511627776 ∧ ∀ s ∈ p.f1, s.size ≤ 8796093022206 := fun p h => ⟨by have := (hp p h).1; omega, fun s hs => by have := (hp p h).2.2 s hs; omega⟩
    have f1 := frame_verd y o (anc ++ [a]) ps e1 e2 e3 e4 (by omega) hn hpp
    have f2 := frame_verd x o [] ps e1 e2 e3 e4 (by simp) (by simp) hpp
    rw [verd_nil] at f2
    rw [X1.glacislaw18_EmbedMore.l0, if_neg (by omega), List.take_length, f1, f2]
    simp only [Option.bind_some]
    have m1 := all_more o ps anc a
    have m2 := xo_more x o anc a
    have m3 := fr_bare o ps anc
    have m4 := fr_bare o ps (anc ++ [a])
    unfold verd
    simp only [Bool.false_or]
    simp only [X1.glacislaw18_EmbedMore.j3, X1.glacislaw18_EmbedMore.j4]
    generalize (ps.all fun p => fr o p anc) = F1 at *
    generalize (ps.all fun p => fr o p (anc ++ [a])) = F2 at *
    generalize xo x o anc = G1 at *
    generalize xo x o (anc ++ [a]) = G2 at *
    generalize xo y o (anc ++ [a]) = G3 at *
    generalize ps.any (·.f0) = hs at *
    cases hs <;> cases F1 <;> cases F2 <;> cases G1 <;> cases G2 <;> cases G3 <;> simp_all
  intro d
  induction d with
  | zero =>
    intro k i h1 hd hk
    obtain ⟨k, rfl⟩ : ∃ m, k = m + 1 + 1 := ⟨k - 2, by omega⟩
    obtain rfl : i = ps.length := by omega
    exact fin k
  | succ d ih =>
    intro k i h1 hd hk
    obtain ⟨k, rfl⟩ : ∃ m, k = m + 1 + 1 := ⟨k - 2, by omega⟩
    rcases Nat.lt_or_ge i ps.length with hlt | hge
    · have w2 : wrap64 ((i : Int) + 1) = ((i + 1 : Nat) : Int) := by unfold wrap64; omega
      have hr := ih k (i + 1) (by omega) (by omega) (by omega)
      have e : (ps.take (i + 1)).any (·.f0) = ((ps.take i).any (·.f0) || ps[i].f0) := by
        rw [List.take_succ_eq_append_getElem hlt, List.any_append]; simp
      rw [e] at hr
      rw [X1.glacislaw18_EmbedMore.l0, if_pos (by omega)]
      cases ht : (ps.take i).any (·.f0)
      · rw [ht] at hr
        rw [if_neg (by simp), if_pos (by omega), rd_pol ps i hlt, X1.glacislaw18_EmbedMore.j2, w2]
        simpa using hr
      · rw [ht] at hr
        rw [if_pos rfl, X1.glacislaw18_EmbedMore.j2, w2]
        simpa using hr
    · obtain rfl : i = ps.length := by omega
      exact fin k
theorem EmbedMore (ps : List Po) (e1 : Int) (e2 : ByteArray) (e3 : Int) (e4 : ByteArray) (x y : Int) (o : Og) (anc : List Og) (a : Og) (hp : Mod ps) (hq : ps.length ≤ 1048576) (hl : anc.length ≤ 1048576) :
    ∃ k, X1.glacislaw18_EmbedMore.f k ps e1 e2 e3 e4 x y o.f0 o.f1 o.f2 o.f3.f0 o.f3.f1 o.f3.f2 o.f4 anc a.f0 a.f1 a.f2 a.f3.f0 a.f3.f1 a.f3.f2 a.f4 = some true := by
  obtain ⟨k, hk⟩ : ∃ k, k = 2 * ps.length + 3000 := ⟨_, rfl⟩
  refine ⟨k, ?_⟩
  obtain ⟨b1, hb1, hn⟩ := few_some o (anc ++ [a]) k (by omega)
  obtain ⟨b2, hb2⟩ := little_some ps hp e1 e2 e3 e4 k (by omega)
  have ea : (⟨a.f0, a.f1, a.f2, ⟨a.f3.f0, a.f3.f1, a.f3.f2⟩, a.f4⟩ : Og) = a := rfl
  unfold X1.glacislaw18_EmbedMore.f
  rw [show glacislaw18_awake.f = some true from rfl]
  simp only [Option.bind_some, List.nil_append]
  rw [if_pos (by simp; omega), if_pos (by simp; omega), ea, hb1, hb2]
  simp only [Option.bind_some]
  have dead : X1.glacislaw18_EmbedMore.j0 k x y anc true (anc ++ [a]) true ps e1 e2 e3 e4 o.f0 o.f1 o.f2 o.f3.f0 o.f3.f1 o.f3.f2 o.f4 = some true := by
    obtain ⟨k, rfl⟩ : ∃ m, k = m + 1 := ⟨k - 1, by omega⟩
    rw [X1.glacislaw18_EmbedMore.j0, if_pos rfl]
  cases b1
  · rw [if_neg (by simp)]
    exact dead
  · rw [if_pos rfl]
    cases b2
    · exact dead
    · obtain ⟨n1, n2⟩ := hn rfl
      obtain ⟨k, rfl⟩ : ∃ m, k = m + 1 := ⟨k - 1, by omega⟩
      have hpp : ∀ p ∈ ps, p.f1.length ≤ 1099511627776 ∧ ∀ s ∈ p.f1, s.size ≤ 8796093022206 := fun p h => ⟨by have := (hp p h).1; omega, fun s hs => by have := (hp p h).2.2 s hs; omega⟩
      rw [X1.glacislaw18_EmbedMore.j0, if_neg (by simp), frame_verd x o anc ps e1 e2 e3 e4 (by omega) (fun b hb => n2 b (List.mem_append_left _ hb)) hpp, frame_verd x o (anc ++ [a]) ps e1 e2 e3 e4 (by omega) n2 hpp]
      simp only [Option.bind_some]
      have := more_l0 x y o anc a ps hp hq e1 e2 e3 e4 n2 n1 ps.length k 0 (by omega) (by omega) (by omega)
      simpa using this
end Go.Proofs.YtgmacggbhcodjaaGreatDoor.Pure

