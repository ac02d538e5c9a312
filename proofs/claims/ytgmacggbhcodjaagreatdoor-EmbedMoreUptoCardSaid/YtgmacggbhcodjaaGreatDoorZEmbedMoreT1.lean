/- A part of the claim EmbedMore: T1. -/
import Derived.Test.YtgmacggbhcodjaaGreatDoorZEmbedMoreBF
import Derived.Lib.ItoaLen
namespace Go.Proofs.YtgmacggbhcodjaaGreatDoor.Q
set_option linter.unusedVariables false
set_option linter.unusedSimpArgs false
open Go.RowKit Go.Proofs.YtgmacggbhcodjaaGreatDoorW.PrintWords
theorem q_hasPrefix (a b : ByteArray) : ∃ x, Q1.stringslite_HasPrefix.f a b = some x ∧ (x = true → b.size ≤ a.size) := by
  unfold Q1.stringslite_HasPrefix.f
  by_cases h : (a.size : Int) ≥ (b.size : Int)
  · rw [if_pos h, if_pos (by omega), if_pos (by omega)]
    exact ⟨_, rfl, fun _ => by omega⟩
  · rw [if_neg h]
    exact ⟨_, rfl, by simp⟩
theorem q_cutPrefix (a b : ByteArray) : ∃ t f, Q1.strings_CutPrefix.f a b = some (t, f) ∧ t.size ≤ a.size := by
  obtain ⟨x, hx, hs⟩ := q_hasPrefix a b
  unfold Q1.strings_CutPrefix.f Q1.stringslite_CutPrefix.f
  rw [hx]
  cases x
  · exact ⟨_, _, rfl, Nat.le_refl _⟩
  · have := hs rfl
    simp only [Option.bind_some, if_true]
    rw [if_pos (by omega), if_pos (by omega)]
    exact ⟨_, _, rfl, by simp only [ByteArray.size_extract]; omega⟩
theorem n_cutPrefix (a b : ByteArray) : ∃ t f, N1.strings_CutPrefix.f a b = some (t, f) ∧ t.size ≤ a.size := q_cutPrefix a b
theorem l_cutPrefix (a b : ByteArray) : ∃ t f, L2.strings_CutPrefix.f a b = some (t, f) ∧ t.size ≤ a.size := q_cutPrefix a b
theorem n_hasSuffix (a b : ByteArray) (ha : a.size ≤ 4611686018427387904) : ∃ x, N1.strings_HasSuffix.f a b = some x := by
  unfold N1.strings_HasSuffix.f N1.stringslite_HasSuffix.f
  by_cases h : (a.size : Int) ≥ (b.size : Int)
  · have e : wrap64 ((a.size : Int) - (b.size : Int)) = (a.size : Int) - (b.size : Int) := by unfold wrap64; omega
    rw [if_pos h, e, if_pos (by omega), if_pos (by omega)]
    exact ⟨_, rfl⟩
  · rw [if_neg h]
    exact ⟨_, rfl⟩
theorem itoa_some (n : Int) (h0 : -9223372036854775808 ≤ n) (h1 : n ≤ 9223372036854775807) : ∃ t, strconv_Itoa.f n = some t ∧ t.size ≤ 21 := by
  unfold strconv_Itoa.f
  rw [if_pos ⟨h0, h1⟩]
  exact ⟨_, rfl, Lib.itoa_length_le n h0 h1⟩
theorem wrap_in (n : Int) : -9223372036854775808 ≤ wrap64 n ∧ wrap64 n ≤ 9223372036854775807 := by unfold wrap64; omega
theorem join_len (a b c d : ByteArray) (h : a.size ≤ 21 ∧ b.size ≤ 21 ∧ c.size ≤ 21 ∧ d.size ≤ 21) : (Lib.join ([a, b, c, d].map (·.data.toList)) [46]).length ≤ 200 := by
  have e : ∀ x : ByteArray, x.data.toList.length = x.size := fun x => by simp
  simp [Lib.join, e]
  omega
theorem text_some (n : ByteArray) (v : Bool) (a : Int) (hn : n.size ≤ 1000) : ∃ t, host_Text.f n v a = some t ∧ t.size ≤ 1000 := by
  unfold host_Text.f
  cases v
  · exact ⟨n, rfl, hn⟩
  · rw [if_pos rfl]
    obtain ⟨t0, h0, s0⟩ := itoa_some (addrByte a 0) (wrap_in _).1 (wrap_in _).2
    obtain ⟨t1, h1, s1⟩ := itoa_some (addrByte a 1) (wrap_in _).1 (wrap_in _).2
    obtain ⟨t2, h2, s2⟩ := itoa_some (addrByte a 2) (wrap_in _).1 (wrap_in _).2
    obtain ⟨t3, h3, s3⟩ := itoa_some (addrByte a 3) (wrap_in _).1 (wrap_in _).2
    rw [h0, h1, h2, h3]
    simp only [Option.bind_some]
    unfold strings_Join.f
    have hj := join_len t0 t1 t2 t3 ⟨s0, s1, s2, s3⟩
    have e : (⟨#[46]⟩ : ByteArray).data.toList = [46] := rfl
    rw [e, if_pos ⟨by simp, by omega⟩]
    exact ⟨_, rfl, by have := hj; show (Lib.join _ _).length ≤ 1000; omega⟩
theorem named_some (p : ByteArray) (o1 : Bool) (o2 : Int) (o3 o4 : ByteArray) (o5 : Bool) (o6 o7 : Int) (hn : o4.size ≤ 1000) : ∃ r, N1.cspmatch_named.f p o1 o2 o3 o4 o5 o6 o7 = some r := by
  obtain ⟨t, ht, hs⟩ := text_some o4 o5 o6 hn
  obtain ⟨u, f, hu, _⟩ := n_cutPrefix p ⟨#[42]⟩
  obtain ⟨x, hx⟩ := n_hasSuffix t u (by omega)
  unfold N1.cspmatch_named.f
  rw [ht, hu]
  simp only [Option.bind_some, hx]
  repeat' split
  all_goals exact ⟨_, rfl⟩
theorem match_some (k : Int) (s1 s2 : ByteArray) (p : Int) (o1 : Bool) (o2 : Int) (o3 o4 : ByteArray) (o5 : Bool) (o6 o7 : Int) (q1 : Bool) (q2 : Int) (q3 q4 : ByteArray) (q5 : Bool) (q6 q7 : Int) (hn : o4.size ≤ 1000) :
    ∃ r, cspmatch_Match.f k s1 s2 p o1 o2 o3 o4 o5 o6 o7 q1 q2 q3 q4 q5 q6 q7 = some r := by
  obtain ⟨x, hx⟩ := named_some s2 o1 o2 o3 o4 o5 o6 o7 hn
  unfold cspmatch_Match.f
  rw [hx]
  repeat' split
  all_goals exact ⟨_, rfl⟩
theorem cut_some (a : ByteArray) (c : UInt8) (ha : a.size ≤ 4611686018427387904) : ∃ x y b, strings_Cut.f a ⟨#[c]⟩ = some (x, y, b) ∧ x.size ≤ a.size ∧ y.size ≤ a.size := by
  unfold strings_Cut.f
  rw [if_pos ⟨rfl, ha⟩]
  split
  · exact ⟨_, _, _, rfl, by simp only [ByteArray.size_extract]; omega, by simp only [ByteArray.size_extract]; omega⟩
  · exact ⟨_, _, _, rfl, Nat.le_refl _, Nat.zero_le _⟩
theorem split_some (a : ByteArray) (c : Int) (ha : a.size ≤ 8796093022206) : ∃ l, octet_Split.f a c = some l := by
  unfold octet_Split.f
  rw [if_pos ha]
  exact ⟨_, rfl⟩
theorem pat_some (a : ByteArray) : ∃ b, cspmatch_pattern.f a = some b := by
  have hp : ∀ s : ByteArray, ∃ b, patOf s = some b := by
    intro s
    unfold patOf
    split
    · obtain ⟨l, hl⟩ := split_some s 46 (by omega)
      rw [hl]
      exact ⟨_, rfl⟩
    · exact ⟨_, rfl⟩
  unfold cspmatch_pattern.f
  split
  · exact ⟨_, rfl⟩
  · obtain ⟨t, f, ht, _⟩ := l_cutPrefix a ⟨#[42, 46]⟩
    rw [ht]
    simp only [Option.bind_some]
    split <;> exact hp _
theorem scheme_some (s : ByteArray) (hs : s.size ≤ 4611686018427387904) : ∀ (d k : Nat) (i : Int), 0 ≤ i → i ≤ s.size → (s.size : Int) - i ≤ d → d + 1 ≤ k → ∃ r, Q1.cspmatch_scheme.l0 k s i = some r ∧ 0 ≤ r ∧ r ≤ s.size := by
  intro d
  induction d with
  | zero =>
    intro k i h0 h1 hd hk
    obtain ⟨k, rfl⟩ : ∃ m, k = m + 1 := ⟨k - 1, by omega⟩
    rw [Q1.cspmatch_scheme.l0, if_neg (by omega)]
    exact ⟨_, rfl, h0, h1⟩
  | succ d ih =>
    intro k i h0 h1 hd hk
    obtain ⟨k, rfl⟩ : ∃ m, k = m + 1 := ⟨k - 1, by omega⟩
    by_cases hlt : i < (s.size : Int)
    · have w2 : wrap64 (i + 1) = i + 1 := by unfold wrap64; omega
      obtain ⟨r, hr, h3⟩ := ih k (i + 1) (by omega) (by omega) (by omega) (by omega)
      rw [Q1.cspmatch_scheme.l0, if_pos hlt, if_pos h0, w2, hr]
      simp only [strings_IndexByte.f, Option.bind_some]
      repeat' split
      all_goals first | exact ⟨_, rfl, h3⟩ | exact ⟨_, rfl, h0, h1⟩
    · rw [Q1.cspmatch_scheme.l0, if_neg hlt]
      exact ⟨_, rfl, h0, h1⟩
theorem j1_some (k : Nat) (x7 x8 : ByteArray) (x9 : Bool) (x10 : Int) (x64 : Bool) (a : Int) (b c : ByteArray) (d : Int) : ∃ r, Q1.cspmatch_Parse.j1 (k + 1) x7 x8 x9 x10 x64 a b c d = some r := by
  rw [Q1.cspmatch_Parse.j1]
  repeat' split
  all_goals exact ⟨_, rfl⟩
theorem j0_some (k : Nat) (x : ByteArray) (hx : x.size ≤ 8796093022206) (a : Int) (b c : ByteArray) (d : Int) : ∃ r, Q1.cspmatch_Parse.j0 (k + 1 + 1) x a b c d = some r := by
  obtain ⟨x1, x2, x3, h1, s1, _⟩ := cut_some x 47 (by omega)
  obtain ⟨y1, y2, y3, h2, s2, s3⟩ := cut_some x1 58 (by omega)
  obtain ⟨n, f, h3, _⟩ := num_any y2 65535 (by omega) (by omega) (by omega)
  obtain ⟨p, h4⟩ := pat_some y1
  rw [Q1.cspmatch_Parse.j0, h1]
  simp only [Option.bind_some]
  rw [h2]
  simp only [Option.bind_some]
  rw [h3, h4]
  simp only [Option.bind_some]
  repeat' split
  all_goals exact j1_some _ _ _ _ _ _ _ _ _ _
theorem parse_some (s : ByteArray) (hs : s.size ≤ 8796093022206) : ∃ r, cspmatch_Parse.f s = some r := by
  unfold cspmatch_Parse.f
  obtain ⟨k, hk⟩ : ∃ k, s.size + 20 = k + 1 + 1 := ⟨s.size + 18, by omega⟩
  have hl : octet_Lower.f s = some ⟨(s.data.toList.map lowB).toArray⟩ := by unfold octet_Lower.f; rw [if_pos (by omega)]
  have hz : (⟨(s.data.toList.map lowB).toArray⟩ : ByteArray).size = s.size := by show (s.data.toList.map lowB).toArray.size = s.size; simp
  unfold Q1.cspmatch_Parse.f
  rw [hl]
  simp only [Option.bind_some]
  generalize (⟨(s.data.toList.map lowB).toArray⟩ : ByteArray) = u at hz
  split
  · exact ⟨_, rfl⟩
  · split
    · exact ⟨_, rfl⟩
    · obtain ⟨r, hr, r0, r1⟩ := scheme_some u (by omega) u.size (s.size + 20) 0 (by omega) (by omega) (by omega) (by omega)
      unfold Q1.cspmatch_scheme.f
      rw [hr]
      simp only [Option.bind_some]
      rw [hk]
      split
      · try rw [if_pos r0, if_pos r1]
        split
        · exact ⟨_, rfl⟩
        · obtain ⟨t, f, ht, hs2⟩ := q_cutPrefix (u.extract r.toNat u.size) ⟨#[58, 47, 47]⟩
          have hs3 : t.size ≤ u.size := by simp only [ByteArray.size_extract] at hs2; omega
          rw [ht]
          simp only [Option.bind_some]
          split
          · exact j0_some _ _ (by omega) _ _ _ _
          · exact j0_some _ _ (by omega) _ _ _ _
      · exact j0_some _ _ (by omega) _ _ _ _
abbrev Og := S31
abbrev Po := S45
theorem any_l0 (l : List ByteArray) (hl : l.length ≤ 1099511627776) (hs : ∀ s ∈ l, s.size ≤ 8796093022206) (o1 : Bool) (o2 : Int) (o3 o4 : ByteArray) (o5 : Bool) (o6 o7 : Int) (q1 : Bool) (q2 : Int) (q3 q4 : ByteArray) (q5 : Bool) (q6 q7 : Int) (hn : o4.size ≤ 1000) :
    ∀ (d k i : Nat), l.length - i ≤ d → d + 1 ≤ k → ∃ r, Y1.cspmatch_Any.l0 k false l (l.length : Int) (i : Int) o1 o2 o3 o4 o5 o6 o7 q1 q2 q3 q4 q5 q6 q7 = some r := by
  intro d
  induction d with
  | zero =>
    intro k i hd hk
    obtain ⟨k, rfl⟩ : ∃ m, k = m + 1 := ⟨k - 1, by omega⟩
    rw [Y1.cspmatch_Any.l0, if_neg (by omega)]
    exact ⟨_, rfl⟩
  | succ d ih =>
    intro k i hd hk
    obtain ⟨k, rfl⟩ : ∃ m, k = m + 1 := ⟨k - 1, by omega⟩
    rcases Nat.lt_or_ge i l.length with hlt | hge
    · have w2 : wrap64 ((i : Int) + 1) = ((i + 1 : Nat) : Int) := by unfold wrap64; omega
      obtain ⟨r, hr⟩ := ih k (i + 1) (by omega) (by omega)
      have hm : rdOf ByteArray.empty l (i : Int) ∈ l := by
        unfold rdOf
        rw [show ((i : Int).toNat) = i from rfl, List.getD_eq_getElem?_getD, List.getElem?_eq_getElem hlt]
        exact List.getElem_mem _
      obtain ⟨x, hx⟩ := parse_some _ (hs _ hm)
      obtain ⟨b, hb⟩ := match_some x.1 x.2.1 x.2.2.1 x.2.2.2 o1 o2 o3 o4 o5 o6 o7 q1 q2 q3 q4 q5 q6 q7 hn
      rw [Y1.cspmatch_Any.l0, if_pos (by omega), if_pos (by omega), if_pos (by omega), hx]
      simp only [Option.bind_some, hb, w2, hr]
      split <;> exact ⟨_, rfl⟩
    · rw [Y1.cspmatch_Any.l0, if_neg (by omega)]
      exact ⟨_, rfl⟩
theorem any_some (l : List ByteArray) (hl : l.length ≤ 1099511627776) (hs : ∀ s ∈ l, s.size ≤ 8796093022206) (o1 : Bool) (o2 : Int) (o3 o4 : ByteArray) (o5 : Bool) (o6 o7 : Int) (a : Og) (hn : a.f3.f0.size ≤ 1000) : ∃ r, anyO l o1 o2 o3 o4 o5 o6 o7 a = some r := by
  unfold anyO cspmatch_Any.f Y1.cspmatch_Any.f
  exact any_l0 l hl hs _ _ _ _ _ _ _ _ _ _ _ _ _ _ hn l.length (anyK l) 0 (by omega) (by unfold anyK; omega)
def fr (o : Og) (p : Po) (anc : List Og) : Bool := !p.f0 || anc.all fun a => (anyO p.f1 o.f0 o.f1 o.f2 o.f3.f0 o.f3.f1 o.f3.f2 o.f4 a).getD false
theorem frames_fr (o : Og) (p : Po) (anc : List Og) (hl : p.f1.length ≤ 1099511627776) (hs : ∀ s ∈ p.f1, s.size ≤ 8796093022206) (ha : anc.length ≤ 9223372036854775807) (hn : ∀ a ∈ anc, a.f3.f0.size ≤ 1000) :
    cspmatch_Frames.f p.f0 p.f1 p.f2 p.f3 o.f0 o.f1 o.f2 o.f3.f0 o.f3.f1 o.f3.f2 o.f4 anc = some (fr o p anc) := by
  unfold cspmatch_Frames.f fr
  cases hp : p.f0
  · rfl
  · rw [if_pos rfl, if_pos ha, if_pos]
    · simp [List.all_eq_not_any_not]
    · rw [List.all_eq_true]
      intro a hm
      obtain ⟨r, hr⟩ := any_some p.f1 hl hs o.f0 o.f1 o.f2 o.f3.f0 o.f3.f1 o.f3.f2 o.f4 a (hn a hm)
      rw [hr]; rfl
def xo (x : Int) (o : Og) (anc : List Og) : Bool := (!(x == 1) && !(x == 2)) || !(anc.any (xfoBad x o.f0 o.f1 o.f2 o.f3.f0 o.f3.f1 o.f3.f2 o.f4))
theorem xfo_xo (x : Int) (o : Og) (anc : List Og) (ha : anc.length ≤ 9223372036854775807) : embed_Xfo.f x o.f0 o.f1 o.f2 o.f3.f0 o.f3.f1 o.f3.f2 o.f4 anc = some (xo x o anc) := by
  unfold embed_Xfo.f xo
  rw [if_pos ha]
def verd (x : Int) (o : Og) (anc : List Og) (has : Bool) (ps : List Po) : Int := if ps.all (fun p => fr o p anc) = true then (if (has || ps.any (·.f0)) = true then 0 else if xo x o anc = true then 0 else 3) else 2
theorem frameL_verd (x : Int) (o : Og) (anc : List Og) (ha : anc.length ≤ 9223372036854775807) (hn : ∀ a ∈ anc, a.f3.f0.size ≤ 1000) : ∀ (ps : List Po) (has : Bool), (∀ p ∈ ps, p.f1.length ≤ 1099511627776 ∧ ∀ s ∈ p.f1, s.size ≤ 8796093022206) →
    frameL x o.f0 o.f1 o.f2 o.f3.f0 o.f3.f1 o.f3.f2 o.f4 anc has ps = some (verd x o anc has ps)
  | [], has, _ => by
    unfold frameL frameEnd verd
    rw [xfo_xo x o anc ha]
    cases has <;> cases xo x o anc <;> rfl
  | p :: ps, has, h => by
    obtain ⟨h1, h2⟩ := h p List.mem_cons_self
    unfold frameL
    rw [frames_fr o p anc h1 h2 ha hn]
    simp only [Option.bind_some]
    have ih := frameL_verd x o anc ha hn ps (has || p.f0) (fun q hq => h q (List.mem_cons_of_mem _ hq))
    cases hf : fr o p anc
    · rw [if_neg (by simp)]
      have hp : p.f0 = true := by
        unfold fr at hf
        cases hp : p.f0
        · rw [hp] at hf; exact absurd hf (by simp)
        · rfl
      unfold frameEnd verd
      rw [hp]
      simp [hf]
    · rw [if_pos rfl, ih]
      unfold verd
      simp [hf, Bool.or_assoc]
theorem frame_verd (x : Int) (o : Og) (anc : List Og) (ps : List Po) (e1 : Int) (e2 : ByteArray) (e3 : Int) (e4 : ByteArray) (ha : anc.length ≤ 9223372036854775807) (hn : ∀ a ∈ anc, a.f3.f0.size ≤ 1000) (h : ∀ p ∈ ps, p.f1.length ≤ 1099511627776 ∧ ∀ s ∈ p.f1, s.size ≤ 8796093022206) :
    embed_Frame.f ps e1 e2 e3 e4 x o.f0 o.f1 o.f2 o.f3.f0 o.f3.f1 o.f3.f2 o.f4 anc = some (verd x o anc false ps) := frameL_verd x o anc ha hn ps false h
end Go.Proofs.YtgmacggbhcodjaaGreatDoor.Q

