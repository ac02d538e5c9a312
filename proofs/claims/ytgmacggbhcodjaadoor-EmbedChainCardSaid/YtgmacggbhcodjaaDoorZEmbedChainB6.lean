/- A part of the claim EmbedChain: B6. -/
import Derived.Test.YtgmacggbhcodjaaDoorZEmbedChainB5
import Derived.Laws.EntriesVeiled
namespace Go.Proofs.YtgmacggbhcodjaaDoor.Q
set_option linter.unusedVariables false
set_option linter.unusedSimpArgs false
open Go.RowKit Go.Proofs.YtgmacggbhcodjaaDoorW.PrintWords
set_option maxRecDepth 100000 in
theorem pat_bad (s : ByteArray) (b : Nat) (w : World) (hs : s.size ≤ 4611686018427387904) (hb : w.heap[b]? = some (.cells #[.func (.func 82) #[] #[]] 74 (0, 0))) :
    Calls Tryd.prog 83 (#[.string s] ++ #[.pointer (some ⟨b, 0, none⟩)]) w fun e w' => e = .returned (.bool (!patLabel s)) ∧ Below w.heap.size w w' := by
  have c0 : w.cell? ⟨b, 0, none⟩ = some (.func (.func 82) #[] #[]) := (blk_cell hb 0).trans rfl
  clear hb
  go_enter Tryd.func83, Tryd.ntmps83
  go_wp2_with (go_at_call 82; refine (pat_label s _ hs).mono ?_; rintro e w' ⟨rfl, hb⟩; have HB := Lib.hid hb; clear hb)
  go_ret
  exact ⟨rfl, HB.out⟩
theorem pat_pred (u : ByteArray) (ls : List ByteArray) (wc w3 : World) (hls : octet_Split.f u 46 = some ls) (hb : Below (wc.alloc (.cells #[.func (.func 82) #[] #[]] 74)).heap.size (wc.alloc (.cells #[.func (.func 82) #[] #[]] 74)) w3) :
    PredT 83 #[.pointer (some ⟨wc.heap.size, 0, none⟩)] (fun l => !patLabel l) ls w3 := by
  intro x hx W hW
  have h1 := split_size u 46 ls hls x hx
  have h2 := (split_ne u 46 ls hls).2.2
  refine (pat_bad x wc.heap.size W (by omega) (blk_below (blk_below (blk_new wc (.cells #[.func (.func 82) #[] #[]] 74 (0, 0))) hb) hW)).mono ?_
  rintro e w' ⟨rfl, hb'⟩
  exact ⟨rfl, below_step hW hb'⟩
def patOf (s : ByteArray) : Option Bool := if s.size < 254 then (octet_Split.f s 46).bind fun ls => some (!(ls.any fun l => !patLabel l)) else some false
def cspmatch_pattern.f (a0 : ByteArray) : Option Bool :=
  if a0.toList = [42] then some true else (L2.strings_CutPrefix.f a0 ⟨#[42, 46]⟩).bind fun t => if t.2 = true then patOf t.1 else patOf a0
set_option maxRecDepth 100000 in
set_option maxHeartbeats 4000000 in
theorem cspmatch_pattern.calls (a0 : ByteArray) (r : Bool) (w : World) (h : cspmatch_pattern.f a0 = some r) :
    Calls Tryd.prog 62 #[.string a0] w fun e w' => e = .returned (.bool r) ∧ Below w.heap.size w w' := by
  unfold cspmatch_pattern.f at h
  by_cases e : a0.toList = [42]
  · rw [if_pos e] at h
    obtain rfl := Option.some.inj h
    have eb : (a0.toList == [42]) = true := by simpa using e
    clear h e
    go_enter Tryd.func62, Tryd.ntmps62
    go_wp2_with fail
    go_ret
    exact ⟨rfl, Below.refl _ _⟩
  · rw [if_neg e] at h
    have eb : (a0.toList == [42]) = false := by simpa using e
    obtain ⟨⟨t1, t2⟩, ht, h2⟩ := Option.bind_eq_some_iff.1 h
    have HT := Lib.hid ht
    have hu : ∃ u, (if t2 = true then t1 else a0) = u ∧ patOf u = some r := ⟨_, rfl, by cases t2 <;> exact h2⟩
    obtain ⟨u, hu1, hu2⟩ := hu
    have HU1 := Lib.hid hu1
    have HU2 := Lib.hid hu2
    clear h e ht h2 hu1 hu2
    go_enter Tryd.func62, Tryd.ntmps62
    go_upto_if 14 with (go_at_call 54; refine (L2.strings_CutPrefix.calls _ _ _ _ _ HT.out).mono ?_; rintro e w2 ⟨rfl, hb⟩; have HD := Lib.hid hb; clear hb)
    go_cut [0] (fun v wx => v = .string u ∧ wx = w2)
    case first =>
      have hu := HU1.out
      cases t2
      · rw [if_neg (by simp)] at hu
        subst hu
        go_wp2_with fail
        go_meet
        exact ⟨rfl, rfl⟩
      · rw [if_pos rfl] at hu
        subst hu
        go_wp2_with fail
        go_meet
        exact ⟨rfl, rfl⟩
    obtain ⟨rfl, rfl⟩ := hcut
    have HB0 := Lib.hid (show Below w.heap.size w (wc.alloc (.cells #[.func (.func 82) #[] #[]] 74)) from by
      obtain ⟨⟨n, hn⟩⟩ := HD.out
      subst hn
      exact (pw_below_drewN (Below.refl _ _) n).alloc (Nat.le_refl _) _)
    clear HT HU1 HD
    unfold patOf at HU2
    by_cases z : u.size < 254
    · have zi : (u.size : Int) < 254 := by omega
      have h3 := HU2.out
      rw [if_pos z] at h3
      obtain ⟨ls, hls, h4⟩ := Option.bind_eq_some_iff.1 h3
      obtain rfl := Option.some.inj h4
      have HLS := Lib.hid hls
      have hn := split_ne u 46 ls hls
      have hlen : ls.length ≤ 9223372036854775807 := by omega
      clear h3 h4 hls hn HU2
      go_wp2_with (first
        | (go_at_call 79; refine (octet_Split.calls u 46 ls _ HLS.out).mono ?_; rintro e w3 ⟨v, rfl, hR, hb⟩; obtain ⟨A, c, ho, hcap, hrd⟩ := Kd.R_reads hR; subst ho; have HRD := Lib.hid hrd; have HB3 := Lib.hid hb; clear hR hcap hrd hb)
        | (go_at_call 84; refine (containsT 83 _ (enters_of Tryd.func83 (by kernel_rfl) rfl) (fun l => !patLabel l) A c ls _ HRD.out hlen (pat_pred u ls wc w3 HLS.out HB3.out)).mono ?_; rintro e w4 ⟨rfl, hb⟩; have HB4 := Lib.hid hb; clear hb))
      go_ret
      exact ⟨rfl, below_step (below_step HB0.out HB3.out) HB4.out⟩
    · have zi : ¬ (u.size : Int) < 254 := by omega
      have h3 := HU2.out
      rw [if_neg z] at h3
      obtain rfl := Option.some.inj h3
      clear h3 HU2
      go_wp2_with fail
      go_ret
      exact ⟨rfl, HB0.out⟩
end Go.Proofs.YtgmacggbhcodjaaDoor.Q

