/- A part of the claim EmbedChain: B5. -/
import Derived.Test.YtgmacggbhcodjaaDoorZEmbedChainB4
import Derived.Test.YtgmacggbhcodjaaDoorZEmbedChainA4
namespace Go.Proofs.YtgmacggbhcodjaaDoor.Q
set_option linter.unusedVariables false
set_option linter.unusedSimpArgs false
open Go.RowKit Go.Proofs.YtgmacggbhcodjaaDoorW.PrintWords
def okP (n : Int) : Bool := ((decide (97 ≤ n) && decide (n ≤ 122)) || (decide (48 ≤ n) && decide (n ≤ 57))) || (n == 45 || n == 95)
def patLabel (l : ByteArray) : Bool := (l.data.toList.all fun b => okP b.toNat) && (decide (0 < l.size) && decide (l.size < 64))
theorem okP_ext (s : ByteArray) (k : Nat) (n : Int) (hn : ((s.data.toList.getD k 0).toNat : Int) = n) (h : okP n = true) (hA : ∀ j, j < k → okP (s.data.toList.getD j 0).toNat = true) : ∀ j, j < k + 1 → okP (s.data.toList.getD j 0).toNat = true := by
  intro j hj
  by_cases e : j = k
  · subst e; rw [hn]; exact h
  · exact hA j (by omega)
set_option maxRecDepth 100000 in
set_option maxHeartbeats 4000000 in
theorem pat_label (s : ByteArray) (w : World) (hs : s.size ≤ 4611686018427387904) : Calls Tryd.prog 82 #[.string s] w fun e w' => e = .returned (.bool (patLabel s)) ∧ Below w.heap.size w w' := by
  have hcv := fun (W : World) => Lib.run_convert_string_bytes (P := Tryd.prog) W 9 109 5 s Tryd.underlying9 Tryd.underlying109 Tryd.underlying5
  go_enter Tryd.func82, Tryd.ntmps82
  go_wp2_with fail
  have HW : ∃ W0, Lib.bytesWorld w 5 s = W0 := ⟨_, rfl⟩
  obtain ⟨W0, hW0⟩ := HW
  rw [hW0]
  have HB0 : Below w.heap.size w W0 := by
    rw [← hW0]
    refine ⟨rfl, rfl, rfl, ?_, fun j hj => Lib.bytesWorld_at_old w 5 s j hj⟩
    rw [Lib.bytesWorld_size]; omega
  have HC0 : ∀ j, j < s.size → W0.cell? ⟨w.heap.size, j, none⟩ = some (.int .u8 (s.data.toList.getD j 0).toNat) := by
    rw [← hW0]; exact fun j hj => Lib.bytesWorld_cell w 5 s j hj
  clear hW0 hcv
  have HBL := Lib.hid HB0
  have HCL := Lib.hid HC0
  clear HB0 HC0
  have hsz : s.size ≤ 9223372036854775807 := by omega
  go_loopw [4, 8] (fun _ i wr => ∃ k : Nat, k ≤ s.size ∧ i = .int .i64 k ∧ Aside (∀ j, j < k → okP (s.data.toList.getD j 0).toNat = true) ∧ wr = W0) (fun _ i _ => s.size - (intOf i).toNat)
  case atStart => exact ⟨0, Nat.zero_le _, rfl, fun j hj => absurd hj (Nat.not_lt_zero j), rfl⟩
  case round =>
    obtain ⟨k, hk, rfl, HA, rfl⟩ := hrel
    by_cases hlt : k < s.size
    · have hc := HCL.out k hlt
      have HBAD := Lib.hid (fun hb => show patLabel s = false from by
        have : ¬ ((s.data.toList.all fun b => okP b.toNat) = true) := by
          rw [List.all_eq_true]
          intro hall
          have hlt' : k < s.data.toList.length := by simpa using hlt
          have h2 := hall s.data.toList[k] (List.getElem_mem hlt')
          have h3 : okP (s.data.toList.getD k 0).toNat = false := hb
          rw [List.getD_eq_getElem?_getD, List.getElem?_eq_getElem hlt', Option.getD_some] at h3
          rw [h3] at h2; exact absurd h2 (by simp)
        unfold patLabel
        rw [Bool.eq_false_iff.2 this]; rfl)
      have HOK := Lib.hid (rfl : okP (s.data.toList.getD k 0).toNat = okP (s.data.toList.getD k 0).toNat)
      generalize hn : ((s.data.toList.getD k 0).toNat : Int) = n at hc HBAD HOK
      have HN := Lib.hid hn
      clear hn
      clear HOK
      by_cases a1 : n < 97
      · by_cases b1 : n < 48
        · by_cases c1 : n = 45
          · have c1b : (n != 45) = false := by simp [c1]
            have HGD := Lib.hid (show okP n = true from by unfold okP; rw [c1]; rfl)
            clear HBAD
            try clear c1
            try clear c2
            go_wp2_with fail
            go_roundw
            case rel => exact ⟨k + 1, by omega, by go_num, okP_ext s k n HN.out HGD.out HA.out, trivial⟩
            case measure => simp [intOf]; omega
          · have c1b : (n != 45) = true := by simpa using c1
            have c2b : (n != 95) = true := by simp; omega
            have HBD := Lib.hid (HBAD.out (show okP n = false from by unfold okP; simp; omega))
            clear HBAD
            go_wp2_with fail
            go_ret
            exact ⟨ret_bool HBD.out.symm, HBL.out⟩
        · by_cases b2 : n > 57
          · have c1b : (n != 45) = true := by simp; omega
            by_cases c2 : n = 95
            · have c2b : (n != 95) = false := by simp [c2]
              have HGD := Lib.hid (show okP n = true from by unfold okP; rw [c2]; rfl)
              clear HBAD
              try clear c1
              try clear c2
              go_wp2_with fail
              go_roundw
              case rel => exact ⟨k + 1, by omega, by go_num, okP_ext s k n HN.out HGD.out HA.out, trivial⟩
              case measure => simp [intOf]; omega
            · have c2b : (n != 95) = true := by simpa using c2
              have HBD := Lib.hid (HBAD.out (show okP n = false from by unfold okP; simp; omega))
              clear HBAD
              go_wp2_with fail
              go_ret
              exact ⟨ret_bool HBD.out.symm, HBL.out⟩
          · have hz : 48 ≤ n ∧ n ≤ 57 := by omega
            have HGD := Lib.hid (show okP n = true from by unfold okP; simp; omega)
            clear HBAD
            try clear c1
            try clear c2
            go_wp2_with fail
            go_roundw
            case rel => exact ⟨k + 1, by omega, by go_num, okP_ext s k n HN.out HGD.out HA.out, trivial⟩
            case measure => simp [intOf]; omega
      · by_cases a2 : n > 122
        · have b1 : ¬ n < 48 := by omega
          have b2 : n > 57 := by omega
          have c1b : (n != 45) = true := by simp; omega
          have c2b : (n != 95) = true := by simp; omega
          have HBD := Lib.hid (HBAD.out (show okP n = false from by unfold okP; simp; omega))
          clear HBAD
          go_wp2_with fail
          go_ret
          exact ⟨ret_bool HBD.out.symm, HBL.out⟩
        · have hz : 97 ≤ n ∧ n ≤ 122 := by omega
          have HGD := Lib.hid (show okP n = true from by unfold okP; simp; omega)
          clear HBAD
          try clear c1
          try clear c2
          go_wp2_with fail
          go_roundw
          case rel => exact ⟨k + 1, by omega, by go_num, okP_ext s k n HN.out HGD.out HA.out, trivial⟩
          case measure => simp [intOf]; omega
    · obtain rfl : k = s.size := by omega
      have hall : (s.data.toList.all fun b => okP b.toNat) = true := by
        rw [List.all_eq_true]
        intro x hx
        obtain ⟨j, hj, rfl⟩ := List.mem_iff_getElem.1 hx
        have := HA.out j (by simpa using hj)
        rwa [List.getD_eq_getElem?_getD, List.getElem?_eq_getElem hj] at this
      have HE := Lib.hid (show patLabel s = (decide (0 < s.size) && decide (s.size < 64)) from by unfold patLabel; rw [hall]; rfl)
      clear hall HA hlt hk
      by_cases z1 : 0 < s.size
      · have z1i : (s.size : Int) > 0 := by omega
        by_cases z2 : s.size < 64
        · have z2i : (s.size : Int) < 64 := by omega
          have HF := Lib.hid (show patLabel s = true from by rw [HE.out]; simp; omega)
          go_wp2_with fail
          go_ret
          exact ⟨ret_bool HF.out.symm, HBL.out⟩
        · have z2i : ¬ (s.size : Int) < 64 := by omega
          have HF := Lib.hid (show patLabel s = false from by rw [HE.out]; simp; omega)
          go_wp2_with fail
          go_ret
          exact ⟨ret_bool HF.out.symm, HBL.out⟩
      · have z1i : ¬ (s.size : Int) > 0 := by omega
        have HF := Lib.hid (show patLabel s = false from by rw [HE.out]; simp; omega)
        go_wp2_with fail
        go_ret
        exact ⟨ret_bool HF.out.symm, HBL.out⟩
end Go.Proofs.YtgmacggbhcodjaaDoor.Q

