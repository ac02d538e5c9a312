/- A part of the claim EmbedChain: C2. -/
import Derived.Test.YtgmacggbhcodjaaDoorZEmbedChainB9
import Derived.Test.YtgmacggbhcodjaaDoorZEmbedChainR0
import Derived.Deep.RegionHeld3
import Derived.IntWalk
namespace Go.Proofs.YtgmacggbhcodjaaDoor.Q
set_option linter.unusedVariables false
set_option linter.unusedSimpArgs false
open Go.RowKit Go.Proofs.YtgmacggbhcodjaaDoorW.PrintWords
theorem int_at {w : World} {A : Option Addr} {n : Nat} {xs : List Int} (h : Kd.C (Kd.int .i64) w A n xs) (i : Int) (h0 : 0 ≤ i) (h1 : i < n) : ∃ ad, A = some ad ∧ w.cell? (ad.add i.toNat) = some (.int .i64 (rd xs i)) := by
  obtain ⟨ad, c, e, _, hK, hc⟩ := Kd.C_get h (0 : Int) i h0 h1
  have hk : c = [.int .i64 (xs.getD i.toNat 0)] := hK
  subst hk
  refine ⟨ad, e, ?_⟩
  have := hc 0 _ rfl
  rw [show i.toNat * (Kd.int .i64).sz + 0 = i.toNat from by show i.toNat * 1 + 0 = i.toNat; omega] at this
  exact this
theorem hb_of {w : World} {ad : Addr} {v : Value} (h : w.cell? ad = some v) : ad.block < w.heap.size := by
  apply Classical.byContradiction
  intro hn
  have h0 : w.heap[ad.block]? = none := Array.getElem?_eq_none (by omega)
  simp [World.cell?, h0] at h
theorem g_blk {w w3 : World} {o : Obj} (hb : Below (w.drew.alloc o).heap.size (w.drew.alloc o) w3) : w3.heap[w.heap.size]? = some o := blk_below (blk_new w.drew o) hb
theorem g_cs {w w3 : World} {a b c : Value} {t : TypeId} (hb : Below (w.drew.alloc (.cells #[a, b, c] t (0, 0))).heap.size (w.drew.alloc (.cells #[a, b, c] t (0, 0))) w3) :
    w3.cell? ⟨w.heap.size, 0, none⟩ = some a ∧ w3.frozen? ⟨w.heap.size, 0, none⟩ = false ∧ w3.cell? ⟨w.heap.size, 1, none⟩ = some b ∧ w3.frozen? ⟨w.heap.size, 1, none⟩ = false ∧ w3.cell? ⟨w.heap.size, 2, none⟩ = some c ∧ w3.frozen? ⟨w.heap.size, 2, none⟩ = false :=
  have h := g_blk hb
  ⟨(blk_cell h 0).trans rfl, blk_frozen h 0, (blk_cell h 1).trans rfl, blk_frozen h 1, (blk_cell h 2).trans rfl, blk_frozen h 2⟩
theorem g_end1 {w w3 : World} {a b c : Value} {t : TypeId} (hb : Below w.drew.heap.size w.drew w3) :
    w.heap.size ≤ w3.heap.size ∧ (w3.alloc (.cells #[a, b, c] t (0, 0))).heap[w3.heap.size]? = some (.cells #[a, b, c] t (0, 0)) ∧ Below w.heap.size w (w3.alloc (.cells #[a, b, c] t (0, 0))) :=
  have h : Below w.heap.size w w3 := below_step (Below.refl _ _).drew hb
  ⟨h.size, blk_new w3 _, h.alloc h.size _⟩
theorem g_end2 {w w3 : World} {a b c x y z : Value} {t : TypeId} (hb : Below (w.drew.alloc (.cells #[x, y, z] t (0, 0))).heap.size (w.drew.alloc (.cells #[x, y, z] t (0, 0))) w3) :
    w.heap.size ≤ w.heap.size ∧ (((w3.setCell ⟨w.heap.size, 0, none⟩ a).setCell ⟨w.heap.size, 1, none⟩ b).setCell ⟨w.heap.size, 2, none⟩ c).heap[w.heap.size]? = some (.cells #[a, b, c] t (0, 0)) ∧
      Below w.heap.size w (((w3.setCell ⟨w.heap.size, 0, none⟩ a).setCell ⟨w.heap.size, 1, none⟩ b).setCell ⟨w.heap.size, 2, none⟩ c) :=
  have h : Below w.heap.size w w3 := below_step ((Below.refl _ _).drew.alloc (Nat.le_refl _) _) hb
  ⟨Nat.le_refl _, blk_put (blk_put (blk_put (g_blk hb) 0 a rfl) 1 b rfl) 2 c rfl, below_set (below_set (below_set h (Nat.le_refl _)) (Nat.le_refl _)) (Nat.le_refl _)⟩
theorem g_cl {W : World} {n : Nat} {a b c : Value} {t : TypeId} (h : W.heap[n]? = some (.cells #[a, b, c] t (0, 0))) :
    W.cell? ⟨n, 0, none⟩ = some a ∧ W.cell? ⟨n, 1, none⟩ = some b ∧ W.cell? ⟨n, 2, none⟩ = some c := ⟨(blk_cell h 0).trans rfl, (blk_cell h 1).trans rfl, (blk_cell h 2).trans rfl⟩
set_option maxRecDepth 100000 in
set_option maxHeartbeats 4000000 in
theorem embedChain_walk (A : Option Addr) (c : Nat) (l : List Int) (w : World) (hr : Kd.C (Kd.int .i64) w A l.length l) (hG : Gw w) :
    Calls Tryd.prog 6 #[.slice A l.length c] w fun e w' => e = .returned (.bool true) ∧ Below w.heap.size w w' := by
  have HG := Lib.hid hG
  have HR := Lib.hid hr
  have hlen := hr.2.1
  clear hG hr
  by_cases hl : l.length ≤ 100
  case neg =>
    have hli : (l.length : Int) > 100 := by omega
    go_enter Tryd.func6, Tryd.ntmps6
    go_wp2_with (go_at_call 22; (with_reducible refine (glacislaw18_awake.walk _ HG.out).mono ?_); rintro e w1 ⟨rfl, hb⟩; have B1 := Lib.hid hb; clear hb)
    go_ret
    exact ⟨rfl, B1.out⟩
  have hli : ¬ (l.length : Int) > 100 := by omega
  go_enter Tryd.func6, Tryd.ntmps6
  go_wp2_with (go_at_call 22; (with_reducible refine (glacislaw18_awake.walk _ HG.out).mono ?_); rintro e w1 ⟨rfl, hb⟩; have B1 := Lib.hid hb; clear hb)
  go_loopw [4] (fun s4 wr => ∃ i : Int, s4 = .int .i64 i ∧ 1 ≤ i ∧ i ≤ 101 ∧ Aside (Below w.heap.size w wr)) (fun s4 _ => l.length + 1 - (intOf s4).toNat)
  case atStart => exact ⟨1, rfl, by omega, by omega, B1.out⟩
  case round =>
    obtain ⟨i, rfl, h1, h101, BW⟩ := hrel
    by_cases hlt : i < (l.length : Int)
    · obtain ⟨ad, rfl, c1⟩ := int_at (Kd.C_below HR.out BW.out) (i - 1) (by omega) (by omega)
      obtain ⟨ad', e2, c2⟩ := int_at (Kd.C_below HR.out BW.out) i (by omega) hlt
      cases e2
      have p0 : (0 : Int) ≤ i - 1 := by omega
      have p1 : i - 1 < (l.length : Int) := by omega
      have p2 : (0 : Int) ≤ i := by omega
      generalize rd l (i - 1) = p at c1
      generalize rd l i = q at c2
      go_wp2_with fail
      have HBW := Lib.hid BW
      have ew : IntKind.i64.wrap (i - 1) = i - 1 := IntWalk.i64_in _ (by omega)
      rw [show (i - 1).toNat = i.toNat - 1 from by omega] at c1
      have hcp := hb_of c1
      have hcq := hb_of c2
      obtain ⟨g1, hg1⟩ : ∃ g, g = (isoB q || !isoB p) := ⟨_, rfl⟩
      obtain ⟨g2, hg2⟩ : ∃ g, g = !g1 := ⟨_, rfl⟩
      have HC : Hid (embed_Coep.f p ⟨#[]⟩ 0 ⟨#[]⟩ q ⟨#[]⟩ 0 ⟨#[]⟩ = some (g1, g2, false)) := Lib.hid (by rw [hg2, hg1]; simp [embed_Coep.f, isoB])
      have HG1 := Lib.hid hg1
      have HG2 := Lib.hid hg2
      clear hg1 hg2
      go_cut [5] (fun s5 W => ∃ n, s5 = .pointer (some ⟨n, 0, none⟩) ∧ wr.heap.size ≤ n ∧ W.heap[n]? = some (.cells #[.bool g1, .bool g2, .bool false] 58 (0, 0)) ∧ Below wr.heap.size wr W)
      case first =>
        go_region_with (first | (go_at_call 23; (with_reducible refine (embed_Coep.calls p ⟨#[]⟩ 0 ⟨#[]⟩ q ⟨#[]⟩ 0 ⟨#[]⟩ g1 g2 false _ HC.out).mono ?_); rintro e w3 ⟨rfl, hb3⟩; refine Exists.elim (⟨trivial, g_cs hb3⟩ : ∃ _ : True, _) ?_; rintro - ⟨z0, z0f, z1, z1f, z2, z2f⟩) | (go_at_call 23; (with_reducible refine (embed_Coep.calls p ⟨#[]⟩ 0 ⟨#[]⟩ q ⟨#[]⟩ 0 ⟨#[]⟩ g1 g2 false _ HC.out).mono ?_); rintro e w3 ⟨rfl, hb3⟩))
        all_goals (go_wp2_with fail; go_meet; first | exact ⟨_, rfl, g_end1 hb3⟩ | exact ⟨_, rfl, g_end2 hb3⟩)
      obtain ⟨n, rfl, hn, hk, hbx⟩ := hcut
      have HN := Lib.hid hn
      have HK := Lib.hid hk
      have HX := Lib.hid hbx
      obtain ⟨z0, z1, z2⟩ := g_cl hk
      have d1 := hbx.cell hcp
      have d2 := hbx.cell hcq
      rw [c1] at d1
      rw [c2] at d2
      clear hn hk hbx c1 c2
      have hg1 := HG1.out
      have hg2 := HG2.out
      by_cases p1 : p = 1 <;> by_cases p2 : p = 2 <;> by_cases q1 : q = 1 <;> by_cases q2 : q = 2 <;> (try omega) <;> (first | subst p1 | (have b1 := beq_false_of_ne p1) ) <;> (first | subst p2 | (have b2 := beq_false_of_ne p2) ) <;> (first | subst q1 | (have b3 := beq_false_of_ne q1) ) <;> (first | subst q2 | (have b4 := beq_false_of_ne q2) ) <;> (simp [isoB, *] at hg1; subst hg1; simp at hg2; subst hg2)
      all_goals
        go_wp2_with fail
        go_roundw
        case rel => exact ⟨i + 1, rfl, by omega, by omega, below_step HBW.out HX.out⟩
        case measure => simp [intOf]; omega
    · have hge : ¬ i < (l.length : Int) := hlt
      go_wp2_with fail
      go_ret
      exact ⟨rfl, BW.out⟩
end Go.Proofs.YtgmacggbhcodjaaDoor.Q
namespace Go.Proofs.YtgmacggbhcodjaaDoor
open Go.RowKit Go.Proofs.YtgmacggbhcodjaaDoorW.PrintWords
theorem C2.glacislaw18_EmbedChain.calls (A : Option Addr) (c : Nat) (l : List Int) (r : Bool) (w : World) (hr : Kd.C (Kd.int .i64) w A l.length l) (_ : l.length ≤ c) (hG : Q.Gw w) (h : r = true) :
    Calls Tryd.prog 6 #[.slice A l.length c] w fun e w' => e = .returned (.bool r) ∧ Below w.heap.size w w' := by
  subst h
  exact Q.embedChain_walk A c l w hr hG
theorem Pure.EmbedChain (l : List Int) (_ : l.length ≤ maxLen ∧ ∀ x ∈ l, (Lit.int .i64 x).wf = true) : true = true := rfl
end Go.Proofs.YtgmacggbhcodjaaDoor

