/- A part of the claim EmbedMore: R3. -/
import Derived.Test.YtgmacggbhcodjaaGreatDoorZEmbedMoreR1
namespace Go.Proofs.YtgmacggbhcodjaaGreatDoor.Q
set_option linter.unusedVariables false
set_option linter.unusedSimpArgs false
open Go.RowKit Go.ChangeShapes Go.WideShapes Go.ChangeAt Go.Proofs.YtgmacggbhcodjaaGreatDoorW.PrintWords
section
variable {H : Type} {enc : TypeId × Value → H} {P : Program} {w : World}
theorem bulk_pos (d : DataW H) : 1 ≤ Rows.uptoBulk d := by
  cases d with
  | lit l => cases l <;> simp [Rows.uptoBulk]
  | _ => simp [Rows.uptoBulk]
theorem bulk_mem : ∀ {l : List (DataW H)} {d : DataW H}, d ∈ l → Rows.uptoBulk d ≤ Rows.uptoBulkAll l
  | [], d, h => by simp at h
  | e :: r, d, h => by
    simp only [Rows.uptoBulkAll]
    rcases List.mem_cons.1 h with rfl | h
    · omega
    · have := bulk_mem h; omega
theorem bulk_len : ∀ (l : List (DataW H)), l.length ≤ Rows.uptoBulkAll l
  | [] => by simp
  | e :: r => by
    simp only [Rows.uptoBulkAll, List.length_cons]
    have := bulk_len r
    have := bulk_pos e
    omega
def OpensN (enc : TypeId × Value → H) (P : Program) (w : World) (t : TypeId) {α : Type} (d : Kd α) (q : α → Nat → Prop) : Prop :=
  P.cellsOf t = d.sz ∧ (∀ v m n, m ≤ n → q v m → q v n) ∧ ∀ fuel cs x, DataW.trod enc P w 0 (fun _ => true) true fuel t cs = some x → ∃ v, d.K w v cs ∧ q v (Rows.uptoBulk x.1)
theorem opensN_string {t : TypeId} (ht : P.underlying t = some .string) (hc : P.cellsOf t = 1) : OpensN enc P w t Kd.string (fun s n => s.size ≤ n) := by
  refine ⟨hc, fun v m n h k => Nat.le_trans k h, fun fuel cs x h => ?_⟩
  obtain ⟨s, rfl, rfl, hs⟩ := DataW.trod_string ht h
  exact ⟨s, rfl, by show s.size ≤ s.data.toList.length + 1; simp⟩
theorem opensN_of {t : TypeId} {α : Type} {d : Kd α} {q : α → Prop} (h : Opens enc P w t d q) : OpensN enc P w t d (fun v _ => q v) :=
  ⟨h.1, fun v m n _ k => k, fun fuel cs x hx => h.2 fuel cs x hx⟩
theorem opensN_slice {t e : TypeId} {α : Type} {d : Kd α} {q : α → Nat → Prop} (E : Nat) (ht : P.underlying t = some (.slice e)) (hc : P.cellsOf t = 1) (he : OpensN enc P w e d q) (hs : 0 < d.sz) :
    OpensN enc P w t (Kd.slice E d) (fun xs n => xs.length ≤ n ∧ ∀ x ∈ xs, q x n) := by
  refine ⟨hc, fun v m n h k => ⟨Nat.le_trans k.1 h, fun x hx => he.2.1 x m n h (k.2 x hx)⟩, fun fuel cs x h => ?_⟩
  rcases DataW.trod_slice ht h with ⟨rfl, rfl⟩ | ⟨a, len, cap, elems, rest, n, _, rfl, rfl, _, hl, hm, hlen, hel, _, _⟩
  · exact ⟨[], ⟨none, 0, rfl, Nat.le_refl _, rfl, by simp, fun h => absurd h (Nat.lt_irrefl 0)⟩, by simp, fun x hx => by simp at hx⟩
  · have hB : Rows.uptoBulkAll (elems.map (·.1)) ≤ Rows.uptoBulk (DataW.slice (elems.map (·.1)) (rest.map (·.1))) := by simp only [Rows.uptoBulk]; omega
    obtain ⟨xs, hxl, hx⟩ := choose_row (p := fun i (v : α) => (∃ c, c.length = d.sz ∧ d.K w v c ∧ ∀ k u, c[k]? = some u → w.cell? (a.add (i * d.sz + k)) = some u) ∧ q v (Rows.uptoBulk (DataW.slice (elems.map (·.1)) (rest.map (·.1))))) len fun i hi => by
      have h1 := hel i hi
      rw [List.getElem?_eq_getElem (by omega), Option.bind_eq_some_iff] at h1
      obtain ⟨c, hcs, hy⟩ := h1
      rw [he.1] at hcs
      obtain ⟨_, hcl, hcell⟩ := World.cells?_some hcs
      obtain ⟨v, hv, hq⟩ := he.2.2 _ _ _ hy
      refine ⟨v, ⟨c, hcl, hv, fun k u hu => ?_⟩, he.2.1 v _ _ (Nat.le_trans (bulk_mem (List.mem_map.2 ⟨_, List.getElem_mem (by omega), rfl⟩)) hB) hq⟩
      have hk : k < d.sz := by rw [← hcl]; exact (List.getElem?_eq_some_iff.1 hu).1
      have := hcell k hk
      rw [hu] at this
      rw [← this, Addr.add_add]
    have hlB := bulk_len (elems.map (·.1))
    simp only [List.length_map] at hlB
    refine ⟨xs, ⟨some a, cap, by rw [hxl], by omega, hxl ▸ rfl, by rw [hxl]; unfold maxLen at hm; omega, fun _ => ⟨a, rfl, fun j p hj => (hx j p hj).1⟩⟩, (by rw [hxl, ← hlen]; exact Nat.le_trans hlB hB), fun x hx' => ?_⟩
    obtain ⟨j, hj, rfl⟩ := List.mem_iff_getElem.1 hx'
    exact (hx j _ (List.getElem?_eq_getElem hj)).2
def FOpensN (enc : TypeId × Value → H) (P : Program) (w : World) (fs : List (TypeId × Nat)) (o : Nat) {α : Type} (d : Kd α) (q : α → Nat → Prop) : Prop :=
  (∀ v m n, m ≤ n → q v m → q v n) ∧ ∀ (n : Nat) (cs : List Value) (N : Nat), cs.length = o + d.sz → (∀ f ∈ fs, ∃ y, DataW.trod enc P w 0 (fun _ => true) true n f.1 ((cs.drop f.2).take (P.cellsOf f.1)) = some y ∧ Rows.uptoBulk y.1 ≤ N) → ∃ v, d.K w v (cs.drop o) ∧ q v N
theorem fopensN_one {t : TypeId} {o : Nat} {α : Type} {d : Kd α} {q : α → Nat → Prop} (h : OpensN enc P w t d q) : FOpensN enc P w [(t, o)] o d q := by
  refine ⟨h.2.1, fun n cs N hl hf => ?_⟩
  obtain ⟨y, hy, hN⟩ := hf (t, o) (List.mem_singleton.2 rfl)
  rw [h.1, List.take_of_length_le (by simp; omega)] at hy
  obtain ⟨v, hv, hq⟩ := h.2.2 _ _ _ hy
  exact ⟨v, hv, h.2.1 v _ _ hN hq⟩
theorem fopensN_cons {t : TypeId} {o : Nat} {fs : List (TypeId × Nat)} {α β : Type} {d : Kd α} {d' : Kd β} {q : α → Nat → Prop} {q' : β → Nat → Prop} (h : OpensN enc P w t d q) (hr : FOpensN enc P w fs (o + d.sz) d' q') :
    FOpensN enc P w ((t, o) :: fs) o (Kd.pair d d') (fun v n => q v.1 n ∧ q' v.2 n) := by
  refine ⟨fun v m n hm k => ⟨h.2.1 _ m n hm k.1, hr.1 _ m n hm k.2⟩, fun n cs N hl hf => ?_⟩
  have hl' : cs.length = o + (d.sz + d'.sz) := hl
  obtain ⟨y, hy, hN⟩ := hf (t, o) List.mem_cons_self
  rw [h.1] at hy
  obtain ⟨v, hv, hq⟩ := h.2.2 _ _ _ hy
  obtain ⟨v', hv', hq'⟩ := hr.2 n cs N (by omega) fun f hm => hf f (List.mem_cons_of_mem _ hm)
  refine ⟨(v, v'), ⟨_, _, ?_, hv, hv'⟩, h.2.1 v _ _ hN hq, hq'⟩
  rw [← List.drop_drop, List.take_append_drop]
theorem opensN_struct {t : TypeId} {fs : Array Field} {α : Type} {d : Kd α} {q : α → Nat → Prop} (ht : P.underlying t = some (.struct fs)) (hc : P.cellsOf t = d.sz) (hf : FOpensN enc P w (fs.toList.map fun f => (f.type, f.offset)) 0 d q) : OpensN enc P w t d q := by
  refine ⟨hc, hf.1, fun fuel cs x h => ?_⟩
  obtain ⟨xs, n, _, rfl, hl, hxl, hall⟩ := DataW.trod_struct ht h
  obtain ⟨v, hv, hq⟩ := hf.2 n cs (Rows.uptoBulk (DataW.agg (xs.map (·.1)))) (by omega) fun f hm => by
    obtain ⟨g, hg, rfl⟩ := List.mem_map.1 hm
    obtain ⟨i, hi, rfl⟩ := List.mem_iff_getElem.1 hg
    have hi' : i < fs.size := by simpa using hi
    have := hall i fs[i] (Array.getElem?_eq_getElem hi')
    have hx : i < xs.length := by omega
    rw [List.getElem?_eq_getElem hx] at this
    refine ⟨xs[i], by simpa using this, ?_⟩
    have := bulk_mem (List.mem_map.2 ⟨xs[i], List.getElem_mem hx, rfl⟩ : xs[i].1 ∈ xs.map (·.1))
    simp only [Rows.uptoBulk]
    omega
  exact ⟨v, by simpa using hv, hq⟩
theorem opensN_iso {t : TypeId} {α β : Type} {d : Kd α} {q : α → Nat → Prop} (f : β → α) (g : α → β) (hfg : ∀ x, f (g x) = x) (h : OpensN enc P w t d q) : OpensN enc P w t (Kd.iso d f) (fun v n => q (f v) n) := by
  refine ⟨h.1, fun v m n hm k => h.2.1 _ m n hm k, fun fuel cs x hx => ?_⟩
  obtain ⟨v, hv, hq⟩ := h.2.2 _ _ _ hx
  exact ⟨g v, show d.K w (f (g v)) cs by rw [hfg]; exact hv, show q (f (g v)) _ by rw [hfg]; exact hq⟩
theorem OpensN.arg {t : TypeId} {α : Type} {d : Kd α} {q : α → Nat → Prop} (h : OpensN enc P w t d q) {v : Value} {x : DataW H} {p : List MemPlace} (ht : DataW.Trod enc P w 0 (fun _ => true) true t v x p) : ∃ y, d.K w y v.cells.toList ∧ q y (Rows.uptoBulk x) := by
  obtain ⟨fuel, hf⟩ := ht
  exact h.2.2 _ _ _ hf
theorem OpensN.weak {t : TypeId} {α : Type} {d : Kd α} {q q' : α → Nat → Prop} (h : OpensN enc P w t d q) (hm : ∀ v m n, m ≤ n → q' v m → q' v n) (hq : ∀ x n, q x n → q' x n) : OpensN enc P w t d q' :=
  ⟨h.1, hm, fun fuel cs x hx => let ⟨v, hv, hv'⟩ := h.2.2 fuel cs x hx; ⟨v, hv, hq v _ hv'⟩⟩
theorem opensN_str : OpensN enc Tryz.prog w 9 Kd.string (fun s n => s.size ≤ n) := opensN_string Tryz.underlying9 (by kernel_rfl)
theorem opensN_strs : OpensN enc Tryz.prog w 43 (Kd.slice 9 Kd.string) (fun l n => l.length ≤ n ∧ ∀ x ∈ l, x.size ≤ n) := opensN_slice 9 Tryz.underlying43 (by kernel_rfl) opensN_str (by decide)
def PolN (p : S45) (n : Nat) : Prop := (p.f1.length ≤ n ∧ ∀ s ∈ p.f1, s.size ≤ n) ∧ (p.f3.length ≤ n ∧ ∀ s ∈ p.f3, s.size ≤ n)
theorem opensN_pol : OpensN enc Tryz.prog w 45 k45 PolN :=
  (opensN_iso (fun x : S45 => (x.f0, x.f1, x.f2, x.f3)) (fun y => ⟨y.1, y.2.1, y.2.2.1, y.2.2.2⟩) (fun _ => rfl)
    (opensN_struct Tryz.underlying45 (by kernel_rfl) (show FOpensN enc Tryz.prog w [(4, 0), (43, 1), (4, 2), (43, 3)] 0 _ _ from
      fopensN_cons (opensN_of opens_b) (fopensN_cons opensN_strs (fopensN_cons (opensN_of opens_b) (fopensN_one opensN_strs)))))).weak
    (fun v m n h k => ⟨⟨by have := k.1.1; omega, fun s hs => by have := k.1.2 s hs; omega⟩, ⟨by have := k.2.1; omega, fun s hs => by have := k.2.2 s hs; omega⟩⟩) (fun x n h => ⟨h.2.1, h.2.2.2⟩)
theorem opensN_pols : OpensN enc Tryz.prog w 22 (Kd.slice 45 k45) (fun l n => l.length ≤ n ∧ ∀ x ∈ l, PolN x n) := opensN_slice 45 Tryz.underlying22 (by kernel_rfl) opensN_pol (by decide)
theorem opensN_orgs : OpensN enc Tryz.prog w 32 (Kd.slice 31 k31) (fun l n => l.length ≤ n ∧ ∀ x ∈ l, OrgOk x) := opensN_slice 31 Tryz.underlying32 (by kernel_rfl) (opensN_of opens_org) (by decide)
abbrev Cont := List S45 × Int × ByteArray × Int × ByteArray
def kCont : Kd Cont := Kd.pair (Kd.slice 45 k45) (Kd.pair (Kd.int .i64) (Kd.pair Kd.string (Kd.pair (Kd.int .i64) Kd.string)))
theorem kCont_open {y : Cont} {cs : List Value} (h : kCont.K w y cs) : ∃ A c, cs = [.slice A y.1.length c, .int .i64 y.2.1, .string y.2.2.1, .int .i64 y.2.2.2.1, .string y.2.2.2.2] ∧ y.1.length ≤ c ∧ Kd.C k45 w A y.1.length y.1 := by
  obtain ⟨_, _, rfl, ⟨A, c, rfl, h1, h2⟩, ⟨_, _, rfl, rfl, ⟨_, _, rfl, rfl, ⟨_, _, rfl, rfl, rfl⟩⟩⟩⟩ := h
  exact ⟨A, c, rfl, h1, h2⟩
def kEm : Kd (Int × ByteArray × Int × ByteArray) := Kd.pair (Kd.int .i64) (Kd.pair Kd.string (Kd.pair (Kd.int .i64) Kd.string))
theorem opens_em : Opens enc Tryz.prog w 24 kEm (fun _ => True) :=
  (opens_struct Tryz.underlying24 (by kernel_rfl) (show FOpens enc Tryz.prog w [(3, 0), (9, 1), (3, 2), (9, 3)] 0 kEm _ from
      fopens_cons opens_i (fopens_cons opens_str (fopens_cons opens_i (fopens_one opens_str))))).mono fun _ _ => trivial
theorem opensN_cont : OpensN enc Tryz.prog w 26 kCont (fun y n => y.1.length ≤ n ∧ ∀ p ∈ y.1, PolN p n) :=
  (opensN_struct Tryz.underlying26 (by kernel_rfl) (show FOpensN enc Tryz.prog w [(22, 0), (24, 1)] 0 kCont _ from
      fopensN_cons opensN_pols (fopensN_one (opensN_of opens_em)))).weak
    (fun v m n h k => ⟨by have := k.1; omega, fun p hp => by have := k.2 p hp; exact ⟨⟨by have := this.1.1; omega, fun s hs => by have := this.1.2 s hs; omega⟩, ⟨by have := this.2.1; omega, fun s hs => by have := this.2.2 s hs; omega⟩⟩⟩) (fun x n h => h.1)
end
end Go.Proofs.YtgmacggbhcodjaaGreatDoor.Q

