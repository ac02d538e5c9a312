/- A part of the claim EmbedMore: R0. -/
import Derived.Test.YtgmacggbhcodjaaGreatDoorZEmbedMoreA0
import Derived.Test.YtgmacggbhcodjaaGreatDoorRows
import Derived.ProofKit
import Derived.OpenShut
import Derived.DataElems
import Derived.ShutString
import Derived.ChangeOld
import Derived.SizedLaws
import Derived.LaidMore
import Derived.Lay
import Derived.Stop.LaidErr
import Derived.Deep.DeepHandedRow
import Derived.Shelf.Vars
import Derived.Lib.ItoaNum
namespace Go.Proofs.YtgmacggbhcodjaaGreatDoor.Q
set_option linter.unusedVariables false
set_option linter.unusedSimpArgs false
open Go.RowKit Go.ChangeShapes Go.WideShapes Go.ChangeAt Go.Proofs.YtgmacggbhcodjaaGreatDoorW.PrintWords
section
variable {H : Type} {enc : TypeId × Value → H} {P : Program} {w : World}
def Opens (enc : TypeId × Value → H) (P : Program) (w : World) (t : TypeId) {α : Type} (d : Kd α) (q : α → Prop) : Prop :=
  P.cellsOf t = d.sz ∧ ∀ fuel cs x, DataW.trod enc P w 0 (fun _ => true) true fuel t cs = some x → ∃ v, d.K w v cs ∧ q v
theorem opens_string {t : TypeId} (ht : P.underlying t = some .string) (hc : P.cellsOf t = 1) : Opens enc P w t Kd.string (fun s => s.size ≤ maxLen) := by
  refine ⟨hc, fun fuel cs x h => ?_⟩
  obtain ⟨s, rfl, _, hs⟩ := DataW.trod_string ht h
  exact ⟨s, rfl, hs⟩
theorem opens_bool {t : TypeId} (ht : P.underlying t = some .bool) (hc : P.cellsOf t = 1) : Opens enc P w t Kd.bool (fun _ => True) := by
  refine ⟨hc, fun fuel cs x h => ?_⟩
  obtain ⟨s, rfl, _⟩ := DataW.trod_bool ht h
  exact ⟨s, rfl, trivial⟩
theorem opens_int {t : TypeId} {k : IntKind} (ht : P.underlying t = some (.int k)) (hc : P.cellsOf t = 1) : Opens enc P w t (Kd.int k) (fun n => (Lit.int k n).wf = true) := by
  refine ⟨hc, fun fuel cs x h => ?_⟩
  obtain ⟨s, rfl, _, hw⟩ := DataW.trod_int ht h
  exact ⟨s, rfl, hw⟩
theorem choose_row {α : Type} {p : Nat → α → Prop} : ∀ n, (∀ i, i < n → ∃ v, p i v) → ∃ xs : List α, xs.length = n ∧ ∀ i v, xs[i]? = some v → p i v
  | 0, _ => ⟨[], rfl, fun i v h => by simp at h⟩
  | n + 1, h => by
    obtain ⟨xs, hl, hx⟩ := choose_row n fun i hi => h i (by omega)
    obtain ⟨v, hv⟩ := h n (by omega)
    refine ⟨xs ++ [v], by simp [hl], fun i u hu => ?_⟩
    rcases Nat.lt_or_ge i n with hi | hi
    · rw [List.getElem?_append_left (by omega)] at hu; exact hx i u hu
    · have hlt : i < (xs ++ [v]).length := (List.getElem?_eq_some_iff.1 hu).1
      obtain rfl : i = n := by simp at hlt; omega
      rw [List.getElem?_append_right (by omega), hl] at hu
      simp at hu
      subst hu
      exact hv
def FOpens (enc : TypeId × Value → H) (P : Program) (w : World) (fs : List (TypeId × Nat)) (o : Nat) {α : Type} (d : Kd α) (q : α → Prop) : Prop :=
  ∀ (n : Nat) (cs : List Value), cs.length = o + d.sz → (∀ f ∈ fs, ∃ y, DataW.trod enc P w 0 (fun _ => true) true n f.1 ((cs.drop f.2).take (P.cellsOf f.1)) = some y) → ∃ v, d.K w v (cs.drop o) ∧ q v
theorem fopens_one {t : TypeId} {o : Nat} {α : Type} {d : Kd α} {q : α → Prop} (h : Opens enc P w t d q) : FOpens enc P w [(t, o)] o d q := by
  intro n cs hl hf
  obtain ⟨y, hy⟩ := hf (t, o) (List.mem_singleton.2 rfl)
  rw [h.1, List.take_of_length_le (by simp; omega)] at hy
  exact h.2 _ _ _ hy
theorem fopens_cons {t : TypeId} {o : Nat} {fs : List (TypeId × Nat)} {α β : Type} {d : Kd α} {d' : Kd β} {q : α → Prop} {q' : β → Prop} (h : Opens enc P w t d q) (hr : FOpens enc P w fs (o + d.sz) d' q') :
    FOpens enc P w ((t, o) :: fs) o (Kd.pair d d') (fun v => q v.1 ∧ q' v.2) := by
  intro n cs hl hf
  have hl' : cs.length = o + (d.sz + d'.sz) := hl
  obtain ⟨y, hy⟩ := hf (t, o) List.mem_cons_self
  rw [h.1] at hy
  obtain ⟨v, hv, hq⟩ := h.2 _ _ _ hy
  obtain ⟨v', hv', hq'⟩ := hr n cs (by omega) fun f hm => hf f (List.mem_cons_of_mem _ hm)
  refine ⟨(v, v'), ⟨_, _, ?_, hv, hv'⟩, hq, hq'⟩
  rw [← List.drop_drop, List.take_append_drop]
theorem opens_struct {t : TypeId} {fs : Array Field} {α : Type} {d : Kd α} {q : α → Prop} (ht : P.underlying t = some (.struct fs)) (hc : P.cellsOf t = d.sz) (hf : FOpens enc P w (fs.toList.map fun f => (f.type, f.offset)) 0 d q) : Opens enc P w t d q := by
  refine ⟨hc, fun fuel cs x h => ?_⟩
  obtain ⟨xs, n, _, _, hl, hxl, hall⟩ := DataW.trod_struct ht h
  obtain ⟨v, hv, hq⟩ := hf n cs (by omega) fun f hm => by
    obtain ⟨g, hg, rfl⟩ := List.mem_map.1 hm
    obtain ⟨i, hi, rfl⟩ := List.mem_iff_getElem.1 hg
    have hi' : i < fs.size := by simpa using hi
    have := hall i fs[i] (Array.getElem?_eq_getElem hi')
    rw [List.getElem?_eq_getElem (by omega)] at this
    exact ⟨_, by simpa using this⟩
  exact ⟨v, by simpa using hv, hq⟩
theorem opens_iso {t : TypeId} {α β : Type} {d : Kd α} {q : α → Prop} (f : β → α) (g : α → β) (hfg : ∀ x, f (g x) = x) (h : Opens enc P w t d q) : Opens enc P w t (Kd.iso d f) (fun v => q (f v)) := by
  refine ⟨h.1, fun fuel cs x hx => ?_⟩
  obtain ⟨v, hv, hq⟩ := h.2 _ _ _ hx
  exact ⟨g v, show d.K w (f (g v)) cs by rw [hfg]; exact hv, show q (f (g v)) by rw [hfg]; exact hq⟩
theorem Opens.arg {t : TypeId} {α : Type} {d : Kd α} {q : α → Prop} (h : Opens enc P w t d q) {v : Value} {x : DataW H} {p : List MemPlace} (ht : DataW.Trod enc P w 0 (fun _ => true) true t v x p) : ∃ y, d.K w y v.cells.toList ∧ q y := by
  obtain ⟨fuel, hf⟩ := ht
  exact h.2 _ _ _ hf
end
def seatLaid : List (String × DataW Unit) := [("math/bits.deBruijn32tab", Rows.laid_math_bits_deBruijn32tab), ("math/bits.deBruijn64tab", Rows.laid_math_bits_deBruijn64tab), ("internal/strconv.uint64pow10", Rows.laid_internal_strconv_uint64pow10), ("unicode/utf8.acceptRanges", Rows.laid_unicode_utf8_acceptRanges), ("unicode/utf8.first", Rows.laid_unicode_utf8_first)]
theorem gw_row {W : World} (hsh : W.ShapedOpen Tryz.prog) (hL : laidMetH Tryz.prog seatLaid W) : Gw W := by
  rw [MakeChecks.laidMetH_plain _ _ _ (by kernel_rfl)] at hL
  have h3 := hL.tail.tail
  have e : (Rows.laid_internal_strconv_uint64pow10 : DataW Unit) = Lib.tabData .u64 Lib.pow10Tab := by kernel_rfl
  rw [e] at h3
  have h5 : (((begin Tryz.prog (fun _ _ => 0) default).world.heap[5]?).bind Obj.row?).isSome = true := by kernel_rfl
  obtain ⟨⟨zero, t⟩, h5⟩ := Option.isSome_iff_exists.1 h5
  obtain ⟨cs, hh, _⟩ := hsh.1 5 zero t (of_decide_eq_true (by kernel_rfl)) h5
  exact ⟨cell_of_shapedOpen_int (zero := #[.int .i64 0]) (t := 3) hsh (of_decide_eq_true (by kernel_rfl)) (by kernel_rfl) rfl (by kernel_rfl) (by kernel_rfl) Tryz.underlying3,
    Lib.tabIs_of_head (g := 3) (t := 180) (e := 169) (n := 20) (by kernel_rfl) (by kernel_rfl) Tryz.underlying180 Tryz.underlying169 (by kernel_rfl) (by kernel_rfl) h3,
    (Array.getElem?_eq_some_iff.1 hh).1⟩
theorem witness_laid {H : Type} {enc : TypeId × Value → H} {C : Checked} {os : Os} {f : FuncId} {fn : Func} {s : OpenSpec} {conds : List PathCond} {apart : Bool} {laid : List (String × DataW Unit)} (modest : Bool) (w0 : World) (args : Array Value) (hos : w0.os = os)
    (hsh : (w0.forCall (fun _ _ => 0) ⟨#[], args, []⟩).Shaped C.prog)
    (hok : Input.okWideB C.prog (w0.forCall (fun _ _ => 0) ⟨#[], args, []⟩) f ⟨#[], args, []⟩ = true)
    (hrow : s.preRow enc C.prog fn conds apart laid (w0.forCall (fun _ _ => 0) ⟨#[], args, []⟩).memory args) :
    ∃ (w : World) (tape : Tape) (i : Input), w.os = os ∧ (w.forCall tape i).Shaped C.prog ∧ i.vars = [] ∧ Input.okWide C.prog (w.forCall tape i) .any w.heap.size f i ∧
      s.preRow enc C.prog fn conds apart laid (w.forCall tape i).memory i.args ∧ ({ modest := modest } : Assume).holds C.prog (lone (Frame.enter C.prog f i.args .normal) [] (w.forCall tape i)) :=
  ⟨w0, fun _ _ => 0, ⟨#[], args, []⟩, hos, hsh, (Input.okWide_of_okWideB (base := 0) hok).1, (Input.okWide_of_okWideB hok).2, hrow, by
    simp only [Assume.holds]
    exact ⟨by simp, by simp, fun _ => Modest.zero, by simp, by simp⟩⟩
theorem laid_met (os : Os) (args : Array Value) : laidMetH Tryz.prog seatLaid ((World.laidAll Tryz.prog os seatLaid).forCall (fun _ _ => 0) ⟨#[], args, []⟩).memory := by
  rw [MakeChecks.laidMetH_plain _ _ _ (by kernel_rfl)]
  exact laidMet_laidAll _ (by kernel_rfl) (by kernel_rfl)
theorem own : ownKnob Tryz.prog.godebug = none := by kernel_rfl
theorem laidOut : laidOutB Tryz.prog = true := by kernel_rfl
end Go.Proofs.YtgmacggbhcodjaaGreatDoor.Q

