/- A part of the claim EmbedMore: R1. -/
import Derived.Test.YtgmacggbhcodjaaGreatDoorZEmbedMoreR0
import Derived.Test.YtgmacggbhcodjaaGreatDoorZEmbedMoreK
namespace Go.Proofs.YtgmacggbhcodjaaGreatDoor.Q
set_option linter.unusedVariables false
set_option linter.unusedSimpArgs false
open Go.RowKit Go.ChangeShapes Go.WideShapes Go.ChangeAt Go.Proofs.YtgmacggbhcodjaaGreatDoorW.PrintWords
section
variable {H : Type} {enc : TypeId × Value → H} {w : World}
def HostOk (x : S29) : Prop := x.f0.size ≤ maxLen ∧ (Lit.int .u32 x.f2).wf = true
def OrgOk (x : S31) : Prop := (Lit.int .i64 x.f1).wf = true ∧ x.f2.size ≤ maxLen ∧ HostOk x.f3 ∧ (Lit.int .i64 x.f4).wf = true
theorem Opens.mono {t : TypeId} {P : Program} {α : Type} {d : Kd α} {q q' : α → Prop} (h : Opens enc P w t d q) (hq : ∀ x, q x → q' x) : Opens enc P w t d q' :=
  ⟨h.1, fun fuel cs x hx => let ⟨v, hv, hv'⟩ := h.2 fuel cs x hx; ⟨v, hv, hq v hv'⟩⟩
theorem opens_str : Opens enc Tryz.prog w 9 Kd.string (fun s => s.size ≤ maxLen) := opens_string Tryz.underlying9 (by kernel_rfl)
theorem opens_b : Opens enc Tryz.prog w 4 Kd.bool (fun _ => True) := opens_bool Tryz.underlying4 (by kernel_rfl)
theorem opens_i : Opens enc Tryz.prog w 3 (Kd.int .i64) (fun n => (Lit.int .i64 n).wf = true) := opens_int Tryz.underlying3 (by kernel_rfl)
theorem opens_u32 : Opens enc Tryz.prog w 27 (Kd.int .u32) (fun n => (Lit.int .u32 n).wf = true) := opens_int Tryz.underlying27 (by kernel_rfl)
theorem opens_host : Opens enc Tryz.prog w 29 k29 HostOk :=
  (opens_iso (fun x : S29 => (x.f0, x.f1, x.f2)) (fun y => ⟨y.1, y.2.1, y.2.2⟩) (fun _ => rfl)
    (opens_struct Tryz.underlying29 (by kernel_rfl) (show FOpens enc Tryz.prog w [(9, 0), (4, 1), (27, 2)] 0 _ _ from fopens_cons opens_str (fopens_cons opens_b (fopens_one opens_u32))))).mono fun x h => ⟨h.1, h.2.2⟩
theorem opens_org : Opens enc Tryz.prog w 31 k31 OrgOk :=
  (opens_iso (fun x : S31 => (x.f0, x.f1, x.f2, x.f3, x.f4)) (fun y => ⟨y.1, y.2.1, y.2.2.1, y.2.2.2.1, y.2.2.2.2⟩) (fun _ => rfl)
    (opens_struct Tryz.underlying31 (by kernel_rfl) (show FOpens enc Tryz.prog w [(4, 0), (3, 1), (9, 2), (29, 3), (3, 6)] 0 _ _ from
      fopens_cons opens_b (fopens_cons opens_i (fopens_cons opens_str (fopens_cons opens_host (fopens_one opens_i))))))).mono fun x h => ⟨h.2.1, h.2.2.1, h.2.2.2.1, h.2.2.2.2⟩
theorem int_of {v : Value} {k : IntKind} (h : ∃ n, v = .int k n) {y : Int} (hk : (Kd.int k).K w y v.cells.toList) : v = .int k y := by
  obtain ⟨s, rfl⟩ := h
  have h' : [Value.int k s] = [Value.int k y] := hk
  injection h'
theorem arr_of {cs : Array Value} {l : List Value} (h : (Value.agg cs).cells.toList = l) : cs = l.toArray := by
  have h' : cs.toList = l := h
  rw [← h']
theorem slice_of {a A : Option Addr} {n m c C : Nat} (h : (Value.slice a n c).cells.toList = [.slice A m C]) : a = A ∧ n = m ∧ c = C := by
  have h' : [Value.slice a n c] = [Value.slice A m C] := h
  injection h' with h1 _
  injection h1 with x y z
  exact ⟨x, y, z⟩
end
end Go.Proofs.YtgmacggbhcodjaaGreatDoor.Q

