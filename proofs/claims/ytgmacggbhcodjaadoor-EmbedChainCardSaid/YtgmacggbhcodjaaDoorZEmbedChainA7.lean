/- A part of the claim EmbedChain: A7. -/
import Derived.Test.YtgmacggbhcodjaaDoorZEmbedChainA0
import Derived.Maps.Own
import Derived.Maps.OwnSet
import Derived.Maps.OwnOps
import Derived.Maps.Keyed
import Derived.Outline
namespace Go.Proofs.YtgmacggbhcodjaaDoor.Q
set_option linter.unusedVariables false
set_option linter.unusedSimpArgs false
open Go.RowKit Go.Proofs.YtgmacggbhcodjaaDoorW Go.Proofs.YtgmacggbhcodjaaDoorW.PrintWords Go.Maps
theorem wpList_insert_own {H : Type} {P : Program} (w : World) {ops : Array Oper} {rest : List Oper} {o : Oper} {a : Act} {Q : Exit → Act → World → Prop}
    (hg : o.guard = none) (m x v : Operand) (t : TypeId) (hop : o.op = Op.insert t m x v)
    (k e : TypeId) (K : Keyed P k) (ht : P.underlying t = some (.map k e)) (R : Value → Option (DataW H × List MemPlace)) (b n : Nat) (D : DataW H)
    (hm : a.eval m = .map (some b)) (hown : w.ownsMap P k R b n D) (hn : n < maxLen) (key val : Value) (kl : Lit) (hx : a.eval x = key) (hv : a.eval v = val) (hkey : keyOf P k key = some kl)
    (d : DataW H) (ps : List MemPlace) (hval : R val = some (d, ps))
    (hK : ∀ w', w'.ownsMap P k R b (n + 1) (D.put kl d) → w.grownBy w' (some b) → wpList P ops Q rest (a.put o.dst undef) w') :
    wpList P ops Q (o :: rest) a w := by
  refine wpList_plain hg fun K' hK' => ?_
  obtain ⟨w', hrun, r1, r2⟩ := hown.update K ht hn hkey hval
  unfold Oper.wp
  simp [execOp, hop, hm, hx, hv, hrun, Result.andThen]
  exact hK' _ _ (hK w' r1 r2)
def portsD : DataW Value := (((((DataW.map []).put (.string [104, 116, 116, 112]) (.lit (.int .i64 80))).put (.string [104, 116, 116, 112, 115]) (.lit (.int .i64 443))).put (.string [97, 98, 111, 117, 116]) (.lit (.int .i64 (-1)))).put (.string [100, 97, 116, 97]) (.lit (.int .i64 (-1)))).put (.string [98, 108, 111, 98]) (.lit (.int .i64 (-1)))
def portOf (l : List UInt8) : Int := if l = [104, 116, 116, 112] then 80 else if l = [104, 116, 116, 112, 115] then 443 else if l = [97, 98, 111, 117, 116] then -1 else if l = [100, 97, 116, 97] then -1 else if l = [98, 108, 111, 98] then -1 else 0
def knownS (l : List UInt8) : Bool := l == [104, 116, 116, 112] || l == [104, 116, 116, 112, 115] || l == [97, 98, 111, 117, 116] || l == [100, 97, 116, 97] || l == [98, 108, 111, 98]
theorem portsD_eq : portsD = .map [(.string [97, 98, 111, 117, 116], .lit (.int .i64 (-1))), (.string [98, 108, 111, 98], .lit (.int .i64 (-1))), (.string [100, 97, 116, 97], .lit (.int .i64 (-1))), (.string [104, 116, 116, 112], .lit (.int .i64 80)), (.string [104, 116, 116, 112, 115], .lit (.int .i64 443))] := by
  with_unfolding_all rfl
theorem portsD_has (l : List UInt8) : Maps.has portsD (.string l) = knownS l := by
  rw [portsD_eq, Maps.has_eq]
  simp only [List.any_cons, List.any_nil, Lit.sameKey, knownS, Bool.or_false]
  rw [show ([97, 98, 111, 117, 116] == l) = (l == [97, 98, 111, 117, 116]) from Bool.beq_comm .., show ([98, 108, 111, 98] == l) = (l == [98, 108, 111, 98]) from Bool.beq_comm .., show ([100, 97, 116, 97] == l) = (l == [100, 97, 116, 97]) from Bool.beq_comm .., show ([104, 116, 116, 112] == l) = (l == [104, 116, 116, 112]) from Bool.beq_comm .., show ([104, 116, 116, 112, 115] == l) = (l == [104, 116, 116, 112, 115]) from Bool.beq_comm ..]
  generalize (l == [97, 98, 111, 117, 116]) = a
  generalize (l == [98, 108, 111, 98]) = b
  generalize (l == [100, 97, 116, 97]) = c
  generalize (l == [104, 116, 116, 112]) = d
  generalize (l == [104, 116, 116, 112, 115]) = e
  revert a b c d e; decide
theorem portsD_at (l : List UInt8) : portsD.atKey (.string l) (.lit (.int .i64 0)) = .lit (.int .i64 (portOf l)) := by
  rw [portsD_eq]
  unfold DataW.atKey portOf
  simp only [List.find?, Lit.sameKey]
  by_cases h1 : l = [97, 98, 111, 117, 116]
  · subst h1; rfl
  by_cases h2 : l = [98, 108, 111, 98]
  · subst h2; rfl
  by_cases h3 : l = [100, 97, 116, 97]
  · subst h3; rfl
  by_cases h4 : l = [104, 116, 116, 112]
  · subst h4; rfl
  by_cases h5 : l = [104, 116, 116, 112, 115]
  · subst h5; rfl
  have n : ∀ m : List UInt8, l ≠ m → (m == l) = false := fun m h => by simp [Ne.symm h]
  simp only [n _ h1, n _ h2, n _ h3, n _ h4, n _ h5, if_neg h1, if_neg h2, if_neg h3, if_neg h4, if_neg h5]
theorem portsE (a : Int) (h : (Lit.int .i64 a).wf = true) : plainElem (H := Value) Tryd.prog 3 (.int .i64 a) = some (.lit (.int .i64 a), []) := plainElem_int Tryd.underlying3 h
theorem portsK (s : ByteArray) (h : s.size ≤ maxLen) : keyOf Tryd.prog 9 (.string s) = some (.string s.data.toList) := WideMaps.keyOf_string_mk Tryd.underlying9 h
set_option maxRecDepth 100000 in
theorem urlp_ports.calls (w : World) : Calls Tryd.prog 30 #[] w fun e w' => e = .returned (.map (some w.heap.size)) ∧ w'.ownsMap Tryd.prog 9 (plainElem (H := Value) Tryd.prog 3) w.heap.size 5 portsD ∧ Below w.heap.size w w' := by
  have hmm := @run_makeMap Tryd.prog
  have hk := portsK
  have h0 := World.ownsMap_made (H := Value) w Tryd.prog 9 (plainElem (H := Value) Tryd.prog 3)
  have HB := Below.alloc (Below.refl w.heap.size w) (Nat.le_refl _) (.map #[] 0)
  go_enter Tryd.func30, Tryd.ntmps30
  go_wp2_with (first
    | (refine wpList_insert_own _ rfl (.tmp 1) _ _ 72 rfl 9 3 (Maps.string_keyed Tryd.underlying9) Tryd.underlying72 _ w.heap.size 0 _ rfl h0 (by decide) _ _ _ rfl rfl (hk _ (by decide)) _ [] (portsE _ (by decide)) ?_; intro w1 h1 g1; clear h0)
    | (refine wpList_insert_own _ rfl (.tmp 1) _ _ 72 rfl 9 3 (Maps.string_keyed Tryd.underlying9) Tryd.underlying72 _ w.heap.size 1 _ rfl h1 (by decide) _ _ _ rfl rfl (hk _ (by decide)) _ [] (portsE _ (by decide)) ?_; intro w2 h2 g2; clear h1)
    | (refine wpList_insert_own _ rfl (.tmp 1) _ _ 72 rfl 9 3 (Maps.string_keyed Tryd.underlying9) Tryd.underlying72 _ w.heap.size 2 _ rfl h2 (by decide) _ _ _ rfl rfl (hk _ (by decide)) _ [] (portsE _ (by decide)) ?_; intro w3 h3 g3; clear h2)
    | (refine wpList_insert_own _ rfl (.tmp 1) _ _ 72 rfl 9 3 (Maps.string_keyed Tryd.underlying9) Tryd.underlying72 _ w.heap.size 3 _ rfl h3 (by decide) _ _ _ rfl rfl (hk _ (by decide)) _ [] (portsE _ (by decide)) ?_; intro w4 h4 g4; clear h3)
    | (refine wpList_insert_own _ rfl (.tmp 1) _ _ 72 rfl 9 3 (Maps.string_keyed Tryd.underlying9) Tryd.underlying72 _ w.heap.size 4 _ rfl h4 (by decide) _ _ _ rfl rfl (hk _ (by decide)) _ [] (portsE _ (by decide)) ?_; intro w5 h5 g5; clear h4))
  go_ret
  have key : ∀ (A B : World), Below w.heap.size w A → A.grownBy B (some w.heap.size) → Below w.heap.size w B := by
    intro A B hb hg
    exact Below.grown hb hg hb.size (fun k e => by injection e with e; omega)
  exact ⟨rfl, h5, key _ _ (key _ _ (key _ _ (key _ _ (key _ _ HB g1) g2) g3) g4) g5⟩
end Go.Proofs.YtgmacggbhcodjaaDoor.Q

