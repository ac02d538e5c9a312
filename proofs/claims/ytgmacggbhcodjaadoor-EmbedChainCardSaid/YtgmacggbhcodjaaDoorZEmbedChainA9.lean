/- A part of the claim EmbedChain: A9. -/
import Derived.Test.YtgmacggbhcodjaaDoorZEmbedChainA8
namespace Go.Proofs.YtgmacggbhcodjaaDoor.Q
set_option linter.unusedVariables false
set_option linter.unusedSimpArgs false
open Go.RowKit Go.Proofs.YtgmacggbhcodjaaDoorW.PrintWords Go.Maps
def ownD : DataW Value := ((DataW.map []).put (.string [104, 116, 116, 112]) (.lit (.int .i64 80))).put (.string [104, 116, 116, 112, 115]) (.lit (.int .i64 443))
def ownOf (l : List UInt8) : Int := if l = [104, 116, 116, 112] then 80 else if l = [104, 116, 116, 112, 115] then 443 else 0
theorem ownD_eq : ownD = .map [(.string [104, 116, 116, 112], .lit (.int .i64 80)), (.string [104, 116, 116, 112, 115], .lit (.int .i64 443))] := by
  with_unfolding_all rfl
theorem ownD_at (l : List UInt8) : ownD.atKey (.string l) (.lit (.int .i64 0)) = .lit (.int .i64 (ownOf l)) := by
  rw [ownD_eq]
  unfold DataW.atKey ownOf
  simp only [List.find?, Lit.sameKey]
  by_cases h4 : l = [104, 116, 116, 112]
  · subst h4; rfl
  by_cases h5 : l = [104, 116, 116, 112, 115]
  · subst h5; rfl
  have n : ∀ m : List UInt8, l ≠ m → (m == l) = false := fun m h => by simp [Ne.symm h]
  simp only [n _ h4, n _ h5, if_neg h4, if_neg h5]
set_option maxRecDepth 100000 in
theorem origin_own.calls (w : World) : Calls Tryd.prog 35 #[] w fun e w' => e = .returned (.map (some w.heap.size)) ∧ w'.ownsMap Tryd.prog 9 (plainElem (H := Value) Tryd.prog 3) w.heap.size 2 ownD ∧ Below w.heap.size w w' := by
  have hmm := @run_makeMap Tryd.prog
  have hk := portsK
  have h0 := World.ownsMap_made (H := Value) w Tryd.prog 9 (plainElem (H := Value) Tryd.prog 3)
  have HB := Below.alloc (Below.refl w.heap.size w) (Nat.le_refl _) (.map #[] 0)
  go_enter Tryd.func35, Tryd.ntmps35
  go_wp2_with (first
    | (refine wpList_insert_own _ rfl (.tmp 1) _ _ 72 rfl 9 3 (Maps.string_keyed Tryd.underlying9) Tryd.underlying72 _ w.heap.size 0 _ rfl h0 (by decide) _ _ _ rfl rfl (hk _ (by decide)) _ [] (portsE _ (by decide)) ?_; intro w1 h1 g1; clear h0)
    | (refine wpList_insert_own _ rfl (.tmp 1) _ _ 72 rfl 9 3 (Maps.string_keyed Tryd.underlying9) Tryd.underlying72 _ w.heap.size 1 _ rfl h1 (by decide) _ _ _ rfl rfl (hk _ (by decide)) _ [] (portsE _ (by decide)) ?_; intro w2 h2 g2; clear h1))
  go_ret
  have key : ∀ (A B : World), Below w.heap.size w A → A.grownBy B (some w.heap.size) → Below w.heap.size w B := by
    intro A B hb hg
    exact Below.grown hb hg hb.size (fun k e => by injection e with e; omega)
  exact ⟨rfl, h2, key _ _ (key _ _ HB g1) g2⟩
theorem own_look (w : World) (b : Nat) (h : w.ownsMap Tryd.prog 9 (plainElem (H := Value) Tryd.prog 3) b 2 ownD) (s : ByteArray) (hs : s.size ≤ maxLen) :
    (Instr.lookup 72 (.map (some b)) (.string s) false).run Tryd.prog w = .ok (.int .i64 (ownOf s.data.toList)) w := by
  obtain ⟨c, h1, h2, h3⟩ := h.lookup_int (t := 72) (e := 3) (Maps.string_keyed Tryd.underlying9) Tryd.underlying72 Tryd.underlying3 (zero3 w) (portsK s hs)
  have e2 : c = ownOf s.data.toList := congrArg (fun d : DataW Value => match d with | .lit (.int _ a) => a | _ => 0) (h2.symm.trans (ownD_at s.data.toList))
  rw [h1, e2]
def orgCs (o1 : Bool) (o2 : Int) (o3 o4 : ByteArray) (o5 : Bool) (o6 o7 : Int) : Array Value := #[.bool o1, .int .i64 o2, .string o3, .string o4, .bool o5, .int .u32 o6, .int .i64 o7]
abbrev Org := Bool × Int × ByteArray × ByteArray × Bool × Int × Int
def setO (W : World) (B : Nat) (o1 : Bool) (o2 : Int) (o3 o4 : ByteArray) (o5 : Bool) (o6 o7 : Int) : World :=
  ((((((W.setCell ⟨B, 0, none⟩ (.bool o1)).setCell ⟨B, 1, none⟩ (.int .i64 o2)).setCell ⟨B, 2, none⟩ (.string o3)).setCell ⟨B, 3, none⟩ (.string o4)).setCell ⟨B, 4, none⟩ (.bool o5)).setCell ⟨B, 5, none⟩ (.int .u32 o6)).setCell ⟨B, 6, none⟩ (.int .i64 o7)
theorem setO_blk (W : World) (B : Nat) (t : TypeId) (x1 : Bool) (x2 : Int) (x3 x4 : ByteArray) (x5 : Bool) (x6 x7 : Int) (o1 : Bool) (o2 : Int) (o3 o4 : ByteArray) (o5 : Bool) (o6 o7 : Int)
    (h : W.heap[B]? = some (.cells (orgCs x1 x2 x3 x4 x5 x6 x7) t (0, 0))) : (setO W B o1 o2 o3 o4 o5 o6 o7).heap[B]? = some (.cells (orgCs o1 o2 o3 o4 o5 o6 o7) t (0, 0)) := by
  have h0 := blk_put h 0 (.bool o1) rfl
  have h1 := blk_put h0 1 (.int .i64 o2) rfl
  have h2 := blk_put h1 2 (.string o3) rfl
  have h3 := blk_put h2 3 (.string o4) rfl
  have h4 := blk_put h3 4 (.bool o5) rfl
  have h5 := blk_put h4 5 (.int .u32 o6) rfl
  have h6 := blk_put h5 6 (.int .i64 o7) rfl
  unfold setO
  rw [h6]
  simp [orgCs]
theorem setO_below {w W : World} (B : Nat) (o1 : Bool) (o2 : Int) (o3 o4 : ByteArray) (o5 : Bool) (o6 o7 : Int) (h : Below w.heap.size w W) (hB : w.heap.size ≤ B) : Below w.heap.size w (setO W B o1 o2 o3 o4 o5 o6 o7) := by
  unfold setO
  repeat (refine below_set ?_ hB)
  exact h
def So (w W : World) (a1 a2 : ByteArray) (a3 : Bool) (a4 a5 : Int) (a6 : ByteArray) (a7 : Bool) (a8 a9 : ByteArray) : Prop := Below w.heap.size w W ∧ W.heap[w.heap.size]? = some (.cells (urlCs a1 a2 a3 a4 a5 a6 a7 a8 a9) 28 (0, 0)) ∧ W.heap[w.heap.size + 1]? = some (.cells (orgCs false 0 ⟨#[]⟩ ⟨#[]⟩ false 0 0) 35 (0, 0))
theorem So.below {w W W' : World} {a1 a2 : ByteArray} {a3 : Bool} {a4 a5 : Int} {a6 : ByteArray} {a7 : Bool} {a8 a9 : ByteArray} (h : So w W a1 a2 a3 a4 a5 a6 a7 a8 a9) (hd : Below W.heap.size W W') : So w W' a1 a2 a3 a4 a5 a6 a7 a8 a9 :=
  ⟨below_step h.1 hd, blk_below h.2.1 hd, blk_below h.2.2 hd⟩
theorem So.alloc {w W : World} {a1 a2 : ByteArray} {a3 : Bool} {a4 a5 : Int} {a6 : ByteArray} {a7 : Bool} {a8 a9 : ByteArray} (h : So w W a1 a2 a3 a4 a5 a6 a7 a8 a9) (o : Obj) : So w (W.alloc o) a1 a2 a3 a4 a5 a6 a7 a8 a9 := h.below ((Below.refl _ _).alloc (Nat.le_refl _) o)
theorem So.drew {w W : World} {a1 a2 : ByteArray} {a3 : Bool} {a4 a5 : Int} {a6 : ByteArray} {a7 : Bool} {a8 a9 : ByteArray} (h : So w W a1 a2 a3 a4 a5 a6 a7 a8 a9) : So w W.drew a1 a2 a3 a4 a5 a6 a7 a8 a9 := ⟨h.1.drew, h.2.1, h.2.2⟩
theorem So.us {w W : World} {a1 a2 : ByteArray} {a3 : Bool} {a4 a5 : Int} {a6 : ByteArray} {a7 : Bool} {a8 a9 : ByteArray} (h : So w W a1 a2 a3 a4 a5 a6 a7 a8 a9) : W.cell? ⟨w.heap.size, 0, none⟩ = some (.string a1) ∧ W.frozen? ⟨w.heap.size, 0, none⟩ = false ∧ W.cell? ⟨w.heap.size, 1, none⟩ = some (.string a2) ∧ W.frozen? ⟨w.heap.size, 1, none⟩ = false ∧ W.cell? ⟨w.heap.size, 2, none⟩ = some (.bool a3) ∧ W.frozen? ⟨w.heap.size, 2, none⟩ = false ∧ W.cell? ⟨w.heap.size, 3, none⟩ = some (.int .u32 a4) ∧ W.frozen? ⟨w.heap.size, 3, none⟩ = false ∧ W.cell? ⟨w.heap.size, 4, none⟩ = some (.int .i64 a5) ∧ W.frozen? ⟨w.heap.size, 4, none⟩ = false ∧ W.cell? ⟨w.heap.size, 5, none⟩ = some (.string a6) ∧ W.frozen? ⟨w.heap.size, 5, none⟩ = false ∧ W.cell? ⟨w.heap.size, 6, none⟩ = some (.bool a7) ∧ W.frozen? ⟨w.heap.size, 6, none⟩ = false ∧ W.cell? ⟨w.heap.size, 7, none⟩ = some (.string a8) ∧ W.frozen? ⟨w.heap.size, 7, none⟩ = false ∧ W.cell? ⟨w.heap.size, 8, none⟩ = some (.string a9) ∧ W.frozen? ⟨w.heap.size, 8, none⟩ = false :=
  ⟨(blk_cell h.2.1 0).trans rfl, blk_frozen h.2.1 0, (blk_cell h.2.1 1).trans rfl, blk_frozen h.2.1 1, (blk_cell h.2.1 2).trans rfl, blk_frozen h.2.1 2, (blk_cell h.2.1 3).trans rfl, blk_frozen h.2.1 3, (blk_cell h.2.1 4).trans rfl, blk_frozen h.2.1 4, (blk_cell h.2.1 5).trans rfl, blk_frozen h.2.1 5, (blk_cell h.2.1 6).trans rfl, blk_frozen h.2.1 6, (blk_cell h.2.1 7).trans rfl, blk_frozen h.2.1 7, (blk_cell h.2.1 8).trans rfl, blk_frozen h.2.1 8⟩
theorem So.zs {w W : World} {a1 a2 : ByteArray} {a3 : Bool} {a4 a5 : Int} {a6 : ByteArray} {a7 : Bool} {a8 a9 : ByteArray} (h : So w W a1 a2 a3 a4 a5 a6 a7 a8 a9) : W.cell? ⟨w.heap.size + 1, 0, none⟩ = some (.bool false) ∧ W.frozen? ⟨w.heap.size + 1, 0, none⟩ = false ∧ W.cell? ⟨w.heap.size + 1, 1, none⟩ = some (.int .i64 0) ∧ W.frozen? ⟨w.heap.size + 1, 1, none⟩ = false ∧ W.cell? ⟨w.heap.size + 1, 2, none⟩ = some (.string ⟨#[]⟩) ∧ W.frozen? ⟨w.heap.size + 1, 2, none⟩ = false ∧ W.cell? ⟨w.heap.size + 1, 3, none⟩ = some (.string ⟨#[]⟩) ∧ W.frozen? ⟨w.heap.size + 1, 3, none⟩ = false ∧ W.cell? ⟨w.heap.size + 1, 4, none⟩ = some (.bool false) ∧ W.frozen? ⟨w.heap.size + 1, 4, none⟩ = false ∧ W.cell? ⟨w.heap.size + 1, 5, none⟩ = some (.int .u32 0) ∧ W.frozen? ⟨w.heap.size + 1, 5, none⟩ = false ∧ W.cell? ⟨w.heap.size + 1, 6, none⟩ = some (.int .i64 0) ∧ W.frozen? ⟨w.heap.size + 1, 6, none⟩ = false :=
  ⟨(blk_cell h.2.2 0).trans rfl, blk_frozen h.2.2 0, (blk_cell h.2.2 1).trans rfl, blk_frozen h.2.2 1, (blk_cell h.2.2 2).trans rfl, blk_frozen h.2.2 2, (blk_cell h.2.2 3).trans rfl, blk_frozen h.2.2 3, (blk_cell h.2.2 4).trans rfl, blk_frozen h.2.2 4, (blk_cell h.2.2 5).trans rfl, blk_frozen h.2.2 5, (blk_cell h.2.2 6).trans rfl, blk_frozen h.2.2 6⟩
theorem So.put {w W : World} {a1 a2 : ByteArray} {a3 : Bool} {a4 a5 : Int} {a6 : ByteArray} {a7 : Bool} {a8 a9 : ByteArray} (h : So w W a1 a2 a3 a4 a5 a6 a7 a8 a9) (b1 b2 : ByteArray) (b3 : Bool) (b4 b5 : Int) (b6 : ByteArray) (b7 : Bool) (b8 b9 : ByteArray) : So w (setU W w.heap.size b1 b2 b3 b4 b5 b6 b7 b8 b9) b1 b2 b3 b4 b5 b6 b7 b8 b9 := by
  refine ⟨setU_below _ _ _ _ _ _ _ _ _ _ h.1 (Nat.le_refl _), setU_blk _ _ 28 _ _ _ _ _ _ _ _ _ _ _ _ _ _ _ _ _ _ h.2.1, ?_⟩
  unfold setU
  repeat (refine (Below.heap_setCell _ _ _ _ (by show w.heap.size + 1 ≠ w.heap.size; omega)).trans ?_)
  exact h.2.2
theorem of_end (w W : World) (tmps : Array Value) (o1 : Bool) (o2 : Int) (o3 o4 : ByteArray) (o5 : Bool) (o6 o7 : Int) (h4 : tmps.getD 4 undef = .pointer (some ⟨w.heap.size + 1, 0, none⟩)) (hb : Below w.heap.size w W) (hz : W.heap[w.heap.size + 1]? = some (.cells (orgCs o1 o2 o3 o4 o5 o6 o7) 35 (0, 0))) :
    bodyPost Tryd.prog Tryd.f12 (fun e w' => e = .returned (.agg #[.bool o1, .int .i64 o2, .string o3, .string o4, .bool o5, .int .u32 o6, .int .i64 o7]) ∧ Below w.heap.size w w') .ret { tmps := tmps, defers := [] } W := by
  refine bodyPost_ret (results_cell_row (P := Tryd.prog) (fn := Tryd.f12) (p := 4) (ty := 35) rfl tmps W (w.heap.size + 1) 35 _ (0, 0) _ h4 hz Tryd.underlying35 rfl (by kernel_rfl)) rfl ?_
  exact ⟨rfl, hb⟩
theorem net_size {a : ByteArray} (h : isNet a = true) : a.size ≤ maxLen := by
  have e : a.size = a.toList.length := by rw [ByteArray.toList_eq]; simp
  unfold isNet at h
  unfold maxLen
  rcases Bool.or_eq_true _ _ ▸ h with h | h
  · have h : a.toList = [104, 116, 116, 112] := by simpa using h
    rw [e, h]; decide
  · have h : a.toList = [104, 116, 116, 112, 115] := by simpa using h
    rw [e, h]; decide
theorem org_cs {W : World} {B : Nat} {t : TypeId} {o1 : Bool} {o2 : Int} {o3 o4 : ByteArray} {o5 : Bool} {o6 o7 : Int} (h : W.heap[B]? = some (.cells (orgCs o1 o2 o3 o4 o5 o6 o7) t (0, 0))) : W.cell? ⟨B, 0, none⟩ = some (.bool o1) ∧ W.frozen? ⟨B, 0, none⟩ = false ∧ W.cell? ⟨B, 1, none⟩ = some (.int .i64 o2) ∧ W.frozen? ⟨B, 1, none⟩ = false ∧ W.cell? ⟨B, 2, none⟩ = some (.string o3) ∧ W.frozen? ⟨B, 2, none⟩ = false ∧ W.cell? ⟨B, 3, none⟩ = some (.string o4) ∧ W.frozen? ⟨B, 3, none⟩ = false ∧ W.cell? ⟨B, 4, none⟩ = some (.bool o5) ∧ W.frozen? ⟨B, 4, none⟩ = false ∧ W.cell? ⟨B, 5, none⟩ = some (.int .u32 o6) ∧ W.frozen? ⟨B, 5, none⟩ = false ∧ W.cell? ⟨B, 6, none⟩ = some (.int .i64 o7) ∧ W.frozen? ⟨B, 6, none⟩ = false :=
  ⟨(blk_cell h 0).trans rfl, blk_frozen h 0, (blk_cell h 1).trans rfl, blk_frozen h 1, (blk_cell h 2).trans rfl, blk_frozen h 2, (blk_cell h 3).trans rfl, blk_frozen h 3, (blk_cell h 4).trans rfl, blk_frozen h 4, (blk_cell h 5).trans rfl, blk_frozen h 5, (blk_cell h 6).trans rfl, blk_frozen h 6⟩
theorem So.fin {w W : World} {a1 a2 : ByteArray} {a3 : Bool} {a4 a5 : Int} {a6 : ByteArray} {a7 : Bool} {a8 a9 : ByteArray} (h : So w W a1 a2 a3 a4 a5 a6 a7 a8 a9) (tmps : Array Value) (o1 : Bool) (o2 : Int) (o3 o4 : ByteArray) (o5 : Bool) (o6 o7 : Int) (h4 : tmps.getD 4 undef = .pointer (some ⟨w.heap.size + 1, 0, none⟩)) :
    bodyPost Tryd.prog Tryd.f12 (fun e w' => e = .returned (.agg #[.bool o1, .int .i64 o2, .string o3, .string o4, .bool o5, .int .u32 o6, .int .i64 o7]) ∧ Below w.heap.size w w') .ret { tmps := tmps, defers := [] } (setO W (w.heap.size + 1) o1 o2 o3 o4 o5 o6 o7) :=
  of_end w _ tmps o1 o2 o3 o4 o5 o6 o7 h4 (setO_below _ _ _ _ _ _ _ _ h.1 (by omega)) (setO_blk _ _ 35 _ _ _ _ _ _ _ _ _ _ _ _ _ _ h.2.2)
theorem So.far {w W : World} {a1 a2 : ByteArray} {a3 : Bool} {a4 a5 : Int} {a6 : ByteArray} {a7 : Bool} {a8 a9 : ByteArray} (h : So w W a1 a2 a3 a4 a5 a6 a7 a8 a9) (g i : Nat) (v : Value) (hg : w.heap.size + 1 < g) : So w (W.setCell ⟨g, i, none⟩ v) a1 a2 a3 a4 a5 a6 a7 a8 a9 :=
  ⟨below_set h.1 (by omega), (Below.heap_setCell _ _ _ _ (by show w.heap.size ≠ g; omega)).trans h.2.1, (Below.heap_setCell _ _ _ _ (by show w.heap.size + 1 ≠ g; omega)).trans h.2.2⟩
theorem So.lt {w W : World} {a1 a2 : ByteArray} {a3 : Bool} {a4 a5 : Int} {a6 : ByteArray} {a7 : Bool} {a8 a9 : ByteArray} (h : So w W a1 a2 a3 a4 a5 a6 a7 a8 a9) : w.heap.size + 1 < W.heap.size := blk_lt h.2.2
def ofNet (a1 a2 : ByteArray) (a3 : Bool) (a4 a5 : Int) (a6 : ByteArray) (a7 : Bool) (a8 a9 : ByteArray) (id : Int) : Option Org := if isNet a1 = true then some (false, 0, a1, a2, a3, a4, if a5 < 0 then ownOf a1.data.toList else a5) else some (true, id, ⟨#[]⟩, ⟨#[]⟩, false, 0, 0)
def origin_Of.f (a1 a2 : ByteArray) (a3 : Bool) (a4 a5 : Int) (a6 : ByteArray) (a7 : Bool) (a8 a9 : ByteArray) (id : Int) : Option Org :=
  (urlp_Inner.f a1 a2 a3 a4 a5 a6 a7 a8 a9).bind fun i => if i.2.2.2.2.2.2.2.2.2 = true then ofNet i.1 i.2.1 i.2.2.1 i.2.2.2.1 i.2.2.2.2.1 i.2.2.2.2.2.1 i.2.2.2.2.2.2.1 i.2.2.2.2.2.2.2.1 i.2.2.2.2.2.2.2.2.1 id else ofNet a1 a2 a3 a4 a5 a6 a7 a8 a9 id
set_option maxRecDepth 100000 in
set_option maxHeartbeats 4000000 in
theorem of_walk (a1 a2 : ByteArray) (a3 : Bool) (a4 a5 : Int) (a6 : ByteArray) (a7 : Bool) (a8 a9 : ByteArray) (id : Int) (r : Org) (w : World) (hG : Gw w) (h : origin_Of.f a1 a2 a3 a4 a5 a6 a7 a8 a9 id = some r) :
    Calls Tryd.prog 12 #[.agg #[.string a1, .string a2, .bool a3, .int .u32 a4, .int .i64 a5, .string a6, .bool a7, .string a8, .string a9], .int .i64 id] w fun e w' => e = .returned (.agg #[.bool r.1, .int .i64 r.2.1, .string r.2.2.1, .string r.2.2.2.1, .bool r.2.2.2.2.1, .int .u32 r.2.2.2.2.2.1, .int .i64 r.2.2.2.2.2.2]) ∧ Below w.heap.size w w' := by
  have hu28 := Tryd.underlying28
  have hu35 := Tryd.underlying35
  have hs0 : So w ((w.alloc (.cells #[.string a1, .string a2, .bool a3, .int .u32 a4, .int .i64 a5, .string a6, .bool a7, .string a8, .string a9] 28)).alloc (.cells #[.bool false, .int .i64 0, .string ⟨#[]⟩, .string ⟨#[]⟩, .bool false, .int .u32 0, .int .i64 0] 35)) a1 a2 a3 a4 a5 a6 a7 a8 a9 :=
    ⟨((Below.refl _ _).alloc (Nat.le_refl _) _).alloc (by simp) _, (Below.heap_alloc _ _ _ (by simp)).trans (blk_new w _), by have := blk_new (w.alloc (.cells #[.string a1, .string a2, .bool a3, .int .u32 a4, .int .i64 a5, .string a6, .bool a7, .string a8, .string a9] 28)) (.cells #[.bool false, .int .i64 0, .string ⟨#[]⟩, .string ⟨#[]⟩, .bool false, .int .u32 0, .int .i64 0] 35 (0, 0)); rwa [World.size_alloc] at this⟩
  have HS0 := Lib.hid hs0
  have HGW := Lib.hid (hG.to hs0.1)
  clear hs0 hG
  unfold origin_Of.f at h
  obtain ⟨⟨i1, i2, i3, i4, i5, i6, i7, i8, i9, is⟩, hi, h2⟩ := Option.bind_eq_some_iff.1 h
  have HI := Lib.hid hi
  have HH := Lib.hid h2
  clear h hi h2
  go_enter Tryd.func12, Tryd.ntmps12
  go_upto_if 13 with (go_at_call 33; refine (urlp_Inner.calls a1 a2 a3 a4 a5 a6 a7 a8 a9 i1 i2 i3 i4 i5 i6 i7 i8 i9 is _ HGW.out HI.out).mono ?_; rintro e w3 ⟨rfl, hb⟩; have HS3 := Lib.hid (HS0.out.below hb); clear hb)
  go_cut [6] (fun v wx => ∃ (u1 u2 : ByteArray) (u3 : Bool) (u4 u5 : Int) (u6 : ByteArray) (u7 : Bool) (u8 u9 : ByteArray), So w wx u1 u2 u3 u4 u5 u6 u7 u8 u9 ∧ ofNet u1 u2 u3 u4 u5 u6 u7 u8 u9 id = some r)
  case first =>
    cases is
    · go_wp2_with fail
      go_meet
      exact ⟨a1, a2, a3, a4, a5, a6, a7, a8, a9, HS3.out.alloc _, HH.out⟩
    · have HS4 := Lib.hid (HS3.out.alloc (.cells #[.string i1, .string i2, .bool i3, .int .u32 i4, .int .i64 i5, .string i6, .bool i7, .string i8, .string i9] 28))
      obtain ⟨y0, y0f, y1, y1f, y2, y2f, y3, y3f, y4, y4f, y5, y5f, y6, y6f, y7, y7f, y8, y8f⟩ := HS4.out.us
      go_wp2_with fail
      go_meet
      exact ⟨i1, i2, i3, i4, i5, i6, i7, i8, i9, HS4.out.put i1 i2 i3 i4 i5 i6 i7 i8 i9, HH.out⟩
  obtain ⟨u1, u2, u3, u4, u5, u6, u7, u8, u9, hso, hn⟩ := hcut
  have HSO := Lib.hid hso
  have HN := Lib.hid hn
  clear hso hn HS3 HS0 HI HH
  obtain ⟨y0, y0f, y1, y1f, y2, y2f, y3, y3f, y4, y4f, y5, y5f, y6, y6f, y7, y7f, y8, y8f⟩ := HSO.out.us
  unfold ofNet at HN
  by_cases nn : isNet u1 = true
  · have hR := HN.out
    rw [if_pos nn] at hR
    obtain rfl := Option.some.inj hR
    clear hR HN
    by_cases hp : u5 < 0
    · go_upto_region 8 with (go_at_call 10; refine (M1.urlp_Net.calls u1 u2 u3 u4 u5 u6 u7 u8 u9 _ _ (net_true nn)).mono ?_; rintro e w5 ⟨rfl, hb⟩; have HS5 := Lib.hid (HSO.out.below hb); clear hb; clear y0 y0f y1 y1f y2 y2f y3 y3f y4 y4f y5 y5f y6 y6f y7 y7f y8 y8f; obtain ⟨y0, y0f, y1, y1f, y2, y2f, y3, y3f, y4, y4f, y5, y5f, y6, y6f, y7, y7f, y8, y8f⟩ := HS5.out.us)
      have HS6 := Lib.hid (HS5.out.alloc (.cells #[.bool false, .int .i64 0, .string u1, .string u2, .bool u3, .int .u32 u4, .int .i64 u5] 35))
      have HLT := Lib.hid HS5.out.lt
      have HO6 : Hid ((w5.alloc (.cells #[.bool false, .int .i64 0, .string u1, .string u2, .bool u3, .int .u32 u4, .int .i64 u5] 35)).heap[w5.heap.size]? = some (.cells (orgCs false 0 u1 u2 u3 u4 u5) 35 (0, 0))) := blk_new w5 _
      have hsz : (w5.alloc (.cells #[.bool false, .int .i64 0, .string u1, .string u2, .bool u3, .int .u32 u4, .int .i64 u5] 35)).drew.heap.size = w5.heap.size + 1 := by simp
      clear y0 y0f y1 y1f y2 y2f y3 y3f y4 y4f y5 y5f y6 y6f y7 y7f y8 y8f
      go_cut [6] (fun _ wx => So w wx u1 u2 u3 u4 u5 u6 u7 u8 u9 ∧ wx.heap[w5.heap.size]? = some (.cells (orgCs false 0 u1 u2 u3 u4 (ownOf u1.data.toList)) 35 (0, 0)))
      case first =>
        go_region_with (first | (go_at_call 35; refine (origin_own.calls _).mono ?_; rintro e w7 ⟨rfl, hm, hb⟩; have HS7 := Lib.hid (HS6.out.drew.below hb); have HO7 := Lib.hid ((hb.block w5.heap.size (by rw [hsz]; omega)).trans HO6.out); clear hb; rw [hsz] at hm; have hl := own_look w7 _ hm u1 (net_size nn); clear hm; obtain ⟨z0, z0f, z1, z1f, z2, z2f, z3, z3f, z4, z4f, z5, z5f, z6, z6f⟩ := org_cs HO7.out))
        all_goals (go_wp2_with fail; go_meet; exact ⟨HS7.out.far _ _ _ HLT.out, blk_put HO7.out 6 _ rfl⟩)
      obtain ⟨hso8, hob8⟩ := hcut
      have HS8 := Lib.hid hso8
      have HO8 := Lib.hid hob8
      clear hso8 hob8
      obtain ⟨z0, z0f, z1, z1f, z2, z2f, z3, z3f, z4, z4f, z5, z5f, z6, z6f⟩ := HS8.out.zs
      obtain ⟨y0, y0f, y1, y1f, y2, y2f, y3, y3f, y4, y4f, y5, y5f, y6, y6f⟩ := org_cs HO8.out
      go_wp2_with fail
      exact HS8.out.fin _ false 0 u1 u2 u3 u4 (ownOf u1.data.toList) rfl
    · go_wp2_with (go_at_call 10; refine (M1.urlp_Net.calls u1 u2 u3 u4 u5 u6 u7 u8 u9 _ _ (net_true nn)).mono ?_; rintro e w5 ⟨rfl, hb⟩; have HS5 := Lib.hid (HSO.out.below hb); clear hb; clear y0 y0f y1 y1f y2 y2f y3 y3f y4 y4f y5 y5f y6 y6f y7 y7f y8 y8f; obtain ⟨y0, y0f, y1, y1f, y2, y2f, y3, y3f, y4, y4f, y5, y5f, y6, y6f, y7, y7f, y8, y8f⟩ := HS5.out.us; have HS6 := Lib.hid (HS5.out.alloc (.cells #[.bool false, .int .i64 0, .string u1, .string u2, .bool u3, .int .u32 u4, .int .i64 u5] 35)); obtain ⟨z0, z0f, z1, z1f, z2, z2f, z3, z3f, z4, z4f, z5, z5f, z6, z6f⟩ := HS6.out.zs)
      exact HS6.out.fin _ false 0 u1 u2 u3 u4 u5 rfl
  · have hR := HN.out
    rw [if_neg nn] at hR
    obtain rfl := Option.some.inj hR
    clear hR HN
    go_wp2_with (go_at_call 10; refine (M1.urlp_Net.calls u1 u2 u3 u4 u5 u6 u7 u8 u9 _ _ (net_false nn)).mono ?_; rintro e w5 ⟨rfl, hb⟩; have HS5 := Lib.hid (HSO.out.below hb); clear hb; obtain ⟨z0, z0f, z1, z1f, z2, z2f, z3, z3f, z4, z4f, z5, z5f, z6, z6f⟩ := HS5.out.zs)
    exact HS5.out.fin _ true id ⟨#[]⟩ ⟨#[]⟩ false 0 0 rfl
theorem origin_Of.calls (a0_0 a0_1 : ByteArray) (a0_2 : Bool) (a0_3 a0_4 : Int) (a0_5 : ByteArray) (a0_6 : Bool) (a0_7 a0_8 : ByteArray) (a1 : Int) (r1 : Bool) (r2 : Int) (r3 r4 : ByteArray) (r5 : Bool) (r6 r7 : Int) (w : World) (hG : Gw w) (h : origin_Of.f a0_0 a0_1 a0_2 a0_3 a0_4 a0_5 a0_6 a0_7 a0_8 a1 = some (r1, r2, r3, r4, r5, r6, r7)) :
    Calls Tryd.prog 12 #[.agg #[.string a0_0, .string a0_1, .bool a0_2, .int .u32 a0_3, .int .i64 a0_4, .string a0_5, .bool a0_6, .string a0_7, .string a0_8], .int .i64 a1] w fun e w' => e = .returned (.agg #[.bool r1, .int .i64 r2, .string r3, .string r4, .bool r5, .int .u32 r6, .int .i64 r7]) ∧ Below w.heap.size w w' :=
  of_walk a0_0 a0_1 a0_2 a0_3 a0_4 a0_5 a0_6 a0_7 a0_8 a1 _ w hG h
end Go.Proofs.YtgmacggbhcodjaaDoor.Q

