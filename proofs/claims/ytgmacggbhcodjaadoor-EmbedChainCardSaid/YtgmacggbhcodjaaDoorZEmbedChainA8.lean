/- A part of the claim EmbedChain: A8. -/
import Derived.Test.YtgmacggbhcodjaaDoorZEmbedChainA7
import Derived.Test.YtgmacggbhcodjaaDoorZEmbedChainM1a
import Derived.Test.YtgmacggbhcodjaaDoorZEmbedChainM1b
import Derived.Test.YtgmacggbhcodjaaDoorZEmbedChainL2
import Derived.Deep.DeepCutAuto
import Derived.Deep.CutBlock
import Derived.Deep.RegionWith
namespace Go.Proofs.YtgmacggbhcodjaaDoor.Q
set_option linter.unusedVariables false
set_option linter.unusedSimpArgs false
open Go.RowKit Go.Proofs.YtgmacggbhcodjaaDoorW.PrintWords
abbrev URLe := ByteArray × ByteArray × Bool × Int × Int × ByteArray × Bool × ByteArray × ByteArray × Int
def badU (e : Int) : URLe := (⟨#[]⟩, ⟨#[]⟩, false, 0, 0, ⟨#[]⟩, false, ⟨#[]⟩, ⟨#[]⟩, e)
def okU (sch rest : ByteArray) : URLe := (sch, ⟨#[]⟩, false, 0, -1, ⟨#[]⟩, false, ⟨#[]⟩, rest, 0)
def trimL (l : List UInt8) : List UInt8 := l.dropWhile fun b => decide (b.toNat ≤ 32)
def trimR (l : List UInt8) : List UInt8 := (l.reverse.dropWhile fun b => decide (b.toNat ≤ 32)).reverse
def trimB (s : ByteArray) : ByteArray := ⟨(trimR (trimL s.data.toList)).toArray⟩
abbrev URLi := ByteArray × ByteArray × Bool × Int × Int × ByteArray × Bool × ByteArray × ByteArray × Bool
def urlCs (r1 r2 : ByteArray) (r3 : Bool) (r4 r5 : Int) (r6 : ByteArray) (r7 : Bool) (r8 r9 : ByteArray) : Array Value := #[.string r1, .string r2, .bool r3, .int .u32 r4, .int .i64 r5, .string r6, .bool r7, .string r8, .string r9]
def okB (b : UInt8) : Bool := decide (33 ≤ b.toNat) && decide (b.toNat ≤ 126)
def isNet (sch : ByteArray) : Bool := (sch.toList == [104, 116, 116, 112]) || (sch.toList == [104, 116, 116, 112, 115])
def badI : URLi := (⟨#[]⟩, ⟨#[]⟩, false, 0, 0, ⟨#[]⟩, false, ⟨#[]⟩, ⟨#[]⟩, false)
def innerF (pf : ByteArray → Option URLe) (sch rest : ByteArray) : Option URLi :=
  if sch.toList = [98, 108, 111, 98] then (pf rest).bind fun r =>
    if r.2.2.2.2.2.2.2.2.2 = 0 then (if isNet r.1 = true then some (r.1, r.2.1, r.2.2.1, r.2.2.2.1, r.2.2.2.2.1, r.2.2.2.2.2.1, r.2.2.2.2.2.2.1, r.2.2.2.2.2.2.2.1, r.2.2.2.2.2.2.2.2.1, true) else some badI) else some badI
  else some badI
def parseRest (pf : ByteArray → Option URLe) (k : Nat) (sch rest : ByteArray) : Option URLe :=
  if rest.data.toList.all okB = true then
    (if isNet sch = true then M1.urlp_web.f k sch ⟨#[]⟩ false 0 (-1) ⟨#[]⟩ false ⟨#[]⟩ ⟨#[]⟩ rest (portOf sch.data.toList)
     else if sch.toList = [97, 98, 111, 117, 116] then some (if rest.toList = [98, 108, 97, 110, 107] ∨ rest.toList = [115, 114, 99, 100, 111, 99] then okU sch rest else badU 30)
     else if sch.toList = [98, 108, 111, 98] then (innerF pf ⟨#[98, 108, 111, 98]⟩ rest).bind fun q => if q.2.2.2.2.2.2.2.2.2 = true then some (okU sch rest) else (L2.strings_HasPrefix.f rest ⟨#[110, 117, 108, 108, 47]⟩).bind fun b => some (if b = true then okU sch rest else badU 30)
     else some (okU sch rest))
  else some (badU 30)
def parseF (pf : ByteArray → Option URLe) (k : Nat) (s : ByteArray) : Option URLe :=
  if s.size ≤ 4611686018427387904 then
    (strings_Cut.f (trimB s) ⟨#[58]⟩).bind fun c => (octet_Lower.f c.1).bind fun sch =>
      if 2000 < (trimB s).size then some (badU 30)
      else if c.2.2 = true then
        (M1.urlp_scheme.f k sch).bind fun ok => if ok = true then (if knownS sch.data.toList = true then (strings_Cut.f c.2.1 ⟨#[35]⟩).bind fun d => parseRest pf k sch d.1 else some (badU 31)) else some (badU 30)
      else some (badU 30)
  else none
def setU (W : World) (B : Nat) (r1 r2 : ByteArray) (r3 : Bool) (r4 r5 : Int) (r6 : ByteArray) (r7 : Bool) (r8 r9 : ByteArray) : World :=
  ((((((((W.setCell ⟨B, 0, none⟩ (.string r1)).setCell ⟨B, 1, none⟩ (.string r2)).setCell ⟨B, 2, none⟩ (.bool r3)).setCell ⟨B, 3, none⟩ (.int .u32 r4)).setCell ⟨B, 4, none⟩ (.int .i64 r5)).setCell ⟨B, 5, none⟩ (.string r6)).setCell ⟨B, 6, none⟩ (.bool r7)).setCell ⟨B, 7, none⟩ (.string r8)).setCell ⟨B, 8, none⟩ (.string r9)
theorem setU_blk (W : World) (B : Nat) (t : TypeId) (o1 o2 : ByteArray) (o3 : Bool) (o4 o5 : Int) (o6 : ByteArray) (o7 : Bool) (o8 o9 : ByteArray) (r1 r2 : ByteArray) (r3 : Bool) (r4 r5 : Int) (r6 : ByteArray) (r7 : Bool) (r8 r9 : ByteArray)
    (h : W.heap[B]? = some (.cells (urlCs o1 o2 o3 o4 o5 o6 o7 o8 o9) t (0, 0))) : (setU W B r1 r2 r3 r4 r5 r6 r7 r8 r9).heap[B]? = some (.cells (urlCs r1 r2 r3 r4 r5 r6 r7 r8 r9) t (0, 0)) := by
  have h0 := blk_put h 0 (.string r1) rfl
  have h1 := blk_put h0 1 (.string r2) rfl
  have h2 := blk_put h1 2 (.bool r3) rfl
  have h3 := blk_put h2 3 (.int .u32 r4) rfl
  have h4 := blk_put h3 4 (.int .i64 r5) rfl
  have h5 := blk_put h4 5 (.string r6) rfl
  have h6 := blk_put h5 6 (.bool r7) rfl
  have h7 := blk_put h6 7 (.string r8) rfl
  have h8 := blk_put h7 8 (.string r9) rfl
  unfold setU
  rw [h8]
  simp [urlCs]
theorem setU_below {w W : World} (B : Nat) (r1 r2 : ByteArray) (r3 : Bool) (r4 r5 : Int) (r6 : ByteArray) (r7 : Bool) (r8 r9 : ByteArray) (h : Below w.heap.size w W) (hB : w.heap.size ≤ B) : Below w.heap.size w (setU W B r1 r2 r3 r4 r5 r6 r7 r8 r9) := by
  unfold setU
  repeat (refine below_set ?_ hB)
  exact h
def zURL : Array Value := urlCs ⟨#[]⟩ ⟨#[]⟩ false 0 0 ⟨#[]⟩ false ⟨#[]⟩ ⟨#[]⟩
def uURL (sch : ByteArray) : Array Value := urlCs sch ⟨#[]⟩ false 0 (-1) ⟨#[]⟩ false ⟨#[]⟩ ⟨#[]⟩
theorem bytes_cons (p : ByteArray) (h : ¬ p.size = 0) : ∃ c l, p = ⟨(c :: l).toArray⟩ := by
  obtain ⟨⟨l⟩⟩ := p
  cases l with
  | nil => exact absurd rfl h
  | cons c l => exact ⟨c, l, rfl⟩
theorem bytes_snoc (p : ByteArray) (h : ¬ p.size = 0) : ∃ c l, p = ⟨(l ++ [c]).toArray⟩ := by
  obtain ⟨⟨l⟩⟩ := p
  have hl : l ≠ [] := fun e => h (by subst e; rfl)
  exact ⟨l.getLast hl, l.dropLast, by rw [List.dropLast_concat_getLast hl]⟩
theorem trimL_size (l : List UInt8) : (trimL l).length ≤ l.length := (List.dropWhile_sublist _).length_le
theorem trimL_stop (p : ByteArray) (hz : ¬ p.size = 0) (h : ¬ ((p[0]'(by omega)).toNat : Int) ≤ 32) : trimL p.data.toList = p.data.toList := by
  obtain ⟨c, l, rfl⟩ := bytes_cons p hz
  have h' : ¬ (c.toNat : Int) ≤ 32 := h
  simp [trimL, List.dropWhile_cons]; omega
theorem trimL_step (p : ByteArray) (hz : ¬ p.size = 0) (h : ((p[0]'(by omega)).toNat : Int) ≤ 32) : trimL (p.extract 1 p.size).data.toList = trimL p.data.toList := by
  obtain ⟨c, l, rfl⟩ := bytes_cons p hz
  have h' : (c.toNat : Int) ≤ 32 := h
  have h2 : c.toNat ≤ 32 := by omega
  have e : ((⟨(c :: l).toArray⟩ : ByteArray).extract 1 (⟨(c :: l).toArray⟩ : ByteArray).size).data.toList = l := by
    simp [ByteArray.data_extract]
    show List.take l.length l = l
    simp
  rw [e]
  simp [trimL, List.dropWhile_cons, h2]
theorem trimR_stop (p : ByteArray) (hz : ¬ p.size = 0) (h : ¬ ((p[p.size - 1]'(by omega)).toNat : Int) ≤ 32) : trimR p.data.toList = p.data.toList := by
  obtain ⟨c, l, rfl⟩ := bytes_snoc p hz
  have hc : ((⟨(l ++ [c]).toArray⟩ : ByteArray)[(⟨(l ++ [c]).toArray⟩ : ByteArray).size - 1]'(by omega)) = c := by
    show (l ++ [c])[(l ++ [c]).length - 1]'(by simp) = c
    simp
  rw [hc] at h
  have h3 : ¬ c.toNat ≤ 32 := by omega
  simp [trimR, List.dropWhile_cons, h3]
theorem trimR_step (p : ByteArray) (hz : ¬ p.size = 0) (h : ((p[p.size - 1]'(by omega)).toNat : Int) ≤ 32) : trimR (p.extract 0 (p.size - 1)).data.toList = trimR p.data.toList := by
  obtain ⟨c, l, rfl⟩ := bytes_snoc p hz
  have hc : ((⟨(l ++ [c]).toArray⟩ : ByteArray)[(⟨(l ++ [c]).toArray⟩ : ByteArray).size - 1]'(by omega)) = c := by
    show (l ++ [c])[(l ++ [c]).length - 1]'(by simp) = c
    simp
  rw [hc] at h
  have h2 : c.toNat ≤ 32 := by omega
  have e : ((⟨(l ++ [c]).toArray⟩ : ByteArray).extract 0 ((⟨(l ++ [c]).toArray⟩ : ByteArray).size - 1)).data.toList = l := by
    simp [ByteArray.data_extract]
    show List.take ((l ++ [c]).length - 1) (l ++ [c]) = l
    simp
  rw [e]
  simp [trimR, List.dropWhile_cons, h2]
theorem of_toList {p : ByteArray} {l : List UInt8} (h : p.data.toList = l) : p = ⟨l.toArray⟩ := by
  subst h; obtain ⟨⟨l⟩⟩ := p; rfl
theorem zero3 (w : World) : (zeroValue 3).run Tryd.prog w = .ok (.int .i64 0) w := by simp [go_sem]
theorem ports_look (w : World) (b : Nat) (h : w.ownsMap Tryd.prog 9 (plainElem (H := Value) Tryd.prog 3) b 5 portsD) (s : ByteArray) (hs : s.size ≤ maxLen) :
    (Instr.lookup 72 (.map (some b)) (.string s) true).run Tryd.prog w = .ok (.tuple #[.int .i64 (portOf s.data.toList), .bool (knownS s.data.toList)]) w := by
  obtain ⟨v, ps, h1, h2⟩ := h.look_ok (t := 72) (e := 3) (Maps.string_keyed Tryd.underlying9) Tryd.underlying72 (zero3 w) (plainElem_int Tryd.underlying3 (a := 0) (by decide)) (portsK s hs)
  obtain ⟨c, rfl, hc, hw⟩ := plainElem_int_inv Tryd.underlying3 h2
  have e := (Prod.mk.inj hc).1.symm.trans (portsD_at s.data.toList)
  have e2 : c = portOf s.data.toList := congrArg (fun d : DataW Value => match d with | .lit (.int _ a) => a | _ => 0) e
  rw [h1, portsD_has, e2]
theorem ports_cell (b : Nat) (wu w3 : World) (g : Nat) (sch : ByteArray) (h : Below wu.heap.size wu w3) (hz : b < g ∧ wu.heap.size = g + 1) (hu : wu.heap[g]? = some (.cells (uURL sch) 28 (0, 0))) : w3.cell? ⟨g, 0, none⟩ = some (.string sch) := by
  have hh : w3.heap[g]? = some (.cells (uURL sch) 28 (0, 0)) := (h.block g (by omega)).trans hu
  simp [World.cell?, hh, uURL, urlCs]
theorem low_size {a r : ByteArray} (h : octet_Lower.f a = some r) : r.size = a.size ∧ a.size ≤ 4611686018427387904 := by
  unfold octet_Lower.f at h
  split at h
  · obtain rfl := Option.some.inj h
    exact ⟨by show (List.map lowB a.data.toList).length = _; simp, by assumption⟩
  · exact absurd h (by simp)
theorem parse_end (w W : World) (B : Nat) (tmps : Array Value) (r : URLe) (h2 : tmps.getD 2 undef = .pointer (some ⟨B, 0, none⟩)) (h3 : tmps.getD 3 undef = .int .i64 r.2.2.2.2.2.2.2.2.2) (hB : w.heap.size ≤ B) (hb : Below w.heap.size w W)
    (hz : W.heap[B]? = some (.cells (urlCs r.1 r.2.1 r.2.2.1 r.2.2.2.1 r.2.2.2.2.1 r.2.2.2.2.2.1 r.2.2.2.2.2.2.1 r.2.2.2.2.2.2.2.1 r.2.2.2.2.2.2.2.2.1) 28 (0, 0))) :
    bodyPost Tryd.prog Tryd.f9 (fun e w' => e = .returned (.tuple #[.agg (urlCs r.1 r.2.1 r.2.2.1 r.2.2.2.1 r.2.2.2.2.1 r.2.2.2.2.2.1 r.2.2.2.2.2.2.1 r.2.2.2.2.2.2.2.1 r.2.2.2.2.2.2.2.2.1), .int .i64 r.2.2.2.2.2.2.2.2.2]) ∧ Below w.heap.size w w') .ret { tmps := tmps, defers := [] } W := by
  refine bodyPost_ret (results_ct (P := Tryd.prog) (fn := Tryd.f9) (p := 2) (u := 3) (ty := 28) rfl tmps W B 28 _ (0, 0) _ h2 hz Tryd.underlying28 rfl (by kernel_rfl)) rfl ?_
  rw [h3]
  exact ⟨rfl, hb⟩
def St (w W : World) (gU : Nat) (sch : ByteArray) : Prop := Below w.heap.size w W ∧ W.heap[gU]? = some (.cells (uURL sch) 28 (0, 0)) ∧ W.heap[w.heap.size]? = some (.cells zURL 28 (0, 0))
theorem St.drawn {w W W' : World} {gU : Nat} {sch : ByteArray} (h : St w W gU sch) (hd : Drawn0 W W') : St w W' gU sch := by
  obtain ⟨⟨n, rfl⟩⟩ := hd
  exact ⟨pw_below_drewN h.1 n, h.2.1, h.2.2⟩
theorem St.below {w W W' : World} {gU : Nat} {sch : ByteArray} (h : St w W gU sch) (hd : Below W.heap.size W W') : St w W' gU sch :=
  ⟨below_step h.1 hd, blk_below h.2.1 hd, blk_below h.2.2 hd⟩
theorem St.alloc {w W : World} {gU : Nat} {sch : ByteArray} (h : St w W gU sch) (o : Obj) : St w (W.alloc o) gU sch := h.below ((Below.refl _ _).alloc (Nat.le_refl _) o)
theorem St.zs {w W : World} {gU : Nat} {sch : ByteArray} (h : St w W gU sch) : W.cell? ⟨w.heap.size, 0, none⟩ = some (.string ⟨#[]⟩) ∧ W.frozen? ⟨w.heap.size, 0, none⟩ = false ∧ W.cell? ⟨w.heap.size, 1, none⟩ = some (.string ⟨#[]⟩) ∧ W.frozen? ⟨w.heap.size, 1, none⟩ = false ∧ W.cell? ⟨w.heap.size, 2, none⟩ = some (.bool false) ∧ W.frozen? ⟨w.heap.size, 2, none⟩ = false ∧ W.cell? ⟨w.heap.size, 3, none⟩ = some (.int .u32 0) ∧ W.frozen? ⟨w.heap.size, 3, none⟩ = false ∧ W.cell? ⟨w.heap.size, 4, none⟩ = some (.int .i64 0) ∧ W.frozen? ⟨w.heap.size, 4, none⟩ = false ∧ W.cell? ⟨w.heap.size, 5, none⟩ = some (.string ⟨#[]⟩) ∧ W.frozen? ⟨w.heap.size, 5, none⟩ = false ∧ W.cell? ⟨w.heap.size, 6, none⟩ = some (.bool false) ∧ W.frozen? ⟨w.heap.size, 6, none⟩ = false ∧ W.cell? ⟨w.heap.size, 7, none⟩ = some (.string ⟨#[]⟩) ∧ W.frozen? ⟨w.heap.size, 7, none⟩ = false ∧ W.cell? ⟨w.heap.size, 8, none⟩ = some (.string ⟨#[]⟩) ∧ W.frozen? ⟨w.heap.size, 8, none⟩ = false :=
  ⟨(blk_cell h.2.2 0).trans rfl, blk_frozen h.2.2 0, (blk_cell h.2.2 1).trans rfl, blk_frozen h.2.2 1, (blk_cell h.2.2 2).trans rfl, blk_frozen h.2.2 2, (blk_cell h.2.2 3).trans rfl, blk_frozen h.2.2 3, (blk_cell h.2.2 4).trans rfl, blk_frozen h.2.2 4, (blk_cell h.2.2 5).trans rfl, blk_frozen h.2.2 5, (blk_cell h.2.2 6).trans rfl, blk_frozen h.2.2 6, (blk_cell h.2.2 7).trans rfl, blk_frozen h.2.2 7, (blk_cell h.2.2 8).trans rfl, blk_frozen h.2.2 8⟩
theorem St.us {w W : World} {gU : Nat} {sch : ByteArray} (h : St w W gU sch) : W.cell? ⟨gU, 0, none⟩ = some (.string sch) ∧ W.frozen? ⟨gU, 0, none⟩ = false ∧ W.cell? ⟨gU, 1, none⟩ = some (.string ⟨#[]⟩) ∧ W.frozen? ⟨gU, 1, none⟩ = false ∧ W.cell? ⟨gU, 2, none⟩ = some (.bool false) ∧ W.frozen? ⟨gU, 2, none⟩ = false ∧ W.cell? ⟨gU, 3, none⟩ = some (.int .u32 0) ∧ W.frozen? ⟨gU, 3, none⟩ = false ∧ W.cell? ⟨gU, 4, none⟩ = some (.int .i64 (-1)) ∧ W.frozen? ⟨gU, 4, none⟩ = false ∧ W.cell? ⟨gU, 5, none⟩ = some (.string ⟨#[]⟩) ∧ W.frozen? ⟨gU, 5, none⟩ = false ∧ W.cell? ⟨gU, 6, none⟩ = some (.bool false) ∧ W.frozen? ⟨gU, 6, none⟩ = false ∧ W.cell? ⟨gU, 7, none⟩ = some (.string ⟨#[]⟩) ∧ W.frozen? ⟨gU, 7, none⟩ = false ∧ W.cell? ⟨gU, 8, none⟩ = some (.string ⟨#[]⟩) ∧ W.frozen? ⟨gU, 8, none⟩ = false :=
  ⟨(blk_cell h.2.1 0).trans rfl, blk_frozen h.2.1 0, (blk_cell h.2.1 1).trans rfl, blk_frozen h.2.1 1, (blk_cell h.2.1 2).trans rfl, blk_frozen h.2.1 2, (blk_cell h.2.1 3).trans rfl, blk_frozen h.2.1 3, (blk_cell h.2.1 4).trans rfl, blk_frozen h.2.1 4, (blk_cell h.2.1 5).trans rfl, blk_frozen h.2.1 5, (blk_cell h.2.1 6).trans rfl, blk_frozen h.2.1 6, (blk_cell h.2.1 7).trans rfl, blk_frozen h.2.1 7, (blk_cell h.2.1 8).trans rfl, blk_frozen h.2.1 8⟩
theorem St.fin {w W : World} {gU : Nat} {sch : ByteArray} (h : St w W gU sch) (tmps : Array Value) (r : URLe) (h2 : tmps.getD 2 undef = .pointer (some ⟨w.heap.size, 0, none⟩)) (h3 : tmps.getD 3 undef = .int .i64 r.2.2.2.2.2.2.2.2.2) :
    bodyPost Tryd.prog Tryd.f9 (fun e w' => e = .returned (.tuple #[.agg (urlCs r.1 r.2.1 r.2.2.1 r.2.2.2.1 r.2.2.2.2.1 r.2.2.2.2.2.1 r.2.2.2.2.2.2.1 r.2.2.2.2.2.2.2.1 r.2.2.2.2.2.2.2.2.1), .int .i64 r.2.2.2.2.2.2.2.2.2]) ∧ Below w.heap.size w w') .ret { tmps := tmps, defers := [] } (setU W w.heap.size r.1 r.2.1 r.2.2.1 r.2.2.2.1 r.2.2.2.2.1 r.2.2.2.2.2.1 r.2.2.2.2.2.2.1 r.2.2.2.2.2.2.2.1 r.2.2.2.2.2.2.2.2.1) :=
  parse_end w _ w.heap.size tmps r h2 h3 (Nat.le_refl _) (setU_below _ _ _ _ _ _ _ _ _ _ h.1 (Nat.le_refl _)) (setU_blk _ _ 28 _ _ _ _ _ _ _ _ _ _ _ _ _ _ _ _ _ _ h.2.2)
theorem all_getD (b : ByteArray) (h : ∀ j, j < b.size → okB (b.data.toList.getD j 0) = true) : b.data.toList.all okB = true := by
  rw [List.all_eq_true]
  intro x hx
  obtain ⟨j, hj, rfl⟩ := List.mem_iff_getElem.1 hx
  have := h j (by simpa using hj)
  rwa [List.getD_eq_getElem?_getD, List.getElem?_eq_getElem hj] at this
theorem getD_byte (b : ByteArray) (n : Nat) (h : n < b.size) : b.data.toList.getD n 0 = b[n]'h := by
  have h2 : n < b.data.toList.length := by simpa using h
  rw [List.getD_eq_getElem?_getD, List.getElem?_eq_getElem h2]
  rfl
theorem bad_rest (pf : ByteArray → Option URLe) (k : Nat) (sch rr : ByteArray) (r : URLe) (n : Nat) (hn : n < rr.size) (hb : okB (rr[n]'hn) = false) (h : parseRest pf k sch rr = some r) : badU 30 = r := by
  have : ¬ rr.data.toList.all okB = true := by
    rw [List.all_eq_true]
    intro hc
    have := hc (rr[n]'hn) (by show rr.data.toList[n]'(by simpa using hn) ∈ _; exact List.getElem_mem _)
    rw [hb] at this; exact absurd this (by simp)
  unfold parseRest at h
  rw [if_neg this] at h
  exact Option.some.inj h
theorem okB_lo (b : UInt8) (h : (b.toNat : Int) < 33) : okB b = false := by simp [okB]; omega
theorem okB_hi (b : UInt8) (h : (b.toNat : Int) > 126) : okB b = false := by simp [okB]; omega
theorem okB_ok (b : UInt8) (h : ¬ (b.toNat : Int) < 33) (h2 : ¬ (b.toNat : Int) > 126) : okB b = true := by simp [okB]; omega
theorem St.fin2 {w W : World} {gU : Nat} {sch : ByteArray} (h : St w W gU sch) (hlt : w.heap.size < gU) (x : Value) (tmps : Array Value) (r : URLe) (h2 : tmps.getD 2 undef = .pointer (some ⟨w.heap.size, 0, none⟩)) (h3 : tmps.getD 3 undef = .int .i64 r.2.2.2.2.2.2.2.2.2) :
    bodyPost Tryd.prog Tryd.f9 (fun e w' => e = .returned (.tuple #[.agg (urlCs r.1 r.2.1 r.2.2.1 r.2.2.2.1 r.2.2.2.2.1 r.2.2.2.2.2.1 r.2.2.2.2.2.2.1 r.2.2.2.2.2.2.2.1 r.2.2.2.2.2.2.2.2.1), .int .i64 r.2.2.2.2.2.2.2.2.2]) ∧ Below w.heap.size w w') .ret { tmps := tmps, defers := [] } (setU (W.setCell ⟨gU, 8, none⟩ x) w.heap.size r.1 r.2.1 r.2.2.1 r.2.2.2.1 r.2.2.2.2.1 r.2.2.2.2.2.1 r.2.2.2.2.2.2.1 r.2.2.2.2.2.2.2.1 r.2.2.2.2.2.2.2.2.1) :=
  parse_end w _ w.heap.size tmps r h2 h3 (Nat.le_refl _) (setU_below _ _ _ _ _ _ _ _ _ _ (below_set h.1 (by omega)) (Nat.le_refl _)) (setU_blk _ _ 28 _ _ _ _ _ _ _ _ _ _ _ _ _ _ _ _ _ _ ((Below.heap_setCell _ _ _ _ (by show w.heap.size ≠ gU; omega)).trans h.2.2))
theorem cut_size {a b x y : ByteArray} {z : Bool} (h : strings_Cut.f a b = some (x, y, z)) : x.size ≤ 4611686018427387904 := by
  unfold strings_Cut.f at h
  split at h
  · rename_i hc
    have hh := hc.2
    split at h
    · have e := congrArg (fun t => t.1.size) (Option.some.inj h)
      simp only at e
      rw [← e, ByteArray.size_extract]
      omega
    · have e := congrArg (fun t => t.1.size) (Option.some.inj h)
      simp only at e
      omega
  · exact absurd h (by simp)
theorem ext_all (b : ByteArray) (n : Nat) (hn : n < b.size) (hb : okB (b[n]'hn) = true) (h : ∀ j, j < n → okB (b.data.toList.getD j 0) = true) : ∀ j, j < n + 1 → okB (b.data.toList.getD j 0) = true := by
  intro j hj
  by_cases e : j = n
  · subst e; rw [getD_byte _ _ hn]; exact hb
  · exact h j (by omega)
theorem net_true {r1 r2 : ByteArray} {r3 : Bool} {r4 r5 : Int} {r6 : ByteArray} {r7 : Bool} {r8 r9 : ByteArray} (h : isNet r1 = true) : M1.urlp_Net.f r1 r2 r3 r4 r5 r6 r7 r8 r9 = some true := by
  unfold M1.urlp_Net.f
  unfold isNet at h
  by_cases e : r1.toList = [104, 116, 116, 112]
  · rw [if_pos e]
  · rw [if_neg e]
    have : (r1.toList == [104, 116, 116, 112]) = false := by simpa using e
    rw [this, Bool.false_or] at h
    rw [h]
theorem net_false {r1 r2 : ByteArray} {r3 : Bool} {r4 r5 : Int} {r6 : ByteArray} {r7 : Bool} {r8 r9 : ByteArray} (h : ¬ isNet r1 = true) : M1.urlp_Net.f r1 r2 r3 r4 r5 r6 r7 r8 r9 = some false := by
  unfold M1.urlp_Net.f
  unfold isNet at h
  by_cases e : r1.toList = [104, 116, 116, 112]
  · exact absurd (by rw [e]; rfl) h
  · rw [if_neg e]
    have : (r1.toList == [104, 116, 116, 112]) = false := by simpa using e
    rw [this, Bool.false_or] at h
    rw [Bool.eq_false_iff.2 h]
def Sz (w W : World) (B : Nat) : Prop := Below w.heap.size w W ∧ W.heap[B]? = some (.cells zURL 28 (0, 0)) ∧ w.heap.size ≤ B
theorem Sz.below {w W W' : World} {B : Nat} (h : Sz w W B) (hd : Below W.heap.size W W') : Sz w W' B := ⟨below_step h.1 hd, blk_below h.2.1 hd, h.2.2⟩
theorem Sz.alloc {w W : World} {B : Nat} (h : Sz w W B) (o : Obj) : Sz w (W.alloc o) B := h.below ((Below.refl _ _).alloc (Nat.le_refl _) o)
theorem size_ne {w W : World} {B : Nat} (h : Sz w W B) : W.heap.size ≠ B := by
  have := blk_lt h.2.1
  omega
theorem Sz.zs {w W : World} {B : Nat} (h : Sz w W B) : W.cell? ⟨B, 0, none⟩ = some (.string ⟨#[]⟩) ∧ W.frozen? ⟨B, 0, none⟩ = false ∧ W.cell? ⟨B, 1, none⟩ = some (.string ⟨#[]⟩) ∧ W.frozen? ⟨B, 1, none⟩ = false ∧ W.cell? ⟨B, 2, none⟩ = some (.bool false) ∧ W.frozen? ⟨B, 2, none⟩ = false ∧ W.cell? ⟨B, 3, none⟩ = some (.int .u32 0) ∧ W.frozen? ⟨B, 3, none⟩ = false ∧ W.cell? ⟨B, 4, none⟩ = some (.int .i64 0) ∧ W.frozen? ⟨B, 4, none⟩ = false ∧ W.cell? ⟨B, 5, none⟩ = some (.string ⟨#[]⟩) ∧ W.frozen? ⟨B, 5, none⟩ = false ∧ W.cell? ⟨B, 6, none⟩ = some (.bool false) ∧ W.frozen? ⟨B, 6, none⟩ = false ∧ W.cell? ⟨B, 7, none⟩ = some (.string ⟨#[]⟩) ∧ W.frozen? ⟨B, 7, none⟩ = false ∧ W.cell? ⟨B, 8, none⟩ = some (.string ⟨#[]⟩) ∧ W.frozen? ⟨B, 8, none⟩ = false :=
  ⟨(blk_cell h.2.1 0).trans rfl, blk_frozen h.2.1 0, (blk_cell h.2.1 1).trans rfl, blk_frozen h.2.1 1, (blk_cell h.2.1 2).trans rfl, blk_frozen h.2.1 2, (blk_cell h.2.1 3).trans rfl, blk_frozen h.2.1 3, (blk_cell h.2.1 4).trans rfl, blk_frozen h.2.1 4, (blk_cell h.2.1 5).trans rfl, blk_frozen h.2.1 5, (blk_cell h.2.1 6).trans rfl, blk_frozen h.2.1 6, (blk_cell h.2.1 7).trans rfl, blk_frozen h.2.1 7, (blk_cell h.2.1 8).trans rfl, blk_frozen h.2.1 8⟩
theorem url_vs {W : World} {B : Nat} {r1 r2 : ByteArray} {r3 : Bool} {r4 r5 : Int} {r6 : ByteArray} {r7 : Bool} {r8 r9 : ByteArray} (h : W.heap[B]? = some (.cells (urlCs r1 r2 r3 r4 r5 r6 r7 r8 r9) 28 (0, 0))) : W.cell? ⟨B, 0, none⟩ = some (.string r1) ∧ W.frozen? ⟨B, 0, none⟩ = false ∧ W.cell? ⟨B, 1, none⟩ = some (.string r2) ∧ W.frozen? ⟨B, 1, none⟩ = false ∧ W.cell? ⟨B, 2, none⟩ = some (.bool r3) ∧ W.frozen? ⟨B, 2, none⟩ = false ∧ W.cell? ⟨B, 3, none⟩ = some (.int .u32 r4) ∧ W.frozen? ⟨B, 3, none⟩ = false ∧ W.cell? ⟨B, 4, none⟩ = some (.int .i64 r5) ∧ W.frozen? ⟨B, 4, none⟩ = false ∧ W.cell? ⟨B, 5, none⟩ = some (.string r6) ∧ W.frozen? ⟨B, 5, none⟩ = false ∧ W.cell? ⟨B, 6, none⟩ = some (.bool r7) ∧ W.frozen? ⟨B, 6, none⟩ = false ∧ W.cell? ⟨B, 7, none⟩ = some (.string r8) ∧ W.frozen? ⟨B, 7, none⟩ = false ∧ W.cell? ⟨B, 8, none⟩ = some (.string r9) ∧ W.frozen? ⟨B, 8, none⟩ = false :=
  ⟨(blk_cell h 0).trans rfl, blk_frozen h 0, (blk_cell h 1).trans rfl, blk_frozen h 1, (blk_cell h 2).trans rfl, blk_frozen h 2, (blk_cell h 3).trans rfl, blk_frozen h 3, (blk_cell h 4).trans rfl, blk_frozen h 4, (blk_cell h 5).trans rfl, blk_frozen h 5, (blk_cell h 6).trans rfl, blk_frozen h 6, (blk_cell h 7).trans rfl, blk_frozen h 7, (blk_cell h 8).trans rfl, blk_frozen h 8⟩
theorem Sz.fin {w W : World} {B : Nat} (h : Sz w W B) (tmps : Array Value) (q : URLi) (h2 : tmps.getD 2 undef = .pointer (some ⟨B, 0, none⟩)) (h3 : tmps.getD 3 undef = .bool q.2.2.2.2.2.2.2.2.2) :
    bodyPost Tryd.prog Tryd.f33 (fun e w' => e = .returned (.tuple #[.agg #[.string q.1, .string q.2.1, .bool q.2.2.1, .int .u32 q.2.2.2.1, .int .i64 q.2.2.2.2.1, .string q.2.2.2.2.2.1, .bool q.2.2.2.2.2.2.1, .string q.2.2.2.2.2.2.2.1, .string q.2.2.2.2.2.2.2.2.1], .bool q.2.2.2.2.2.2.2.2.2]) ∧ Below w.heap.size w w') .ret { tmps := tmps, defers := [] } (setU W B q.1 q.2.1 q.2.2.1 q.2.2.2.1 q.2.2.2.2.1 q.2.2.2.2.2.1 q.2.2.2.2.2.2.1 q.2.2.2.2.2.2.2.1 q.2.2.2.2.2.2.2.2.1) := by
  have hz := setU_blk W B 28 _ _ _ _ _ _ _ _ _ q.1 q.2.1 q.2.2.1 q.2.2.2.1 q.2.2.2.2.1 q.2.2.2.2.2.1 q.2.2.2.2.2.2.1 q.2.2.2.2.2.2.2.1 q.2.2.2.2.2.2.2.2.1 h.2.1
  refine bodyPost_ret (results_ct (P := Tryd.prog) (fn := Tryd.f33) (p := 2) (u := 3) (ty := 28) rfl tmps _ B 28 _ (0, 0) _ h2 hz Tryd.underlying28 rfl (by kernel_rfl)) rfl ?_
  rw [h3]
  exact ⟨rfl, setU_below _ _ _ _ _ _ _ _ _ _ h.1 h.2.2⟩
theorem Sz.fin0 {w W : World} {B : Nat} (h : Sz w W B) (tmps : Array Value) (h2 : tmps.getD 2 undef = .pointer (some ⟨B, 0, none⟩)) (h3 : tmps.getD 3 undef = .bool false) :
    bodyPost Tryd.prog Tryd.f33 (fun e w' => e = .returned (.tuple #[.agg #[.string badI.1, .string badI.2.1, .bool badI.2.2.1, .int .u32 badI.2.2.2.1, .int .i64 badI.2.2.2.2.1, .string badI.2.2.2.2.2.1, .bool badI.2.2.2.2.2.2.1, .string badI.2.2.2.2.2.2.2.1, .string badI.2.2.2.2.2.2.2.2.1], .bool badI.2.2.2.2.2.2.2.2.2]) ∧ Below w.heap.size w w') .ret { tmps := tmps, defers := [] } W := by
  refine bodyPost_ret (results_ct (P := Tryd.prog) (fn := Tryd.f33) (p := 2) (u := 3) (ty := 28) rfl tmps _ B 28 _ (0, 0) _ h2 h.2.1 Tryd.underlying28 rfl (by kernel_rfl)) rfl ?_
  rw [h3]
  exact ⟨rfl, h.1⟩
set_option maxRecDepth 100000 in
set_option maxHeartbeats 4000000 in
theorem inner_walk (pf : ByteArray → Option URLe) (hP : ∀ (s : ByteArray) (r : URLe) (W : World), Gw W → pf s = some r → Calls Tryd.prog 9 #[.string s] W fun e w' => e = .returned (.tuple #[.agg #[.string r.1, .string r.2.1, .bool r.2.2.1, .int .u32 r.2.2.2.1, .int .i64 r.2.2.2.2.1, .string r.2.2.2.2.2.1, .bool r.2.2.2.2.2.2.1, .string r.2.2.2.2.2.2.2.1, .string r.2.2.2.2.2.2.2.2.1], .int .i64 r.2.2.2.2.2.2.2.2.2]) ∧ Below W.heap.size W w')
    (a1 a2 : ByteArray) (a3 : Bool) (a4 a5 : Int) (a6 : ByteArray) (a7 : Bool) (a8 a9 : ByteArray) (q : URLi) (w : World) (hG : Gw w) (h : innerF pf a1 a9 = some q) :
    Calls Tryd.prog 33 #[.agg #[.string a1, .string a2, .bool a3, .int .u32 a4, .int .i64 a5, .string a6, .bool a7, .string a8, .string a9]] w fun e w' => e = .returned (.tuple #[.agg #[.string q.1, .string q.2.1, .bool q.2.2.1, .int .u32 q.2.2.2.1, .int .i64 q.2.2.2.2.1, .string q.2.2.2.2.2.1, .bool q.2.2.2.2.2.2.1, .string q.2.2.2.2.2.2.2.1, .string q.2.2.2.2.2.2.2.2.1], .bool q.2.2.2.2.2.2.2.2.2]) ∧ Below w.heap.size w w' := by
  have hu28 := Tryd.underlying28
  have hs0 : Sz w ((w.alloc (.cells #[.string a1, .string a2, .bool a3, .int .u32 a4, .int .i64 a5, .string a6, .bool a7, .string a8, .string a9] 28)).alloc (.cells zURL 28)) (w.heap.size + 1) :=
    ⟨((Below.refl _ _).alloc (Nat.le_refl _) _).alloc (by simp) _, by have := blk_new (w.alloc (.cells #[.string a1, .string a2, .bool a3, .int .u32 a4, .int .i64 a5, .string a6, .bool a7, .string a8, .string a9] 28)) (.cells zURL 28 (0, 0)); rwa [World.size_alloc] at this, by omega⟩
  have HS0 := Lib.hid hs0
  clear hs0
  have HP := Lib.hid hP
  have HGW := Lib.hid (hG.to HS0.out.1)
  clear hP hG
  unfold innerF at h
  by_cases n1 : a1.toList = [98, 108, 111, 98]
  · rw [if_pos n1] at h
    have n1b : (a1.toList == [98, 108, 111, 98]) = true := by simpa using n1
    clear n1
    obtain ⟨⟨r1, r2, r3, r4, r5, r6, r7, r8, r9, r0⟩, hr, h2⟩ := Option.bind_eq_some_iff.1 h
    have HR := Lib.hid hr
    clear h hr
    by_cases e0 : r0 = 0
    · subst e0
      by_cases nn : isNet r1 = true
      · have HE : Hid ((r1, r2, r3, r4, r5, r6, r7, r8, r9, true) = q) := by
          have h3 := h2
          dsimp only at h3
          rw [if_pos rfl, if_pos nn] at h3
          exact Option.some.inj h3
        have HN : Hid (M1.urlp_Net.f r1 r2 r3 r4 r5 r6 r7 r8 r9 = some true) := net_true nn
        clear h2 nn
        go_enter Tryd.func33, Tryd.ntmps33
        go_wp2_with (first | (go_at_call 9; refine (HP.out a9 (r1, r2, r3, r4, r5, r6, r7, r8, r9, 0) _ HGW.out HR.out).mono ?_; rintro e w3 ⟨rfl, hb⟩; have HS3 := Lib.hid (HS0.out.below hb); clear hb; have HS4 := Lib.hid (HS3.out.alloc (.cells #[.string r1, .string r2, .bool r3, .int .u32 r4, .int .i64 r5, .string r6, .bool r7, .string r8, .string r9] 28))) | (go_at_call 10; refine (M1.urlp_Net.calls r1 r2 r3 r4 r5 r6 r7 r8 r9 _ _ HN.out).mono ?_; rintro e w5 ⟨rfl, hb⟩; have HS5 := Lib.hid (HS4.out.below hb); obtain ⟨z0, z0f, z1, z1f, z2, z2f, z3, z3f, z4, z4f, z5, z5f, z6, z6f, z7, z7f, z8, z8f⟩ := HS5.out.zs; obtain ⟨y0, y0f, y1, y1f, y2, y2f, y3, y3f, y4, y4f, y5, y5f, y6, y6f, y7, y7f, y8, y8f⟩ := url_vs (blk_below (blk_new w3 (.cells (urlCs r1 r2 r3 r4 r5 r6 r7 r8 r9) 28 (0, 0))) hb); have hneV : w3.heap.size ≠ w.heap.size + 1 := size_ne HS3.out; have hneW := Ne.symm hneV; clear hb))
        rw [← HE.out]
        exact HS5.out.fin _ (r1, r2, r3, r4, r5, r6, r7, r8, r9, true) rfl rfl
      · have HE : Hid (badI = q) := by
          have h3 := h2
          dsimp only at h3
          rw [if_pos rfl, if_neg nn] at h3
          exact Option.some.inj h3
        have HN : Hid (M1.urlp_Net.f r1 r2 r3 r4 r5 r6 r7 r8 r9 = some false) := net_false nn
        clear h2 nn
        go_enter Tryd.func33, Tryd.ntmps33
        go_wp2_with (first | (go_at_call 9; refine (HP.out a9 (r1, r2, r3, r4, r5, r6, r7, r8, r9, 0) _ HGW.out HR.out).mono ?_; rintro e w3 ⟨rfl, hb⟩; have HS3 := Lib.hid (HS0.out.below hb); clear hb; have HS4 := Lib.hid (HS3.out.alloc (.cells #[.string r1, .string r2, .bool r3, .int .u32 r4, .int .i64 r5, .string r6, .bool r7, .string r8, .string r9] 28))) | (go_at_call 10; refine (M1.urlp_Net.calls r1 r2 r3 r4 r5 r6 r7 r8 r9 _ _ HN.out).mono ?_; rintro e w5 ⟨rfl, hb⟩; have HS5 := Lib.hid (HS4.out.below hb); obtain ⟨z0, z0f, z1, z1f, z2, z2f, z3, z3f, z4, z4f, z5, z5f, z6, z6f, z7, z7f, z8, z8f⟩ := HS5.out.zs; clear hb))
        rw [← HE.out]
        exact HS5.out.fin _ badI rfl rfl
    · have e0b : (r0 != 0) = true := by simpa using e0
      have e0c : ¬ r0 = 0 := e0
      have HE : Hid (badI = q) := by
        have h3 := h2
        dsimp only at h3
        rw [if_neg e0] at h3
        exact Option.some.inj h3
      clear h2 e0
      go_enter Tryd.func33, Tryd.ntmps33
      go_wp2_with (go_at_call 9; refine (HP.out a9 (r1, r2, r3, r4, r5, r6, r7, r8, r9, r0) _ HGW.out HR.out).mono ?_; rintro e w3 ⟨rfl, hb⟩; have HS3 := Lib.hid (HS0.out.below hb); clear hb; have HS4 := Lib.hid (HS3.out.alloc (.cells #[.string r1, .string r2, .bool r3, .int .u32 r4, .int .i64 r5, .string r6, .bool r7, .string r8, .string r9] 28)); obtain ⟨z0, z0f, z1, z1f, z2, z2f, z3, z3f, z4, z4f, z5, z5f, z6, z6f, z7, z7f, z8, z8f⟩ := HS4.out.zs)
      rw [← HE.out]
      exact HS4.out.fin _ badI rfl rfl
  · have n1b : (a1.toList == [98, 108, 111, 98]) = false := by simpa using n1
    rw [if_neg n1] at h
    obtain rfl := Option.some.inj h
    clear h n1
    go_enter Tryd.func33, Tryd.ntmps33
    go_wp2_with fail
    exact HS0.out.fin0 _ rfl rfl
set_option maxRecDepth 100000 in
set_option maxHeartbeats 4000000 in
theorem parse_walk (k : Nat) (pf : ByteArray → Option URLe) (hI : ∀ (r : ByteArray) (q : URLi) (W : World), Gw W → innerF pf ⟨#[98, 108, 111, 98]⟩ r = some q → Calls Tryd.prog 33 #[.agg (urlCs ⟨#[98, 108, 111, 98]⟩ ⟨#[]⟩ false 0 0 ⟨#[]⟩ false ⟨#[]⟩ r)] W fun e w' => e = .returned (.tuple #[.agg #[.string q.1, .string q.2.1, .bool q.2.2.1, .int .u32 q.2.2.2.1, .int .i64 q.2.2.2.2.1, .string q.2.2.2.2.2.1, .bool q.2.2.2.2.2.2.1, .string q.2.2.2.2.2.2.2.1, .string q.2.2.2.2.2.2.2.2.1], .bool q.2.2.2.2.2.2.2.2.2]) ∧ Below W.heap.size W w')
    (s : ByteArray) (r : URLe) (w : World) (hG : Gw w) (h : parseF pf k s = some r) :
    Calls Tryd.prog 9 #[.string s] w fun e w' => e = .returned (.tuple #[.agg (urlCs r.1 r.2.1 r.2.2.1 r.2.2.2.1 r.2.2.2.2.1 r.2.2.2.2.2.1 r.2.2.2.2.2.2.1 r.2.2.2.2.2.2.2.1 r.2.2.2.2.2.2.2.2.1), .int .i64 r.2.2.2.2.2.2.2.2.2]) ∧ Below w.heap.size w w' := by
  unfold parseF at h
  by_cases hs : s.size ≤ 4611686018427387904
  case neg => rw [if_neg hs] at h; exact absurd h (by simp)
  rw [if_pos hs] at h
  obtain ⟨⟨first, rest, is⟩, hc, h1⟩ := Option.bind_eq_some_iff.1 h
  clear h
  obtain ⟨sch, hl, h2⟩ := Option.bind_eq_some_iff.1 h1
  clear h1
  have HH := Lib.hid h2
  have HG := Lib.hid hG
  have HI := Lib.hid hI
  clear h2 hG hI
  have hsch : sch.size ≤ maxLen := by have := low_size hl; unfold maxLen; omega
  have HC := Lib.hid hc
  have HL := Lib.hid hl
  clear hc hl
  go_enter Tryd.func9, Tryd.ntmps9
  go_upto_block 0 with fail
  obtain ⟨W0, hW0⟩ : ∃ W, w.alloc (.cells #[.string ⟨#[]⟩, .string ⟨#[]⟩, .bool false, .int .u32 0, .int .i64 0, .string ⟨#[]⟩, .bool false, .string ⟨#[]⟩, .string ⟨#[]⟩] 28) = W := ⟨_, rfl⟩
  rw [hW0]
  have HW0 := Lib.hid hW0
  clear hW0
  go_cut [0] (fun v wx => v = .string ⟨(trimL s.data.toList).toArray⟩ ∧ wx = W0)
  case first =>
    go_wp2_with fail
    go_loopw [0] (fun v wr => ∃ p : ByteArray, v = .string p ∧ p.size ≤ s.size ∧ Aside (trimL p.data.toList = trimL s.data.toList) ∧ wr = W0) (fun v _ => match v with | .string p => p.size | _ => 0)
    case atStart => exact ⟨s, rfl, Nat.le_refl _, rfl, rfl⟩
    case round =>
      obtain ⟨p, rfl, hp, HT, rfl⟩ := hrel
      by_cases h0 : p.size = 0
      · have hpe : p = ⟨#[]⟩ := by obtain ⟨⟨l⟩⟩ := p; cases l with | nil => rfl | cons c l => simp [ByteArray.size] at h0
        subst hpe
        go_wp2_with fail
        go_meet
        exact ⟨congrArg Value.string (of_toList (l := trimL s.data.toList) (HT.out.symm ▸ rfl)), rfl⟩
      · have hpb : p.toList.isEmpty = false := by
          rw [ByteArray.toList_eq]
          obtain ⟨c, l, rfl⟩ := bytes_cons p h0
          rfl
        by_cases hcb : ((p[0]'(by omega)).toNat : Int) ≤ 32
        · have HS := Lib.hid (trimL_step p h0 hcb)
          go_wp2_with fail
          go_roundw
          case rel => exact ⟨_, rfl, by simp [ByteArray.size_extract]; omega, HS.out.trans HT.out, trivial⟩
          case measure => simp [ByteArray.size_extract]; omega
        · have HS := Lib.hid (trimL_stop p h0 hcb)
          go_wp2_with fail
          go_meet
          exact ⟨congrArg Value.string (of_toList (HS.out.symm.trans HT.out)), rfl⟩
  obtain ⟨rfl, rfl⟩ := hcut
  have hq : (⟨(trimL s.data.toList).toArray⟩ : ByteArray).size ≤ s.size := trimL_size _
  have HQ : Hid (trimB s = ⟨(trimR (⟨(trimL s.data.toList).toArray⟩ : ByteArray).data.toList).toArray⟩) := rfl
  generalize (⟨(trimL s.data.toList).toArray⟩ : ByteArray) = q at hq HQ
  go_upto_block 2 with fail
  go_cut [0] (fun v wx => v = .string (trimB s) ∧ wx = wc)
  case first =>
    go_wp2_with fail
    go_loopw [0] (fun v wr => ∃ p : ByteArray, v = .string p ∧ p.size ≤ s.size ∧ Aside (trimR p.data.toList = trimR q.data.toList) ∧ wr = wc) (fun v _ => match v with | .string p => p.size | _ => 0)
    case atStart => exact ⟨q, rfl, hq, rfl, rfl⟩
    case round =>
      obtain ⟨p, rfl, hp, HT, rfl⟩ := hrel
      by_cases h0 : p.size = 0
      · have hpe : p = ⟨#[]⟩ := by obtain ⟨⟨l⟩⟩ := p; cases l with | nil => rfl | cons c l => simp [ByteArray.size] at h0
        subst hpe
        go_wp2_with fail
        go_meet
        exact ⟨congrArg Value.string ((of_toList (HT.out.symm ▸ rfl)).trans HQ.out.symm), rfl⟩
      · have hpb : p.toList.isEmpty = false := by
          rw [ByteArray.toList_eq]
          obtain ⟨c, l, rfl⟩ := bytes_cons p h0
          rfl
        by_cases hcb : ((p[p.size - 1]'(by omega)).toNat : Int) ≤ 32
        · have HS := Lib.hid (trimR_step p h0 hcb)
          go_wp2_with fail
          go_roundw
          case rel => exact ⟨_, rfl, by simp [ByteArray.size_extract]; omega, HS.out.trans HT.out, trivial⟩
          case measure => simp [ByteArray.size_extract]; omega
        · have HS := Lib.hid (trimR_stop p h0 hcb)
          go_wp2_with fail
          go_meet
          exact ⟨congrArg Value.string ((of_toList (HS.out.symm.trans HT.out)).trans HQ.out.symm), rfl⟩
  obtain ⟨rfl, rfl⟩ := hcut
  have HC2 := HC
  go_upto_region 7 with (first | (go_at_call 28; refine (strings_Cut.calls _ _ _ _ _ _ HC.out).mono ?_; rintro e w1 ⟨rfl, hb⟩; have HB1 := Lib.hid hb; clear hb) | (go_at_call 29; refine (octet_Lower.calls _ _ _ HL.out).mono ?_; rintro e w2 ⟨rfl, hb⟩; have HB2 := Lib.hid hb; clear hb))
  have hZ : w.heap.size < w1.heap.size ∧ w1.heap.size ≤ w2.heap.size ∧ Below w.heap.size w w2 ∧ w2.heap[w.heap.size]? = some (.cells zURL 28 (0, 0)) := by
    have h1 := HB1.out
    have h2 := HB2.out
    obtain ⟨⟨n, e1⟩⟩ := h1
    have e : wc.heap.size = w.heap.size + 1 := by rw [← HW0.out]; simp
    have e' : w1.heap.size = wc.heap.size := by rw [e1]; rfl
    have hbl : Below w.heap.size w w1 := by
      rw [e1]
      refine Below.trans ?_ (pw_below_drewN (Below.refl _ _) n)
      rw [← HW0.out]
      exact (Below.refl _ _).alloc (Nat.le_refl _) _
    refine ⟨by omega, h2.size, hbl.trans (h2.mono (by omega)), ?_⟩
    rw [h2.block _ (by omega), e1]
    show wc.heap[w.heap.size]? = _
    rw [← HW0.out]
    exact World.alloc_heap_new w _
  clear HB1 HB2 HW0
  have HBW : Below w.heap.size w (w2.alloc (.cells (uURL sch) 28)) := hZ.2.2.1.alloc (by omega) _
  have HBU : (w2.alloc (.cells (uURL sch) 28)).heap[w2.heap.size]? = some (.cells (uURL sch) 28 (0, 0)) := World.alloc_heap_new w2 _
  have HBZ : (w2.alloc (.cells (uURL sch) 28)).heap[w.heap.size]? = some (.cells zURL 28 (0, 0)) := (Below.heap_alloc _ _ _ (by omega)).trans hZ.2.2.2
  have HSZ : w.heap.size < w2.heap.size ∧ (w2.alloc (.cells (uURL sch) 28)).heap.size = w2.heap.size + 1 := ⟨by omega, by simp⟩
  clear hZ
  unfold uURL urlCs at HBW HBU HBZ HSZ
  revert HBW HBU HBZ HSZ
  generalize (w2.alloc (.cells #[.string sch, .string ⟨#[]⟩, .bool false, .int .u32 0, .int .i64 (-1), .string ⟨#[]⟩, .bool false, .string ⟨#[]⟩, .string ⟨#[]⟩] 28)) = wu
  generalize w2.heap.size = gU
  intro hbw hbu hbz hsz
  have HBW := Lib.hid hbw
  have HBU := Lib.hid hbu
  have HBZ := Lib.hid hbz
  have HSZ := Lib.hid hsz
  clear hbw hbu hbz hsz
  go_cut [8, 9] (fun c d wx => c = .int .i64 (portOf sch.data.toList) ∧ d = .bool (knownS sch.data.toList) ∧ Below wu.heap.size wu wx)
  case first =>
    have hc0 : wu.cell? ⟨gU, 0, none⟩ = some (.string sch) := by have := HBU.out; simp [World.cell?, this]
    go_region_with (first | (go_at_call 30; refine (urlp_ports.calls _).mono ?_; rintro e w3 ⟨rfl, hm3, hb3⟩; have hc3 := ports_cell w.heap.size wu.drew w3 gU sch hb3 HSZ.out HBU.out; have HB3 := Lib.hid hb3; clear hb3; have hl3 := ports_look w3 wu.heap.size hm3 sch hsch; clear hm3))
    all_goals (go_wp2_with fail; go_meet; exact ⟨rfl, rfl, ((Below.refl wu.heap.size wu).drew).trans HB3.out⟩)
  obtain ⟨rfl, rfl, hbx⟩ := hcut
  have HST : Hid (St w wc gU sch) := ⟨HBW.out.trans (hbx.mono (by have := HBW.out.size; omega)), (hbx.block gU (by have := HSZ.out; omega)).trans HBU.out, (hbx.block w.heap.size (by have := HSZ.out; omega)).trans HBZ.out⟩
  have HNE : Hid (w.heap.size < gU) := by have := HSZ.out; show _ < _; omega
  clear hbx HBW HBU HBZ HSZ HQ
  generalize trimB s = tt at HC HC2 HH
  by_cases g1 : 2000 < tt.size
  · obtain rfl : badU 30 = r := by have := HH.out; rw [if_pos g1] at this; exact Option.some.inj this
    have g1i : (2000 : Int) < (tt.size : Int) := by omega
    obtain ⟨z0, z0f, z1, z1f, z2, z2f, z3, z3f, z4, z4f, z5, z5f, z6, z6f, z7, z7f, z8, z8f⟩ := HST.out.zs
    go_wp2_with fail
    exact HST.out.fin _ (badU 30) rfl rfl
  have g1i : ¬ (2000 : Int) < (tt.size : Int) := by omega
  have HH1 := Lib.hid (by have := HH.out; rw [if_neg g1] at this; exact this)
  clear HH g1
  cases is
  · obtain rfl : badU 30 = r := by have := HH1.out; rw [if_neg (by simp)] at this; exact Option.some.inj this
    obtain ⟨z0, z0f, z1, z1f, z2, z2f, z3, z3f, z4, z4f, z5, z5f, z6, z6f, z7, z7f, z8, z8f⟩ := HST.out.zs
    go_wp2_with fail
    exact HST.out.fin _ (badU 30) rfl rfl
  have HH2 := Lib.hid (by have := HH1.out; rw [if_pos rfl] at this; exact this)
  clear HH1
  obtain ⟨ok, hok, h3⟩ := Option.bind_eq_some_iff.1 HH2.out
  have HOK := Lib.hid hok
  have HH3 := Lib.hid h3
  clear HH2 hok h3
  have HU0 : wc.cell? ⟨gU, 0, none⟩ = some (.string sch) := (blk_cell HST.out.2.1 0).trans rfl
  generalize knownS sch.data.toList = kn at HH3
  cases ok
  · obtain rfl : badU 30 = r := by have := HH3.out; rw [if_neg (by simp)] at this; exact Option.some.inj this
    go_wp2_with (go_at_call 31; refine (M1.urlp_scheme.calls k sch _ _ HOK.out).mono ?_; rintro e w4 ⟨rfl, hd⟩; have HST4 := Lib.hid (HST.out.drawn hd); clear HU0 hd; obtain ⟨z0, z0f, z1, z1f, z2, z2f, z3, z3f, z4, z4f, z5, z5f, z6, z6f, z7, z7f, z8, z8f⟩ := HST4.out.zs)
    exact HST4.out.fin _ (badU 30) rfl rfl
  have HH4 := Lib.hid (by have := HH3.out; rw [if_pos rfl] at this; exact this)
  clear HH3
  cases kn
  · obtain rfl : badU 31 = r := by have := HH4.out; rw [if_neg (by simp)] at this; exact Option.some.inj this
    go_wp2_with (go_at_call 31; refine (M1.urlp_scheme.calls k sch _ _ HOK.out).mono ?_; rintro e w4 ⟨rfl, hd⟩; have HST4 := Lib.hid (HST.out.drawn hd); clear HU0 hd; obtain ⟨z0, z0f, z1, z1f, z2, z2f, z3, z3f, z4, z4f, z5, z5f, z6, z6f, z7, z7f, z8, z8f⟩ := HST4.out.zs)
    exact HST4.out.fin _ (badU 31) rfl rfl
  have HH5 := Lib.hid (by have := HH4.out; rw [if_pos rfl] at this; exact this)
  clear HH4
  obtain ⟨⟨rr, rr2, rr3⟩, hc2, h6⟩ := Option.bind_eq_some_iff.1 HH5.out
  have HCC := Lib.hid hc2
  have HH6 : Hid (parseRest pf k sch rr = some r) := h6
  clear HH5 hc2 h6
  have hrr : rr.size ≤ 4611686018427387904 := cut_size HCC.out
  go_wp2_with (first | (go_at_call 31; refine (M1.urlp_scheme.calls k sch _ _ HOK.out).mono ?_; rintro e w4 ⟨rfl, hd⟩; have HST4 := Lib.hid (HST.out.drawn hd); clear HU0 hd) | (go_at_call 28; refine (strings_Cut.calls _ _ _ _ _ _ HCC.out).mono ?_; rintro e w5 ⟨rfl, hd⟩; have HST5 := Lib.hid (HST4.out.drawn hd); clear hd))
  go_loopw [10, 80] (fun _ i wr => ∃ n : Nat, n ≤ rr.size ∧ i = .int .i64 n ∧ Aside (∀ j, j < n → okB (rr.data.toList.getD j 0) = true) ∧ wr = w5) (fun _ i _ => rr.size - (intOf i).toNat)
  case atStart => exact ⟨0, Nat.zero_le _, rfl, fun j hj => absurd hj (Nat.not_lt_zero j), rfl⟩
  case round =>
    obtain ⟨n, hn, rfl, HA, rfl⟩ := hrel
    by_cases hlt : n < rr.size
    · by_cases hb1 : ((rr[n]'hlt).toNat : Int) < 33
      · have HR30 : Hid (badU 30 = r) := bad_rest _ _ _ _ _ n hlt (okB_lo _ hb1) HH6.out
        obtain ⟨z0, z0f, z1, z1f, z2, z2f, z3, z3f, z4, z4f, z5, z5f, z6, z6f, z7, z7f, z8, z8f⟩ := HST5.out.zs
        go_wp2_with fail
        rw [← HR30.out]
        exact HST5.out.fin _ (badU 30) rfl rfl
      · by_cases hb2 : ((rr[n]'hlt).toNat : Int) > 126
        · have HR30 : Hid (badU 30 = r) := bad_rest _ _ _ _ _ n hlt (okB_hi _ hb2) HH6.out
          obtain ⟨z0, z0f, z1, z1f, z2, z2f, z3, z3f, z4, z4f, z5, z5f, z6, z6f, z7, z7f, z8, z8f⟩ := HST5.out.zs
          go_wp2_with fail
          rw [← HR30.out]
          exact HST5.out.fin _ (badU 30) rfl rfl
        · have HBN := Lib.hid (okB_ok _ hb1 hb2)
          go_wp2_with fail
          go_roundw
          case rel => exact ⟨n + 1, by omega, by go_num, ext_all rr n hlt HBN.out HA.out, trivial⟩
          case measure => simp [intOf]; omega
    · obtain rfl : n = rr.size := by omega
      have hall : rr.data.toList.all okB = true := all_getD rr HA.out
      have HH7 := Lib.hid (by have := HH6.out; unfold parseRest at this; rw [if_pos hall] at this; exact this)
      clear HH6 HA hall hlt hn
      have HU0 : wr.cell? ⟨gU, 0, none⟩ = some (.string sch) := (blk_cell HST5.out.2.1 0).trans rfl
      by_cases n0 : isNet sch = true
      · have HWEB := Lib.hid (by have := HH7.out; rw [if_pos n0] at this; exact this)
        clear HH7
        obtain ⟨r1, r2, r3, r4, r5, r6, r7, r8, r9, r10⟩ := r
        obtain ⟨y0, y0f, y1, y1f, y2, y2f, y3, y3f, y4, y4f, y5, y5f, y6, y6f, y7, y7f, y8, y8f⟩ := HST5.out.us
        have HGW := Lib.hid (HG.out.to HST5.out.1)
        unfold isNet at n0
        by_cases n1 : sch.toList = [104, 116, 116, 112]
        · have n1b : (sch.toList == [104, 116, 116, 112]) = true := by simpa using n1
          go_wp2_with (go_at_call 32; refine (M1.urlp_web.calls k sch ⟨#[]⟩ false 0 (-1) ⟨#[]⟩ false ⟨#[]⟩ ⟨#[]⟩ rr (portOf sch.data.toList) r1 r2 r3 r4 r5 r6 r7 r8 r9 r10 _ HGW.out HWEB.out).mono ?_; rintro e w6 ⟨rfl, hb⟩; have HST6 := Lib.hid (HST5.out.below hb); clear hb; obtain ⟨z0, z0f, z1, z1f, z2, z2f, z3, z3f, z4, z4f, z5, z5f, z6, z6f, z7, z7f, z8, z8f⟩ := HST6.out.zs)
          exact HST6.out.fin _ (r1, r2, r3, r4, r5, r6, r7, r8, r9, r10) rfl rfl
        · have n1b : (sch.toList == [104, 116, 116, 112]) = false := by simpa using n1
          have n2b : (sch.toList == [104, 116, 116, 112, 115]) = true := by rw [n1b] at n0; simpa using n0
          go_wp2_with (go_at_call 32; refine (M1.urlp_web.calls k sch ⟨#[]⟩ false 0 (-1) ⟨#[]⟩ false ⟨#[]⟩ ⟨#[]⟩ rr (portOf sch.data.toList) r1 r2 r3 r4 r5 r6 r7 r8 r9 r10 _ HGW.out HWEB.out).mono ?_; rintro e w6 ⟨rfl, hb⟩; have HST6 := Lib.hid (HST5.out.below hb); clear hb; obtain ⟨z0, z0f, z1, z1f, z2, z2f, z3, z3f, z4, z4f, z5, z5f, z6, z6f, z7, z7f, z8, z8f⟩ := HST6.out.zs)
          exact HST6.out.fin _ (r1, r2, r3, r4, r5, r6, r7, r8, r9, r10) rfl rfl
      have HH8 := Lib.hid (by have := HH7.out; rw [if_neg n0] at this; exact this)
      clear HH7
      have n1b : (sch.toList == [104, 116, 116, 112]) = false := by unfold isNet at n0; simp only [Bool.or_eq_true, not_or] at n0; simpa using n0.1
      have n2b : (sch.toList == [104, 116, 116, 112, 115]) = false := by unfold isNet at n0; simp only [Bool.or_eq_true, not_or] at n0; simpa using n0.2
      clear n0
      by_cases n3 : sch.toList = [97, 98, 111, 117, 116]
      · have n3b : (sch.toList == [97, 98, 111, 117, 116]) = true := by simpa using n3
        have HH9 := Lib.hid (by have := HH8.out; rw [if_pos n3] at this; exact Option.some.inj this)
        clear HH8 n3
        by_cases m1 : rr.toList = [98, 108, 97, 110, 107]
        · have m1b : (rr.toList == [98, 108, 97, 110, 107]) = true := by simpa using m1
          have HE : Hid (okU sch rr = r) := by have := HH9.out; rw [if_pos (.inl m1)] at this; exact this
          clear HH9 m1
          clear HU0
          obtain ⟨y0, y0f, y1, y1f, y2, y2f, y3, y3f, y4, y4f, y5, y5f, y6, y6f, y7, y7f, y8, y8f⟩ := HST5.out.us
          obtain ⟨z0, z0f, z1, z1f, z2, z2f, z3, z3f, z4, z4f, z5, z5f, z6, z6f, z7, z7f, z8, z8f⟩ := HST5.out.zs
          have hne1 : gU ≠ w.heap.size := by have := HNE.out; omega
          have hne2 : w.heap.size ≠ gU := by omega
          go_wp2_with fail
          rw [← HE.out]
          exact HST5.out.fin2 HNE.out (.string rr) _ (okU sch rr) rfl rfl
        · have m1b : (rr.toList == [98, 108, 97, 110, 107]) = false := by simpa using m1
          by_cases m2 : rr.toList = [115, 114, 99, 100, 111, 99]
          · have m2b : (rr.toList == [115, 114, 99, 100, 111, 99]) = true := by simpa using m2
            have HE : Hid (okU sch rr = r) := by have := HH9.out; rw [if_pos (.inr m2)] at this; exact this
            clear HH9 m1 m2
            clear HU0
            obtain ⟨y0, y0f, y1, y1f, y2, y2f, y3, y3f, y4, y4f, y5, y5f, y6, y6f, y7, y7f, y8, y8f⟩ := HST5.out.us
            obtain ⟨z0, z0f, z1, z1f, z2, z2f, z3, z3f, z4, z4f, z5, z5f, z6, z6f, z7, z7f, z8, z8f⟩ := HST5.out.zs
            have hne1 : gU ≠ w.heap.size := by have := HNE.out; omega
            have hne2 : w.heap.size ≠ gU := by omega
            go_wp2_with fail
            rw [← HE.out]
            exact HST5.out.fin2 HNE.out (.string rr) _ (okU sch rr) rfl rfl
          · have m2b : (rr.toList == [115, 114, 99, 100, 111, 99]) = false := by simpa using m2
            have HE : Hid (badU 30 = r) := by have := HH9.out; rw [if_neg (fun h => h.elim m1 m2)] at this; exact this
            clear HH9 m1 m2
            obtain ⟨z0, z0f, z1, z1f, z2, z2f, z3, z3f, z4, z4f, z5, z5f, z6, z6f, z7, z7f, z8, z8f⟩ := HST5.out.zs
            go_wp2_with fail
            rw [← HE.out]
            exact HST5.out.fin _ (badU 30) rfl rfl
      · have n3b : (sch.toList == [97, 98, 111, 117, 116]) = false := by simpa using n3
        have HH9 := Lib.hid (by have := HH8.out; rw [if_neg n3] at this; exact this)
        clear HH8 n3
        by_cases n4 : sch.toList = [98, 108, 111, 98]
        · have n4b : (sch.toList == [98, 108, 111, 98]) = true := by simpa using n4
          have HH10 := Lib.hid (by have := HH9.out; rw [if_pos n4] at this; exact this)
          clear HH9 n4
          obtain ⟨⟨q1, q2, q3, q4, q5, q6, q7, q8, q9, q0⟩, hq, h11⟩ := Option.bind_eq_some_iff.1 HH10.out
          have HQ := Lib.hid hq
          have HH11 : Hid ((if q0 = true then some (okU sch rr) else (L2.strings_HasPrefix.f rr ⟨#[110, 117, 108, 108, 47]⟩).bind fun b => some (if b = true then okU sch rr else badU 30)) = some r) := h11
          clear HH10 hq h11
          have HGW := Lib.hid (HG.out.to HST5.out.1)
          have hne1 : gU ≠ w.heap.size := by have := HNE.out; omega
          have hne2 : w.heap.size ≠ gU := by omega
          cases q0
          · obtain ⟨b, hb, h12⟩ := Option.bind_eq_some_iff.1 (by have := HH11.out; rw [if_neg (by simp)] at this; exact this)
            have HP := Lib.hid hb
            have HH12 := Lib.hid (Option.some.inj h12)
            clear HH11 hb h12
            cases b
            · have HE : Hid (badU 30 = r) := by have := HH12.out; rw [if_neg (by simp)] at this; exact this
              clear HH12
              go_wp2_with (first | (go_at_call 33; refine (HI.out rr (q1, q2, q3, q4, q5, q6, q7, q8, q9, false) _ HGW.out HQ.out).mono ?_; rintro e w6 ⟨rfl, hb⟩; have HST6 := Lib.hid (HST5.out.below hb); clear hb) | (go_at_call 34; refine (L2.strings_HasPrefix.calls rr ⟨#[110, 117, 108, 108, 47]⟩ _ _ HP.out).mono ?_; rintro e w7 ⟨rfl, hd⟩; have HST7 := Lib.hid ((HST6.out.alloc _).drawn hd); clear hd; obtain ⟨z0, z0f, z1, z1f, z2, z2f, z3, z3f, z4, z4f, z5, z5f, z6, z6f, z7, z7f, z8, z8f⟩ := HST7.out.zs))
              rw [← HE.out]
              exact HST7.out.fin _ (badU 30) rfl rfl
            · have HE : Hid (okU sch rr = r) := by have := HH12.out; rw [if_pos rfl] at this; exact this
              clear HH12
              go_wp2_with (first | (go_at_call 33; refine (HI.out rr (q1, q2, q3, q4, q5, q6, q7, q8, q9, false) _ HGW.out HQ.out).mono ?_; rintro e w6 ⟨rfl, hb⟩; have HST6 := Lib.hid (HST5.out.below hb); clear hb) | (go_at_call 34; refine (L2.strings_HasPrefix.calls rr ⟨#[110, 117, 108, 108, 47]⟩ _ _ HP.out).mono ?_; rintro e w7 ⟨rfl, hd⟩; have HST7 := Lib.hid ((HST6.out.alloc _).drawn hd); clear hd; obtain ⟨y0, y0f, y1, y1f, y2, y2f, y3, y3f, y4, y4f, y5, y5f, y6, y6f, y7, y7f, y8, y8f⟩ := HST7.out.us; obtain ⟨z0, z0f, z1, z1f, z2, z2f, z3, z3f, z4, z4f, z5, z5f, z6, z6f, z7, z7f, z8, z8f⟩ := HST7.out.zs))
              rw [← HE.out]
              exact HST7.out.fin2 HNE.out (.string rr) _ (okU sch rr) rfl rfl
          · have HE : Hid (okU sch rr = r) := by have := HH11.out; rw [if_pos rfl] at this; exact Option.some.inj this
            clear HH11
            go_wp2_with (go_at_call 33; refine (HI.out rr (q1, q2, q3, q4, q5, q6, q7, q8, q9, true) _ HGW.out HQ.out).mono ?_; rintro e w6 ⟨rfl, hb⟩; have HST6 := Lib.hid (HST5.out.below hb); clear hb; have HST7 := Lib.hid (HST6.out.alloc (.cells #[.string q1, .string q2, .bool q3, .int .u32 q4, .int .i64 q5, .string q6, .bool q7, .string q8, .string q9] 28)); obtain ⟨y0, y0f, y1, y1f, y2, y2f, y3, y3f, y4, y4f, y5, y5f, y6, y6f, y7, y7f, y8, y8f⟩ := HST7.out.us; obtain ⟨z0, z0f, z1, z1f, z2, z2f, z3, z3f, z4, z4f, z5, z5f, z6, z6f, z7, z7f, z8, z8f⟩ := HST7.out.zs)
            rw [← HE.out]
            exact HST7.out.fin2 HNE.out (.string rr) _ (okU sch rr) rfl rfl
        · have n4b : (sch.toList == [98, 108, 111, 98]) = false := by simpa using n4
          have HE : Hid (okU sch rr = r) := by have := HH9.out; rw [if_neg n4] at this; exact Option.some.inj this
          clear HH9 n4
          clear HU0
          obtain ⟨y0, y0f, y1, y1f, y2, y2f, y3, y3f, y4, y4f, y5, y5f, y6, y6f, y7, y7f, y8, y8f⟩ := HST5.out.us
          obtain ⟨z0, z0f, z1, z1f, z2, z2f, z3, z3f, z4, z4f, z5, z5f, z6, z6f, z7, z7f, z8, z8f⟩ := HST5.out.zs
          have hne1 : gU ≠ w.heap.size := by have := HNE.out; omega
          have hne2 : w.heap.size ≠ gU := by omega
          go_wp2_with fail
          rw [← HE.out]
          exact HST5.out.fin2 HNE.out (.string rr) _ (okU sch rr) rfl rfl
def parseN : Nat → Nat → ByteArray → Option URLe
  | 0, _, _ => none
  | n + 1, k, s => parseF (parseN n k) k s
theorem parseN_calls (k : Nat) : ∀ (n : Nat) (s : ByteArray) (r : URLe) (W : World), Gw W → parseN n k s = some r → Calls Tryd.prog 9 #[.string s] W fun e w' => e = .returned (.tuple #[.agg #[.string r.1, .string r.2.1, .bool r.2.2.1, .int .u32 r.2.2.2.1, .int .i64 r.2.2.2.2.1, .string r.2.2.2.2.2.1, .bool r.2.2.2.2.2.2.1, .string r.2.2.2.2.2.2.2.1, .string r.2.2.2.2.2.2.2.2.1], .int .i64 r.2.2.2.2.2.2.2.2.2]) ∧ Below W.heap.size W w'
  | 0, s, r, W, hG, h => absurd h (by simp [parseN])
  | n + 1, s, r, W, hG, h => parse_walk k (parseN n k) (fun r q W hG h => inner_walk (parseN n k) (parseN_calls k n) ⟨#[98, 108, 111, 98]⟩ ⟨#[]⟩ false 0 0 ⟨#[]⟩ false ⟨#[]⟩ r q W hG h) s r W hG h
def urlp_Parse.f (a0 : ByteArray) : Option (ByteArray × ByteArray × Bool × Int × Int × ByteArray × Bool × ByteArray × ByteArray × Int) := parseN (a0.size + 2) (a0.size + 8) a0
theorem urlp_Parse.calls (a0 : ByteArray) (r1 r2 : ByteArray) (r3 : Bool) (r4 r5 : Int) (r6 : ByteArray) (r7 : Bool) (r8 r9 : ByteArray) (r10 : Int) (w : World) (hG : Gw w) (h : urlp_Parse.f a0 = some (r1, r2, r3, r4, r5, r6, r7, r8, r9, r10)) :
    Calls Tryd.prog 9 #[.string a0] w fun e w' => e = .returned (.tuple #[.agg #[.string r1, .string r2, .bool r3, .int .u32 r4, .int .i64 r5, .string r6, .bool r7, .string r8, .string r9], .int .i64 r10]) ∧ Below w.heap.size w w' :=
  parseN_calls (a0.size + 8) (a0.size + 2) a0 _ w hG h
def urlp_Inner.f (a0_0 a0_1 : ByteArray) (a0_2 : Bool) (a0_3 a0_4 : Int) (a0_5 : ByteArray) (a0_6 : Bool) (a0_7 a0_8 : ByteArray) : Option (ByteArray × ByteArray × Bool × Int × Int × ByteArray × Bool × ByteArray × ByteArray × Bool) := innerF urlp_Parse.f a0_0 a0_8
theorem urlp_Inner.calls (a0_0 a0_1 : ByteArray) (a0_2 : Bool) (a0_3 a0_4 : Int) (a0_5 : ByteArray) (a0_6 : Bool) (a0_7 a0_8 : ByteArray) (r1 r2 : ByteArray) (r3 : Bool) (r4 r5 : Int) (r6 : ByteArray) (r7 : Bool) (r8 r9 : ByteArray) (r10 : Bool) (w : World) (hG : Gw w) (h : urlp_Inner.f a0_0 a0_1 a0_2 a0_3 a0_4 a0_5 a0_6 a0_7 a0_8 = some (r1, r2, r3, r4, r5, r6, r7, r8, r9, r10)) :
    Calls Tryd.prog 33 #[.agg #[.string a0_0, .string a0_1, .bool a0_2, .int .u32 a0_3, .int .i64 a0_4, .string a0_5, .bool a0_6, .string a0_7, .string a0_8]] w fun e w' => e = .returned (.tuple #[.agg #[.string r1, .string r2, .bool r3, .int .u32 r4, .int .i64 r5, .string r6, .bool r7, .string r8, .string r9], .bool r10]) ∧ Below w.heap.size w w' :=
  inner_walk urlp_Parse.f (fun s r W hG h => urlp_Parse.calls s r.1 r.2.1 r.2.2.1 r.2.2.2.1 r.2.2.2.2.1 r.2.2.2.2.2.1 r.2.2.2.2.2.2.1 r.2.2.2.2.2.2.2.1 r.2.2.2.2.2.2.2.2.1 r.2.2.2.2.2.2.2.2.2 W hG h) a0_0 a0_1 a0_2 a0_3 a0_4 a0_5 a0_6 a0_7 a0_8 _ w hG h
end Go.Proofs.YtgmacggbhcodjaaDoor.Q

