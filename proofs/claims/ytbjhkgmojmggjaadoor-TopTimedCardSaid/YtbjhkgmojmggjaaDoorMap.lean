/- A map of string keys whose block is known whole: written and read. After the library's Derived/Maps/Own (which reads the elements as data; here they may be functions). No condition. -/
import Derived.Test.YtbjhkgmojmggjaaDoorRegion
import Derived.Test.YtbjhkgmojmggjaaDoorBase
import Derived.Maps.OwnOps
namespace Go.Proofs.YtbjhkgmojmggjaaDoor
set_option linter.unusedSimpArgs false
set_option linter.unusedVariables false
set_option linter.unnecessarySimpa false
set_option linter.unusedSectionVars false
open Go.RowKit

/-- Block b is a map of just these entries. -/
def MapB (w : World) (b : Nat) (es : Array MapEntry) (clock : Nat) : Prop := w.heap[b]? = some (.map es clock)
section
variable {w w' : World} {b clock : Nat} {es : Array MapEntry}
theorem MapB.lt (h : MapB w b es clock) : b < w.heap.size := by
  rcases Nat.lt_or_ge b w.heap.size with hlt | hge
  · exact hlt
  · unfold MapB at h; rw [Array.getElem?_eq_none hge] at h; cases h
theorem MapB.keeps {S : Nat → Prop} (h : MapB w b es clock) (k : Keeps S w w') (hn : ¬ S b) : MapB w' b es clock := (k.block b h.lt hn).trans h
theorem MapB.new (w : World) : MapB (w.alloc (.map #[] 0)) w.heap.size #[] 0 := by
  show (w.heap.push _)[w.heap.size]? = _
  simp
theorem MapB.at_ {j : Nat} (h : MapB w b es clock) (e : b = j) : MapB w j es clock := e ▸ h
theorem MapB.alloc (h : MapB w b es clock) (o : Obj) : MapB (w.alloc o) b es clock := (Below.heap_alloc w o b h.lt).trans h
theorem MapB.drew (h : MapB w b es clock) : MapB w.drew b es clock := h
theorem MapB.fr (h : MapB w b es clock) {p : Addr} {u : Value} (hp : b ≠ p.block := by (simp <;> omega)) : MapB (w.setCell p u) b es clock := (Below.heap_setCell w p u b hp).trans h
end

theorem run_checkKey_str {P : Program} {w : World} {kT : TypeId} (hk : P.underlying kT = some .string) (em : Bool) (n : Nat) (s : ByteArray) : (Instr.checkKey em (n + 1) kT (.string s)).run P w = .ok () w := by
  simp [Instr.checkKey, run_underlying hk]
theorem run_findKey_str {P : Program} {w : World} {kT : TypeId} (hk : P.underlying kT = some .string) (s : ByteArray) (es : List MapEntry) {r : Option (Nat × Value)} (hf : Instr.findNow .string (.string s) es 0 = some r) : (Instr.findKey kT (.string s) es).run P w = .ok r w := by
  simp [Instr.findKey, run_underlying hk, hf]

/-- 'm[k] = v' at a key that is not there yet. -/
theorem wpList_update_str {P : Program} (w : World) {ops : Array Oper} {rest : List Oper} {o : Oper} {a : Act} {Q : Exit → Act → World → Prop}
    (hg : o.guard = none) (m x v : Operand) (t : TypeId) (hop : o.op = Op.insert t m x v)
    (kT e : TypeId) (hk : P.underlying kT = some .string) (ht : P.underlying t = some (.map kT e)) (b clock : Nat) (es : Array MapEntry) (hb : MapB w b es clock)
    (hm : a.eval m = .map (some b)) (s : ByteArray) (val : Value) (hx : a.eval x = .string s) (hv : a.eval v = val) (hf : Instr.findNow .string (.string s) es.toList 0 = some none)
    (hK : ∀ w', MapB w' b (es.push ⟨.string s, val, clock⟩) (clock + 1) → Keeps (fun i => i = b) w w' → wpList P ops Q rest (a.put o.dst undef) w') :
    wpList P ops Q (o :: rest) a w := by
  refine wpList_plain hg fun K' hK' => ?_
  have hrun : (Instr.mapUpdate t (.map (some b)) (.string s) val).run P w = .ok () { w with heap := w.heap.setIfInBounds b (.map (es.push ⟨.string s, val, clock⟩) (clock + 1)) } := by
    simp [Instr.mapUpdate, run_underlying ht, MapKept.run_getObj_map hb, run_checkKey_str hk, run_findKey_str hk s _ hf, MapKept.run_setObj_map _ hb, Result.andThen]
  have hlt := MapB.lt hb
  unfold Oper.wp
  simp [execOp, hop, hm, hx, hv, hrun, Result.andThen]
  refine hK' _ _ (hK _ ?_ ⟨rfl, rfl, rfl, by simp, fun i hi hn => ?_⟩)
  · simp [MapB, hlt]
  · simp [Ne.symm hn]

/-- 'v, ok := m[k]' at a key that is there. -/
theorem wpList_lookup_str {P : Program} (w : World) {ops : Array Oper} {rest : List Oper} {o : Oper} {a : Act} {Q : Exit → Act → World → Prop}
    (hg : o.guard = none) (m x : Operand) (t : TypeId) (hop : o.op = Op.lookup t m x true)
    (kT e : TypeId) (hk : P.underlying kT = some .string) (ht : P.underlying t = some (.map kT e)) (b clock : Nat) (es : Array MapEntry) (hb : MapB w b es clock)
    (hm : a.eval m = .map (some b)) (s : ByteArray) (i : Nat) (val : Value) (hx : a.eval x = .string s) (hf : Instr.findNow .string (.string s) es.toList 0 = some (some (i, val)))
    (hK : wpList P ops Q rest (a.put o.dst (.tuple #[val, .bool true])) w) :
    wpList P ops Q (o :: rest) a w := by
  refine wpList_plain hg fun K' hK' => ?_
  have hrun : (Instr.lookup t (.map (some b)) (.string s) true).run P w = .ok (.tuple #[val, .bool true]) w := by
    simp [Instr.lookup, run_underlying ht, MapKept.run_getObj_map hb, run_checkKey_str hk, run_findKey_str hk s _ hf, Result.andThen]
  unfold Oper.wp
  simp [execOp, hop, hm, hx, hrun, Result.andThen]
  exact hK' _ _ hK
end Go.Proofs.YtbjhkgmojmggjaaDoor
