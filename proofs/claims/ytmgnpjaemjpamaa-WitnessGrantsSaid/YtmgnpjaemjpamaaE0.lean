/- Laws for the map of handlers that witness.Handle makes. -/
import Derived.Test.YtmgnpjaemjpamaaD
set_option linter.unusedSimpArgs false
set_option linter.unusedVariables false
namespace Go.Proofs.Ytmgnpjaemjpamaa
open Go.RowKit
theorem und74 : Try.prog.underlying 74 = some (.map 3 73) := by kernel_rfl
theorem und3 : Try.prog.underlying 3 = some (.int .i64) := by kernel_rfl
theorem zero73 (w : World) : (zeroValue 73).run Try.prog w = .ok .nilFunc w := by kernel_rfl
theorem alloc_back (w : World) (o o' : Obj) : ({ w.alloc o with heap := (w.alloc o).heap.setIfInBounds w.heap.size o' } : World) = w.alloc o' := by
  show World.mk _ _ _ _ _ = World.mk _ _ _ _ _
  congr 1
  show (w.heap.push o).setIfInBounds w.heap.size o' = w.heap.push o'
  apply Array.ext_getElem?
  intro i
  rw [Array.getElem?_setIfInBounds]
  simp only [Array.getElem?_push, Array.size_push]
  by_cases h : w.heap.size = i
  · subst h; simp
  · have h' : i ≠ w.heap.size := fun e => h e.symm
    simp [h, h']

theorem ins (w : World) (es : Array MapEntry) (c : Nat) (key : Int) (x : Value) (hf : Instr.findNow (.int .i64) (.int .i64 key) es.toList 0 = some none) :
    (Instr.mapUpdate 74 (.map (some w.heap.size)) (.int .i64 key) x).run Try.prog (w.alloc (.map es c)) = .ok () (w.alloc (.map (es.push ⟨.int .i64 key, x, c⟩) (c + 1))) := by
  have hb : (w.alloc (.map es c)).heap[w.heap.size]? = some (.map es c) := alloc_at _ _
  have hk : MapKept.IsKey (.int .i64) (.int .i64 key) := rfl
  simp only [Instr.mapUpdate, Sem.run_bind, run_underlying und74, MapKept.run_getObj_map hb, MapKept.run_checkKey und3 hk, MapKept.run_findKey und3 hf, MapKept.run_setObj_map _ hb, Result.andThen, alloc_back]

theorem look_yes (w : World) (r : Nat) (es : Array MapEntry) (c i : Nat) (key : Int) (v : Value) (hb : w.heap[r]? = some (.map es c)) (hf : Instr.findNow (.int .i64) (.int .i64 key) es.toList 0 = some (some (i, v))) :
    (Instr.lookup 74 (.map (some r)) (.int .i64 key) true).run Try.prog w = .ok (.tuple #[v, .bool true]) w := by
  have hk : MapKept.IsKey (.int .i64) (.int .i64 key) := rfl
  simp [Instr.lookup, Sem.run_bind, run_underlying und74, MapKept.run_getObj_map hb, MapKept.run_checkKey und3 hk, MapKept.run_findKey und3 hf, Result.andThen]

theorem look_no (w : World) (r : Nat) (es : Array MapEntry) (c : Nat) (key : Int) (hb : w.heap[r]? = some (.map es c)) (hf : Instr.findNow (.int .i64) (.int .i64 key) es.toList 0 = some none) :
    (Instr.lookup 74 (.map (some r)) (.int .i64 key) true).run Try.prog w = .ok (.tuple #[.nilFunc, .bool false]) w := by
  have hk : MapKept.IsKey (.int .i64) (.int .i64 key) := rfl
  simp [Instr.lookup, Sem.run_bind, run_underlying und74, MapKept.run_getObj_map hb, MapKept.run_checkKey und3 hk, MapKept.run_findKey und3 hf, Result.andThen, zero73]

theorem alloc_lt (w : World) (o : Obj) {k : Nat} (h : k < w.heap.size) : (w.alloc o).heap[k]? = w.heap[k]? := Below.heap_alloc _ _ _ h
theorem alloc2_at (w : World) (a b : Obj) : ((w.alloc a).alloc b).heap[w.heap.size]? = some a := by
  rw [alloc_lt _ _ (by simp), alloc_at]

/-- The result's block, behind the call of a handler. -/
theorem res_block {w w1 w' : World} {a b c o1 o2 : Obj} (h1 : Below (((w.alloc a).alloc b).alloc c).heap.size (((w.alloc a).alloc b).alloc c) w1)
    (h2 : Below w1.heap.size ((w1.alloc o1).alloc o2) w') : w'.heap[w.heap.size + 1 + 1]? = some c := by
  have hz := h1.size
  simp at hz
  rw [h2.block _ (by omega), alloc_lt _ _ (by simp; omega), alloc_lt _ _ (by omega), h1.block _ (by simp)]
  have := alloc_at ((w.alloc a).alloc b) c
  simpa using this

theorem below5 {w w1 w' : World} {a b c o1 o2 : Obj} (h1 : Below (((w.alloc a).alloc b).alloc c).heap.size (((w.alloc a).alloc b).alloc c) w1)
    (h2 : Below w1.heap.size ((w1.alloc o1).alloc o2) w') : Below w.heap.size w w' := by
  have hz := h1.size
  simp at hz
  have h3 := below3 h1
  exact ((h3.alloc (by omega) o1).alloc (by simp; omega) o2).trans (h2.mono (by omega))
end Go.Proofs.Ytmgnpjaemjpamaa
