/- Blocks of memory as facts; the contract of awake, the examples of the chapter. -/
import Derived.Test.YtmgnpjaemjpamaaM
import Derived.Test.YtmgnpjaemjpamaaI
set_option linter.unusedSimpArgs false
set_option linter.unusedVariables false
namespace Go.Proofs.Ytmgnpjaemjpamaa
open Go.RowKit

/-- Block b holds these cells. -/
def Blk (w : World) (b : Nat) (cs : Array Value) : Prop := ∃ t, w.heap[b]? = some (.cells cs t (0, 0))
theorem Blk.cell {w : World} {b : Nat} {cs : Array Value} (h : Blk w b cs) : ∀ o, w.cell? ⟨b, o, none⟩ = cs[o]? := by
  obtain ⟨t, h⟩ := h; exact fun o => blk_cell h o
theorem Blk.frozen {w : World} {b : Nat} {cs : Array Value} (h : Blk w b cs) : ∀ o, w.frozen? ⟨b, o, none⟩ = false := by
  obtain ⟨t, h⟩ := h; exact fun o => blk_frozen h o
theorem Blk.lt {w : World} {b : Nat} {cs : Array Value} (h : Blk w b cs) : b < w.heap.size := by
  obtain ⟨t, h⟩ := h; exact blk_lt h
theorem Blk.below {w w' : World} {b : Nat} {cs : Array Value} (h : Blk w b cs) (hb : Below w.heap.size w w') : Blk w' b cs := by
  have := h.lt
  obtain ⟨t, h⟩ := h; exact ⟨t, by rw [hb.block _ this]; exact h⟩
theorem Blk.drew {w : World} {b : Nat} {cs : Array Value} (h : Blk w b cs) : Blk w.drew b cs := h
theorem Blk.drewN {w : World} {b : Nat} {cs : Array Value} (h : Blk w b cs) (n : Nat) : Blk (w.drewN n) b cs := h
theorem Blk.alloc {w : World} {b : Nat} {cs : Array Value} (h : Blk w b cs) (o : Obj) : Blk (w.alloc o) b cs := by
  have := h.lt
  obtain ⟨t, h⟩ := h; exact ⟨t, by rw [alloc_lt _ _ this]; exact h⟩
theorem Blk.new (w : World) (cs : Array Value) (t : TypeId) : Blk (w.alloc (.cells cs t)) w.heap.size cs := ⟨t, alloc_at _ _⟩
theorem Blk.set {w : World} {b : Nat} {cs : Array Value} (h : Blk w b cs) (i : Nat) (v : Value) : Blk (w.setCell ⟨b, i, none⟩ v) b (cs.setIfInBounds i v) := by
  obtain ⟨t, h⟩ := h; exact ⟨t, blk_set h i v⟩
theorem Blk.other {w : World} {b b' : Nat} {cs : Array Value} (h : Blk w b cs) (hne : b ≠ b') (i : Nat) (v : Value) : Blk (w.setCell ⟨b', i, none⟩ v) b cs := by
  obtain ⟨t, h⟩ := h; exact ⟨t, by rw [Below.heap_setCell _ _ _ _ hne]; exact h⟩
theorem Blk.cast {w : World} {b : Nat} {cs cs' : Array Value} (h : Blk w b cs) (he : cs = cs') : Blk w b cs' := he ▸ h

theorem aw1 (w : World) : Calls Try.prog 19 #[.agg #[.int .i64 0, .int .i64 0, .int .i64 0], .int .i64 1] w (Ret2 w (.agg #[.int .i64 15, .int .i64 0, .int .i64 4, .int .i64 0, .int .i64 0, .int .i64 1, .slice none 0 0, .slice none 0 0]) (.int .i64 0)) := ask_c 0 0 0 1 w
theorem aw2 (w : World) : Calls Try.prog 12 #[.agg #[.int .i64 0, .int .i64 0, .int .i64 0], .int .i64 5, .int .i64 10, .agg #[.int .i64 15, .int .i64 0, .int .i64 4, .int .i64 0, .int .i64 0, .int .i64 1, .slice none 0 0, .slice none 0 0]] w (HRet w 0 0 ((1, 0, 15), some (16, 1, 10))) := handle_c 0 0 0 5 10 15 0 4 0 0 1 nilS nilS w
theorem aw3 (w : World) : Calls Try.prog 17 #[.agg #[.int .i64 0, .int .i64 0, .int .i64 0], .int .i64 3, .int .i64 10, .int .i64 1, .agg #[.int .i64 16, .int .i64 4, .int .i64 0, .int .i64 0, .int .i64 10, .int .i64 1, .slice none 0 0, .slice none 0 0]] w (RetL w 0 (1, 12)) := learn_c 0 0 0 3 10 1 16 4 0 0 10 1 nilS nilS w
theorem aw4 (w : World) : Calls Try.prog 19 #[.agg #[.int .i64 1, .int .i64 0, .int .i64 0], .int .i64 2] w (Ret2 w (.agg #[.int .i64 15, .int .i64 1, .int .i64 4, .int .i64 0, .int .i64 0, .int .i64 2, .slice none 0 0, .slice none 0 0]) (.int .i64 0)) := ask_c 1 0 0 2 w
theorem aw5 (w : World) : Calls Try.prog 12 #[.agg #[.int .i64 1, .int .i64 0, .int .i64 15], .int .i64 14, .int .i64 10, .agg #[.int .i64 15, .int .i64 1, .int .i64 4, .int .i64 0, .int .i64 0, .int .i64 2, .slice none 0 0, .slice none 0 0]] w (HRet w 1 0 ((1, 0, 15), some (12, 1, 0))) := handle_c 1 0 15 14 10 15 1 4 0 0 2 nilS nilS w
theorem aw6 (w : World) : Calls Try.prog 12 #[.agg #[.int .i64 1, .int .i64 0, .int .i64 15], .int .i64 15, .int .i64 10, .agg #[.int .i64 15, .int .i64 1, .int .i64 4, .int .i64 0, .int .i64 0, .int .i64 2, .slice none 0 0, .slice none 0 0]] w (HRet w 1 0 ((2, 1, 25), some (16, 2, 10))) := handle_c 1 0 15 15 10 15 1 4 0 0 2 nilS nilS w
theorem aw7 (w : World) : Calls Try.prog 23 #[.agg #[.int .i64 0, .int .i64 1, .int .i64 12]] w (Ret2 w (.agg #[.int .i64 0, .int .i64 2, .int .i64 0]) (.agg #[.int .i64 18, .int .i64 0, .int .i64 4, .int .i64 0, .int .i64 0, .int .i64 1, .slice none 0 0, .slice none 0 0])) := giveup_c 0 1 12 w
theorem aw8 (w : World) : Calls Try.prog 17 #[.agg #[.int .i64 0, .int .i64 2, .int .i64 0], .int .i64 3, .int .i64 10, .int .i64 1, .agg #[.int .i64 16, .int .i64 4, .int .i64 0, .int .i64 0, .int .i64 10, .int .i64 1, .slice none 0 0, .slice none 0 0]] w (RetL w 0 (2, 0)) := learn_c 0 2 0 3 10 1 16 4 0 0 10 1 nilS nilS w
theorem aw9 (w : World) : Calls Try.prog 25 #[.agg #[.int .i64 0, .int .i64 1, .int .i64 12], .int .i64 11] w fun e w' => e = .returned (.bool true) ∧ Below w.heap.size w w' := holds_c 0 1 12 11 w
theorem aw10 (w : World) : Calls Try.prog 25 #[.agg #[.int .i64 0, .int .i64 1, .int .i64 12], .int .i64 12] w fun e w' => e = .returned (.bool false) ∧ Below w.heap.size w w' := holds_c 0 1 12 12 w

end Go.Proofs.Ytmgnpjaemjpamaa
