/- Contracts of begin and State.holders. -/
import Derived.Test.YtmgnpjaemjpamaaX
set_option linter.unusedSimpArgs false
set_option linter.unusedVariables false
namespace Go.Proofs.Ytmgnpjaemjpamaa
open Go.RowKit
attribute [local go_sem] st0 st1 st2 st3 st4 st5 st6 st7 st8 st9 st10 st11 st12 st13 st14

def onSt : SS := { zeroSt with rt := true }
theorem zero_on : zeroC.setIfInBounds 95 (.bool true) = stC onSt (.slice none 0 0) (.slice none 0 0) := by
  apply Array.ext'
  rfl
theorem zero_size : zeroC.size = 96 := stC_size zeroSt _ _ rfl
theorem begin_cells : (((stC onSt (.slice none 0 0) (.slice none 0 0)).setIfInBounds 3 (.int .i64 0)).setIfInBounds 6 (.int .i64 1)).setIfInBounds 9 (.int .i64 2) = stC beginS (.slice none 0 0) (.slice none 0 0) := by
  apply Array.ext'
  rfl

set_option maxRecDepth 100000 in
set_option maxHeartbeats 1000000 in
theorem begin_c (w : World) : Calls Try.prog 27 #[] w (RetS w (.agg #[]) beginS) := by
  have hz58 := z58
  have hzz := zero_on
  go_enter Try.func27, Try.ntmps27
  go_wp2_with (first | (refine st_store rfl _ _ rfl (w.heap.size + 1) onSt none 0 0 none 0 0 rfl rfl zeroC (Blk.new1 _ _ _ _) zero_size rfl ?_))
  have hsz : (stC onSt (.slice none 0 0) (.slice none 0 0)).size = zeroC.size := rfl
  have B0 := ((Blk.new w zeroC 58).alloc (.cells zeroC 58)).setAllOther (b := w.heap.size + 1) (by omega) 0 (stC onSt (.slice none 0 0) (.slice none 0 0)).toList
  have B1 := (Blk.new1 w (.cells zeroC 58) zeroC 58).setAll (stC onSt (.slice none 0 0) (.slice none 0 0)) hsz
  have HB := bl_sets (B := w.heap.size) (b := w.heap.size + 1) (by omega) (stC onSt (.slice none 0 0) (.slice none 0 0)).toList 0 _ (bl_alloc (bl_alloc (Below.refl _ w) (.cells zeroC 58)) (.cells zeroC 58))
  generalize ((w.alloc (.cells zeroC 58)).alloc (.cells zeroC 58)).setCells (w.heap.size + 1) 0 (stC onSt (.slice none 0 0) (.slice none 0 0)).toList = W at B0 B1 HB ⊢
  clear hsz
  have c1 := B1.cell
  have f1 := B1.frozen
  have K0 := Lib.hid B0
  have K1 := Lib.hid B1
  have KB := Lib.hid HB
  clear B0 B1 HB
  refine wp_loop_rounds 4 ?_
  rw [rounds_succ]
  go_wp2
  rw [rounds_succ]
  go_wp2
  rw [rounds_succ]
  go_wp2
  rw [rounds_succ]
  have B3 := ((K1.out.set 3 (.int .i64 0)).set 6 (.int .i64 1)).set 9 (.int .i64 2)
  rw [begin_cells] at B3
  have B4 := ((K0.out.other (show w.heap.size ≠ w.heap.size + 1 by omega) 3 (.int .i64 0)).other (show w.heap.size ≠ w.heap.size + 1 by omega) 6 (.int .i64 1)).other (show w.heap.size ≠ w.heap.size + 1 by omega) 9 (.int .i64 2)
  go_wp2_with (first | (refine st_load rfl _ rfl (w.heap.size + 1) rfl beginS _ _ B3 rfl ?_) | (refine st_store rfl _ _ rfl w.heap.size beginS none 0 0 none 0 0 rfl rfl zeroC B4 zero_size rfl ?_))
  have hsz : (stC beginS (.slice none 0 0) (.slice none 0 0)).size = zeroC.size := rfl
  refine bodyPost_ret (st_result rfl _ _ w.heap.size beginS _ _ rfl (B4.setAll _ hsz) rfl) rfl ⟨_, rfl, ⟨_, _, rfl, rfl, .inl ⟨rfl, rfl, _, _, rfl, rfl⟩, .inl ⟨rfl, rfl, _, _, rfl, rfl⟩⟩, bl_sets (Nat.le_refl _) _ _ _ (bl_set (bl_set (bl_set KB.out (by omega) _ _) (by omega) _ _) (by omega) _ _), fun b hb => by rcases rows_of hb with h | h <;> simp [Value.ownBlock] at h⟩

end Go.Proofs.Ytmgnpjaemjpamaa
