/- Contracts of few, SameInts and SameMessages at messages without values and body. -/
import Derived.Test.YtmgnpjaemjpamaaO
import Derived.LoopTactic
import Derived.Handy
set_option linter.unusedSimpArgs false
set_option linter.unusedVariables false
namespace Go.Proofs.Ytmgnpjaemjpamaa
open Go.RowKit

def fewB (l m : Nat) : Bool := decide (l ≤ 20) && decide (m ≤ 40)
theorem few_c (k f t n v e : Int) (A B : Option Addr) (l c m d : Nat) (w : World) :
    Calls Try.prog 10 #[.agg (Msg8 k f t n v e (.slice A l c) (.slice B m d))] w fun r w' => r = .returned (.bool (fewB l m)) ∧ Below w.heap.size w w' := by
  unfold Msg8
  rcases hl : decide ((l : Int) ≤ 20) with _ | _
  · have h1 : ¬ l ≤ 20 := by have := of_decide_eq_false hl; omega
    go_enter Try.func10, Try.ntmps10
    go_wp2
    go_ret
    exact ⟨by simp [fewB, h1], (Below.refl _ _).alloc (Nat.le_refl _) _⟩
  · have h1 : l ≤ 20 := by have := of_decide_eq_true hl; omega
    go_enter Try.func10, Try.ntmps10
    go_wp2
    go_ret
    exact ⟨by simp [fewB, h1]; omega, (Below.refl _ _).alloc (Nat.le_refl _) _⟩

theorem ints_nil (w : World) : Calls Try.prog 42 #[.slice none 0 0, .slice none 0 0] w fun r w' => r = .returned (.bool true) ∧ w = w' := by
  go_enter Try.func42, Try.ntmps42
  go_wp2
  refine wp_loop_rounds 1 ?_
  rw [rounds_succ]
  go_wp2
  go_ret
  exact ⟨rfl, rfl⟩

theorem same_nil (w : World) : Calls Try.prog 14 #[.slice none 0 0, .slice none 0 0] w fun r w' => r = .returned (.bool true) ∧ w = w' := by
  go_enter Try.func14, Try.ntmps14
  go_wp2
  refine wp_loop_rounds 1 ?_
  rw [rounds_succ]
  go_wp2
  go_ret
  exact ⟨rfl, rfl⟩

theorem conv_nil (w : World) : (convert 25 9 (.slice none 0 0)).run Try.prog w = .ok (.string ⟨#[]⟩) w := by kernel_rfl

theorem same_one (k f t n v e : Int) (b1 b2 : Nat) (w : World) (h1 : Blk w b1 #[.int .i64 k, .int .i64 f, .int .i64 t, .int .i64 n, .int .i64 v, .int .i64 e, .slice none 0 0, .slice none 0 0]) (h2 : Blk w b2 #[.int .i64 k, .int .i64 f, .int .i64 t, .int .i64 n, .int .i64 v, .int .i64 e, .slice none 0 0, .slice none 0 0]) :
    Calls Try.prog 14 #[.slice (some ⟨b1, 0, none⟩) 1 1, .slice (some ⟨b2, 0, none⟩) 1 1] w fun r w' => r = .returned (.bool true) ∧ Below w.heap.size w w' := by
  have c1 := h1.cell
  have c2 := h2.cell
  have hcv := conv_nil
  have z1 := h1.lt
  have z2 := h2.lt
  clear h1 h2
  go_enter Try.func14, Try.ntmps14
  go_wp2
  refine wp_loop_rounds 2 ?_
  rw [rounds_succ]
  go_wp2
  go_region
  all_goals
    go_wp2_with (first | (go_at_call 42; refine (ints_nil _).mono ?_; rintro r w2 ⟨rfl, rfl⟩))
    rw [rounds_succ]
    go_wp2
    go_ret
    exact ⟨rfl, by repeat (with_reducible first | exact Below.refl _ _ | apply Below.drew | apply bl_alloc | apply bl_drewN)⟩

end Go.Proofs.Ytmgnpjaemjpamaa
