/- Contracts of the reference of witness: in, site, Check, Held, answer. -/
import Derived.Test.YtmgnpjaemjpamaaE
set_option linter.unusedSimpArgs false
set_option linter.unusedVariables false
namespace Go.Proofs.Ytmgnpjaemjpamaa
open Go.RowKit

theorem in_c (n : Int) (w : World) :
    Calls Try.prog 38 #[.int .i64 n] w fun e w' => e = .returned (.bool (btw n 0 1073741824)) ∧ w = w' := by
  rcases h : decide (0 ≤ n) with _ | _
  · have h' : ¬ (0 ≤ n) := of_decide_eq_false h
    clear h
    go_enter Try.func38, Try.ntmps38
    go_wp2
    go_ret
    exact ⟨by simp [btw]; omega, rfl⟩
  · have h' : 0 ≤ n := of_decide_eq_true h
    clear h
    go_enter Try.func38, Try.ntmps38
    go_wp2
    go_ret
    exact ⟨by simp [btw, h'], rfl⟩

theorem rsite_c (n : Int) (w : World) :
    Calls Try.prog 39 #[.int .i64 n] w fun e w' => e = .returned (.bool (btw n 0 3)) ∧ w = w' := by
  rcases h : decide (0 ≤ n) with _ | _
  · have h' : ¬ (0 ≤ n) := of_decide_eq_false h
    clear h
    go_enter Try.func39, Try.ntmps39
    go_wp2
    go_ret
    exact ⟨by simp [btw]; omega, rfl⟩
  · have h' : 0 ≤ n := of_decide_eq_true h
    clear h
    go_enter Try.func39, Try.ntmps39
    go_wp2
    go_ret
    exact ⟨by simp [btw, h']; omega, rfl⟩

theorem rheld_c (E H U now : Int) (w : World) :
    Calls Try.prog 40 #[.agg #[.int .i64 E, .int .i64 H, .int .i64 U], .int .i64 now] w fun r w' => r = .returned (.bool (heldB H U now)) ∧ Below w.heap.size w w' := by
  rcases hN : (H != -1) with _ | _
  · go_enter Try.func40, Try.ntmps40
    go_wp2
    go_ret
    exact ⟨by simp [heldB, hN], (Below.refl _ _).alloc (Nat.le_refl _) _⟩
  · go_enter Try.func40, Try.ntmps40
    go_wp2
    go_ret
    exact ⟨by simp [heldB, hN], (Below.refl _ _).alloc (Nat.le_refl _) _⟩
theorem rheld_v {E H U now : Int} {c : Bool} (hh : heldB H U now = c) (w : World) :
    Calls Try.prog 40 #[.agg #[.int .i64 E, .int .i64 H, .int .i64 U], .int .i64 now] w fun r w' => r = .returned (.bool c) ∧ Below w.heap.size w w' := by
  subst hh; exact rheld_c _ _ _ _ _

theorem ranswer_c (k f t n v e : Int) (vs bd : Value) (kind epoch value : Int) (w : World) :
    Calls Try.prog 41 #[.agg (Msg8 k f t n v e vs bd), .int .i64 kind, .int .i64 epoch, .int .i64 value] w (RetMsg w kind f n value epoch) := by
  unfold Msg8
  go_enter Try.func41, Try.ntmps41
  go_wp2
  go_ret
  have h1 := (Below.refl w.heap.size w).alloc (Nat.le_refl _) (.cells #[.int .i64 k, .int .i64 f, .int .i64 t, .int .i64 n, .int .i64 v, .int .i64 e, vs, bd] 27)
  exact ⟨_, rfl, ⟨w.heap.size + 1, by omega, rfl, map_at _ _ _⟩, h1.alloc (by simp) _⟩

theorem rcheck_c (E H U : Int) (w : World) :
    Calls Try.prog 16 #[.agg #[.int .i64 E, .int .i64 H, .int .i64 U]] w fun e w' => e = .returned (.int .i64 (okN (wOk E H U))) ∧ Below w.heap.size w w' := by
  rcases hE : btw E 0 1073741824 with _ | _
  · go_enter Try.func16, Try.ntmps16
    go_wp2_with (go_at_call 38; refine (in_c _ _).mono ?_; rintro e w' ⟨rfl, rfl⟩)
    go_ret
    exact ⟨by simp [okN, wOk, hE], (Below.refl _ _).alloc (Nat.le_refl _) _⟩
  rcases hU : btw U 0 1073741824 with _ | _
  · go_enter Try.func16, Try.ntmps16
    go_wp2_with (go_at_call 38; refine (in_c _ _).mono ?_; rintro e w' ⟨rfl, rfl⟩)
    go_ret
    exact ⟨by simp [okN, wOk, hE, hU], (Below.refl _ _).alloc (Nat.le_refl _) _⟩
  rcases hN : (H == -1) with _ | _
  · have hN' : (H != -1) = true := by simpa using hN
    rcases hH : btw H 0 3 with _ | _
    · go_enter Try.func16, Try.ntmps16
      go_wp2_with (first | (go_at_call 38; refine (in_c _ _).mono ?_; rintro e w' ⟨rfl, rfl⟩) | (go_at_call 39; refine (rsite_c _ _).mono ?_; rintro e w' ⟨rfl, rfl⟩))
      go_ret
      exact ⟨by simp [okN, wOk, hE, hU, hN, hH], (Below.refl _ _).alloc (Nat.le_refl _) _⟩
    · go_enter Try.func16, Try.ntmps16
      go_wp2_with (first | (go_at_call 38; refine (in_c _ _).mono ?_; rintro e w' ⟨rfl, rfl⟩) | (go_at_call 39; refine (rsite_c _ _).mono ?_; rintro e w' ⟨rfl, rfl⟩))
      go_ret
      exact ⟨by simp [okN, wOk, hE, hU, hH], (Below.refl _ _).alloc (Nat.le_refl _) _⟩
  · have hN' : (H != -1) = false := by simpa using hN
    go_enter Try.func16, Try.ntmps16
    go_wp2_with (first | (go_at_call 38; refine (in_c _ _).mono ?_; rintro e w' ⟨rfl, rfl⟩) | (go_at_call 39; refine (rsite_c _ _).mono ?_; rintro e w' ⟨rfl, rfl⟩))
    go_ret
    exact ⟨by simp [okN, wOk, hE, hU, hN], (Below.refl _ _).alloc (Nat.le_refl _) _⟩

end Go.Proofs.Ytmgnpjaemjpamaa
