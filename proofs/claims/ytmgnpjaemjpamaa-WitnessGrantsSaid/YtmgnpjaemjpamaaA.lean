/- Contracts of the small functions of witness and its reference. -/
import Derived.Test.YtmgnpjaemjpamaaProg
import Derived.WalkKit
import Derived.KernelRfl
import Derived.Deep.QuietTactic
import Derived.BigQuiet
import Derived.Lib.Hide
namespace Go.Proofs.Ytmgnpjaemjpamaa
open Go.RowKit

def maxT : Int := 1073741824

def btw (n lo hi : Int) : Bool := decide (lo ≤ n) && decide (n ≤ hi)

theorem between_c (n lo hi : Int) (w : World) :
    Calls Try.prog 33 #[.int .i64 n, .int .i64 lo, .int .i64 hi] w fun e w' => e = .returned (.bool (btw n lo hi)) ∧ w = w' := by
  by_cases h : lo ≤ n
  · have hd : decide (lo ≤ n) = true := decide_eq_true h
    go_enter Try.func33, Try.ntmps33
    go_wp2
    go_ret
    exact ⟨by simp [btw, hd], rfl⟩
  · have hd : decide (lo ≤ n) = false := decide_eq_false h
    go_enter Try.func33, Try.ntmps33
    go_wp2
    go_ret
    exact ⟨by simp [btw, hd], rfl⟩

theorem time_c (n : Int) (w : World) :
    Calls Try.prog 32 #[.int .i64 n] w fun e w' => e = .returned (.bool (btw n 0 1073741824)) ∧ w = w' := by
  go_enter Try.func32, Try.ntmps32
  go_wp2_with (go_at_call 33; refine (between_c _ _ _ _).mono ?_; rintro e w' ⟨rfl, rfl⟩)
  go_ret
  exact ⟨rfl, rfl⟩

theorem site_c (n : Int) (w : World) :
    Calls Try.prog 34 #[.int .i64 n] w fun e w' => e = .returned (.bool (btw n 0 3)) ∧ w = w' := by
  go_enter Try.func34, Try.ntmps34
  go_wp2_with (go_at_call 33; refine (between_c _ _ _ _).mono ?_; rintro e w' ⟨rfl, rfl⟩)
  go_ret
  exact ⟨rfl, rfl⟩

end Go.Proofs.Ytmgnpjaemjpamaa
