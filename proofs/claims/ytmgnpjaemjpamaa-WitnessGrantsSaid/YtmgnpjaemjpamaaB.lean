/- Contracts of the small functions of witness and its reference, part 2. -/
import Derived.Test.YtmgnpjaemjpamaaA
namespace Go.Proofs.Ytmgnpjaemjpamaa
open Go.RowKit

def wOk (E H U : Int) : Bool := btw E 0 1073741824 && (btw U 0 1073741824 && (H == -1 || btw H 0 3))

def okN (b : Bool) : Int := if b then 0 else 3

theorem check_c (E H U : Int) (w : World) :
    Calls Try.prog 15 #[.agg #[.int .i64 E, .int .i64 H, .int .i64 U]] w fun e w' => e = .returned (.int .i64 (okN (wOk E H U))) ∧ Below w.heap.size w w' := by
  rcases hE : btw E 0 1073741824 with _ | _
  · go_enter Try.func15, Try.ntmps15
    go_wp2_with (go_at_call 32; refine (time_c _ _).mono ?_; rintro e w' ⟨rfl, rfl⟩)
    go_ret
    exact ⟨by simp [okN, wOk, hE], (Below.refl _ _).alloc (Nat.le_refl _) _⟩
  rcases hU : btw U 0 1073741824 with _ | _
  · go_enter Try.func15, Try.ntmps15
    go_wp2_with (go_at_call 32; refine (time_c _ _).mono ?_; rintro e w' ⟨rfl, rfl⟩)
    go_ret
    exact ⟨by simp [okN, wOk, hE, hU], (Below.refl _ _).alloc (Nat.le_refl _) _⟩
  rcases hN : (H == -1) with _ | _
  · have hN' : (H != -1) = true := by simpa using hN
    rcases hH : btw H 0 3 with _ | _
    · go_enter Try.func15, Try.ntmps15
      go_wp2_with (first | (go_at_call 32; refine (time_c _ _).mono ?_; rintro e w' ⟨rfl, rfl⟩) | (go_at_call 34; refine (site_c _ _).mono ?_; rintro e w' ⟨rfl, rfl⟩))
      go_ret
      exact ⟨by simp [okN, wOk, hE, hU, hN, hH], (Below.refl _ _).alloc (Nat.le_refl _) _⟩
    · go_enter Try.func15, Try.ntmps15
      go_wp2_with (first | (go_at_call 32; refine (time_c _ _).mono ?_; rintro e w' ⟨rfl, rfl⟩) | (go_at_call 34; refine (site_c _ _).mono ?_; rintro e w' ⟨rfl, rfl⟩))
      go_ret
      exact ⟨by simp [okN, wOk, hE, hU, hH], (Below.refl _ _).alloc (Nat.le_refl _) _⟩
  · have hN' : (H != -1) = false := by simpa using hN
    go_enter Try.func15, Try.ntmps15
    go_wp2_with (first | (go_at_call 32; refine (time_c _ _).mono ?_; rintro e w' ⟨rfl, rfl⟩) | (go_at_call 34; refine (site_c _ _).mono ?_; rintro e w' ⟨rfl, rfl⟩))
    go_ret
    exact ⟨by simp [okN, wOk, hE, hU, hN], (Below.refl _ _).alloc (Nat.le_refl _) _⟩

end Go.Proofs.Ytmgnpjaemjpamaa
