/- Contracts of GiveUp and Learn, of witness and of its reference. -/
import Derived.Test.YtmgnpjaemjpamaaJ
set_option linter.unusedSimpArgs false
set_option linter.unusedVariables false
namespace Go.Proofs.Ytmgnpjaemjpamaa
open Go.RowKit

/-- The greater and the smaller number, closed to the walk. -/
def mx2 (a b : Int) : Int := if a < b then b else a
def mn2 (a b : Int) : Int := if b < a then b else a
theorem mx2_run (k : IntKind) (ats : Array TypeId) (ty : TypeId) (a b : Int) : Builtin.max_ ats ty #[.int k a, .int k b] = pure (.int k (mx2 a b)) := by
  simp only [Builtin.max_, List.foldlM_cons, List.foldlM_nil, Builtin.max2, gt_iff_lt, mx2]
  split <;> rfl
theorem mn2_run (k : IntKind) (ats : Array TypeId) (ty : TypeId) (a b : Int) : Builtin.min_ ats ty #[.int k a, .int k b] = pure (.int k (mn2 a b)) := by
  simp only [Builtin.min_, List.foldlM_cons, List.foldlM_nil, Builtin.min2, mn2]
  split <;> rfl
attribute [local go_sem ↓ high] mx2_run mn2_run

set_option maxHeartbeats 1000000 in
theorem giveup_c (S E U : Int) (w : World) : Calls Try.prog 23 #[.agg #[.int .i64 S, .int .i64 E, .int .i64 U]] w (Ret2 w (.agg (giveL S E U)) (.agg (giveM S E U))) := by
  rcases hl : lOk S E U with _ | _
  · have hok : (okN false != 0) = true := rfl
    have he : giveL S E U = #[.int .i64 S, .int .i64 E, .int .i64 U] := by simp [giveL, hl]
    have hm : giveM S E U = zeroM := by simp [giveM, hl]
    rw [he, hm]
    clear he hm
    go_enter Try.func23, Try.ntmps23
    go_wp2_with (first | (go_at_call 43; refine (formed_v hl _).mono ?_; rintro r w1 ⟨rfl, hb⟩; have HB := Lib.hid (tri_of hb); clear hb; have q0 := HB.out.1; have q1 := HB.out.2.1; have q2 := HB.out.2.2.1; have f0 := HB.out.2.2.2.1; have f1 := HB.out.2.2.2.2.1; have f2 := HB.out.2.2.2.2.2.1; have hz := HB.out.2.2.2.2.2.2.2; have hz1 : w.heap.size + 1 < w1.heap.size := (by omega); have hz0 : w.heap.size < w1.heap.size := (by omega)))
    exact bodyPost_ret (v := .tuple #[.agg #[.int .i64 S, .int .i64 E, .int .i64 U], .agg zeroM]) (by simp [results, Try.results23, go_sem, q1, q2, Msg8, nilS, zeroM]) rfl ⟨rfl, bl_set (bl_set (bl_set (bl_set (bl_set (bl_set (bl_set (bl_set (bl_set (bl_set (bl_set (HB.out.2.2.2.2.2.2.1) (by omega) _ _) (by omega) _ _) (by omega) _ _) (by omega) _ _) (by omega) _ _) (by omega) _ _) (by omega) _ _) (by omega) _ _) (by omega) _ _) (by omega) _ _) (by omega) _ _⟩
  · have hok : (okN true != 0) = false := rfl
    have he : giveL S E U = #[.int .i64 S, .int .i64 (mn2 (E + 1) 1073741824), .int .i64 0] := by
      have : mn2 (E + 1) 1073741824 = min (E + 1) 1073741824 := by unfold mn2; omega
      simp [giveL, hl, this]
    have hm : giveM S E U = Msg8 18 S 4 0 0 E nilS nilS := by simp [giveM, hl]
    rw [he, hm]
    clear he hm
    obtain ⟨hE0, hE1⟩ : 0 ≤ E ∧ E ≤ 1073741824 := by simp [lOk, btw] at hl; omega
    go_enter Try.func23, Try.ntmps23
    go_wp2_with (first | (go_at_call 43; refine (formed_v hl _).mono ?_; rintro r w1 ⟨rfl, hb⟩; have HB := Lib.hid (tri_of hb); clear hb; have q0 := HB.out.1; have q1 := HB.out.2.1; have q2 := HB.out.2.2.1; have f0 := HB.out.2.2.2.1; have f1 := HB.out.2.2.2.2.1; have f2 := HB.out.2.2.2.2.2.1; have hz := HB.out.2.2.2.2.2.2.2; have hz1 : w.heap.size + 1 < w1.heap.size := (by omega); have hz0 : w.heap.size < w1.heap.size := (by omega)))
    go_region
    all_goals
      go_wp2
      refine bodyPost_ret (v := .tuple #[.agg #[.int .i64 S, .int .i64 (mn2 (E + 1) 1073741824), .int .i64 0], .agg (Msg8 18 S 4 0 0 E nilS nilS)]) (by simp [results, Try.results23, go_sem, q1, q2, hz, hz1, Msg8, nilS]) rfl ⟨rfl, ?_⟩
      repeat (with_reducible first | apply Below.drew | (refine bl_set ?_ (by omega) _ _) | (refine Below.alloc ?_ (by simp; omega) _))
      exact HB.out.2.2.2.2.2.2.1

set_option maxHeartbeats 1000000 in
theorem rgiveup_c (S E U : Int) (w : World) : Calls Try.prog 24 #[.agg #[.int .i64 S, .int .i64 E, .int .i64 U]] w (Ret2 w (.agg (giveL S E U)) (.agg (giveM S E U))) := by
  rcases hl : lOk S E U with _ | _
  · have hok : (okN false != 0) = true := rfl
    have he : giveL S E U = #[.int .i64 S, .int .i64 E, .int .i64 U] := by simp [giveL, hl]
    have hm : giveM S E U = zeroM := by simp [giveM, hl]
    rw [he, hm]
    clear he hm
    go_enter Try.func24, Try.ntmps24
    go_wp2_with (first | (go_at_call 44; refine (rform_v hl _).mono ?_; rintro r w1 ⟨rfl, hb⟩; have HB := Lib.hid (tri_of hb); clear hb; have q0 := HB.out.1; have q1 := HB.out.2.1; have q2 := HB.out.2.2.1; have f0 := HB.out.2.2.2.1; have f1 := HB.out.2.2.2.2.1; have f2 := HB.out.2.2.2.2.2.1; have hz := HB.out.2.2.2.2.2.2.2; have hz1 : w.heap.size + 1 < w1.heap.size := (by omega); have hz0 : w.heap.size < w1.heap.size := (by omega)))
    exact bodyPost_ret (v := .tuple #[.agg #[.int .i64 S, .int .i64 E, .int .i64 U], .agg zeroM]) (by simp [results, Try.results24, go_sem, q1, q2, Msg8, nilS, zeroM]) rfl ⟨rfl, bl_set (bl_set (bl_set (bl_set (bl_set (bl_set (bl_set (bl_set (bl_set (bl_set (bl_set (HB.out.2.2.2.2.2.2.1) (by omega) _ _) (by omega) _ _) (by omega) _ _) (by omega) _ _) (by omega) _ _) (by omega) _ _) (by omega) _ _) (by omega) _ _) (by omega) _ _) (by omega) _ _) (by omega) _ _⟩
  · have hok : (okN true != 0) = false := rfl
    have he : giveL S E U = #[.int .i64 S, .int .i64 (mn2 (E + 1) 1073741824), .int .i64 0] := by
      have : mn2 (E + 1) 1073741824 = min (E + 1) 1073741824 := by unfold mn2; omega
      simp [giveL, hl, this]
    have hm : giveM S E U = Msg8 18 S 4 0 0 E nilS nilS := by simp [giveM, hl]
    rw [he, hm]
    clear he hm
    obtain ⟨hE0, hE1⟩ : 0 ≤ E ∧ E ≤ 1073741824 := by simp [lOk, btw] at hl; omega
    go_enter Try.func24, Try.ntmps24
    go_wp2_with (first | (go_at_call 44; refine (rform_v hl _).mono ?_; rintro r w1 ⟨rfl, hb⟩; have HB := Lib.hid (tri_of hb); clear hb; have q0 := HB.out.1; have q1 := HB.out.2.1; have q2 := HB.out.2.2.1; have f0 := HB.out.2.2.2.1; have f1 := HB.out.2.2.2.2.1; have f2 := HB.out.2.2.2.2.2.1; have hz := HB.out.2.2.2.2.2.2.2; have hz1 : w.heap.size + 1 < w1.heap.size := (by omega); have hz0 : w.heap.size < w1.heap.size := (by omega)))
    go_region
    all_goals
      go_wp2
      refine bodyPost_ret (v := .tuple #[.agg #[.int .i64 S, .int .i64 (mn2 (E + 1) 1073741824), .int .i64 0], .agg (Msg8 18 S 4 0 0 E nilS nilS)]) (by simp [results, Try.results24, go_sem, q1, q2, hz, hz1, Msg8, nilS]) rfl ⟨rfl, ?_⟩
      repeat (with_reducible first | apply Below.drew | (refine bl_set ?_ (by omega) _ _) | (refine Below.alloc ?_ (by simp; omega) _))
      exact HB.out.2.2.2.2.2.2.1

end Go.Proofs.Ytmgnpjaemjpamaa
