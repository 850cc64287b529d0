/- Contracts of Learn, of witness and of its reference. -/
import Derived.Test.YtmgnpjaemjpamaaK
set_option linter.unusedSimpArgs false
set_option linter.unusedVariables false
namespace Go.Proofs.Ytmgnpjaemjpamaa
open Go.RowKit
attribute [local go_sem ↓ high] mx2_run mn2_run

/-- The time until which a lease counts that is learned. -/
def untilS (sent term margin v : Int) : Int := max (min (sent + min term v - margin) 1073741824) 0
def learnOk (S E U sent term margin t e : Int) : Bool := lOk S E U && (btw sent 0 1073741824 && (btw term 0 1073741824 && (btw margin 0 1073741824 && (t == S && btw e 0 1073741824))))
def learnS (S E U sent term margin k t v e : Int) : Int × Int :=
  if learnOk S E U sent term margin t e then
    if k = 16 then (if E < e then (e, untilS sent term margin v) else if e = E then (E, max U (untilS sent term margin v)) else (E, U))
    else if k = 12 then (if E < e then (E, 0) else (E, U))
    else (E, U)
  else (E, U)

def RetL (w : World) (S : Int) (p : Int × Int) (r : Ending) (w' : World) : Prop := r = .returned (.agg #[.int .i64 S, .int .i64 p.1, .int .i64 p.2]) ∧ Below w.heap.size w w'

theorem learn_bad (S E U sent term margin k f t n v e : Int) (vs bd : Value) (w : World) (hg : learnOk S E U sent term margin t e = false) :
    Calls Try.prog 17 #[.agg #[.int .i64 S, .int .i64 E, .int .i64 U], .int .i64 sent, .int .i64 term, .int .i64 margin, .agg (Msg8 k f t n v e vs bd)] w (RetL w S (E, U)) := by
  unfold Msg8
  rcases hl : lOk S E U with _ | _
  · clear hg
    have hok : (okN false != 0) = true := rfl
    go_enter Try.func17, Try.ntmps17
    go_wp2_with (first | (go_at_call 43; refine (formed_v hl _).mono ?_; rintro r w1 ⟨rfl, hb⟩; have HB := Lib.hid (tri_of hb); clear hb; have q0 := HB.out.1; have q1 := HB.out.2.1; have q2 := HB.out.2.2.1; have f0 := HB.out.2.2.2.1; have f1 := HB.out.2.2.2.2.1; have f2 := HB.out.2.2.2.2.2.1; have hz := HB.out.2.2.2.2.2.2.2; have hz1 : w.heap.size + 1 < w1.heap.size := (by omega); have hz0 : w.heap.size < w1.heap.size := (by omega)) | (go_at_call 32; refine (time_c _ _).mono ?_; rintro r w2 ⟨rfl, rfl⟩))
    exact bodyPost_ret (v := .agg #[.int .i64 S, .int .i64 E, .int .i64 U]) (by simp [results, Try.results17, go_sem, q2]) rfl ⟨rfl, bl_set (bl_set (bl_set (HB.out.2.2.2.2.2.2.1) (by omega) _ _) (by omega) _ _) (by omega) _ _⟩
  have hok : (okN true != 0) = false := rfl
  rcases h1 : btw sent 0 1073741824 with _ | _
  · clear hg
    go_enter Try.func17, Try.ntmps17
    go_wp2_with (first | (go_at_call 43; refine (formed_v hl _).mono ?_; rintro r w1 ⟨rfl, hb⟩; have HB := Lib.hid (tri_of hb); clear hb; have q0 := HB.out.1; have q1 := HB.out.2.1; have q2 := HB.out.2.2.1; have f0 := HB.out.2.2.2.1; have f1 := HB.out.2.2.2.2.1; have f2 := HB.out.2.2.2.2.2.1; have hz := HB.out.2.2.2.2.2.2.2; have hz1 : w.heap.size + 1 < w1.heap.size := (by omega); have hz0 : w.heap.size < w1.heap.size := (by omega)) | (go_at_call 32; refine (time_c _ _).mono ?_; rintro r w2 ⟨rfl, rfl⟩))
    exact bodyPost_ret (v := .agg #[.int .i64 S, .int .i64 E, .int .i64 U]) (by simp [results, Try.results17, go_sem, q2]) rfl ⟨rfl, bl_set (bl_set (bl_set (HB.out.2.2.2.2.2.2.1) (by omega) _ _) (by omega) _ _) (by omega) _ _⟩
  rcases h2 : btw term 0 1073741824 with _ | _
  · clear hg
    go_enter Try.func17, Try.ntmps17
    go_wp2_with (first | (go_at_call 43; refine (formed_v hl _).mono ?_; rintro r w1 ⟨rfl, hb⟩; have HB := Lib.hid (tri_of hb); clear hb; have q0 := HB.out.1; have q1 := HB.out.2.1; have q2 := HB.out.2.2.1; have f0 := HB.out.2.2.2.1; have f1 := HB.out.2.2.2.2.1; have f2 := HB.out.2.2.2.2.2.1; have hz := HB.out.2.2.2.2.2.2.2; have hz1 : w.heap.size + 1 < w1.heap.size := (by omega); have hz0 : w.heap.size < w1.heap.size := (by omega)) | (go_at_call 32; refine (time_c _ _).mono ?_; rintro r w2 ⟨rfl, rfl⟩))
    exact bodyPost_ret (v := .agg #[.int .i64 S, .int .i64 E, .int .i64 U]) (by simp [results, Try.results17, go_sem, q2]) rfl ⟨rfl, bl_set (bl_set (bl_set (HB.out.2.2.2.2.2.2.1) (by omega) _ _) (by omega) _ _) (by omega) _ _⟩
  rcases h3 : btw margin 0 1073741824 with _ | _
  · clear hg
    go_enter Try.func17, Try.ntmps17
    go_wp2_with (first | (go_at_call 43; refine (formed_v hl _).mono ?_; rintro r w1 ⟨rfl, hb⟩; have HB := Lib.hid (tri_of hb); clear hb; have q0 := HB.out.1; have q1 := HB.out.2.1; have q2 := HB.out.2.2.1; have f0 := HB.out.2.2.2.1; have f1 := HB.out.2.2.2.2.1; have f2 := HB.out.2.2.2.2.2.1; have hz := HB.out.2.2.2.2.2.2.2; have hz1 : w.heap.size + 1 < w1.heap.size := (by omega); have hz0 : w.heap.size < w1.heap.size := (by omega)) | (go_at_call 32; refine (time_c _ _).mono ?_; rintro r w2 ⟨rfl, rfl⟩))
    exact bodyPost_ret (v := .agg #[.int .i64 S, .int .i64 E, .int .i64 U]) (by simp [results, Try.results17, go_sem, q2]) rfl ⟨rfl, bl_set (bl_set (bl_set (HB.out.2.2.2.2.2.2.1) (by omega) _ _) (by omega) _ _) (by omega) _ _⟩
  rcases h4 : (t == S) with _ | _
  · clear hg
    have h4' : (t != S) = true := by simpa using h4
    go_enter Try.func17, Try.ntmps17
    go_wp2_with (first | (go_at_call 43; refine (formed_v hl _).mono ?_; rintro r w1 ⟨rfl, hb⟩; have HB := Lib.hid (tri_of hb); clear hb; have q0 := HB.out.1; have q1 := HB.out.2.1; have q2 := HB.out.2.2.1; have f0 := HB.out.2.2.2.1; have f1 := HB.out.2.2.2.2.1; have f2 := HB.out.2.2.2.2.2.1; have hz := HB.out.2.2.2.2.2.2.2; have hz1 : w.heap.size + 1 < w1.heap.size := (by omega); have hz0 : w.heap.size < w1.heap.size := (by omega)) | (go_at_call 32; refine (time_c _ _).mono ?_; rintro r w2 ⟨rfl, rfl⟩))
    exact bodyPost_ret (v := .agg #[.int .i64 S, .int .i64 E, .int .i64 U]) (by simp [results, Try.results17, go_sem, q2]) rfl ⟨rfl, bl_set (bl_set (bl_set (HB.out.2.2.2.2.2.2.1) (by omega) _ _) (by omega) _ _) (by omega) _ _⟩
  · have h5 : btw e 0 1073741824 = false := by simpa [learnOk, hl, h1, h2, h3, h4] using hg
    have h4' : (t != S) = false := by simpa using h4
    clear hg
    go_enter Try.func17, Try.ntmps17
    go_wp2_with (first | (go_at_call 43; refine (formed_v hl _).mono ?_; rintro r w1 ⟨rfl, hb⟩; have HB := Lib.hid (tri_of hb); clear hb; have q0 := HB.out.1; have q1 := HB.out.2.1; have q2 := HB.out.2.2.1; have f0 := HB.out.2.2.2.1; have f1 := HB.out.2.2.2.2.1; have f2 := HB.out.2.2.2.2.2.1; have hz := HB.out.2.2.2.2.2.2.2; have hz1 : w.heap.size + 1 < w1.heap.size := (by omega); have hz0 : w.heap.size < w1.heap.size := (by omega)) | (go_at_call 32; refine (time_c _ _).mono ?_; rintro r w2 ⟨rfl, rfl⟩))
    exact bodyPost_ret (v := .agg #[.int .i64 S, .int .i64 E, .int .i64 U]) (by simp [results, Try.results17, go_sem, q2]) rfl ⟨rfl, bl_set (bl_set (bl_set (HB.out.2.2.2.2.2.2.1) (by omega) _ _) (by omega) _ _) (by omega) _ _⟩

theorem rlearn_bad (S E U sent term margin k f t n v e : Int) (vs bd : Value) (w : World) (hg : learnOk S E U sent term margin t e = false) :
    Calls Try.prog 18 #[.agg #[.int .i64 S, .int .i64 E, .int .i64 U], .int .i64 sent, .int .i64 term, .int .i64 margin, .agg (Msg8 k f t n v e vs bd)] w (RetL w S (E, U)) := by
  unfold Msg8
  rcases hl : lOk S E U with _ | _
  · clear hg
    have hok : (okN false != 0) = true := rfl
    go_enter Try.func18, Try.ntmps18
    go_wp2_with (first | (go_at_call 44; refine (rform_v hl _).mono ?_; rintro r w1 ⟨rfl, hb⟩; have HB := Lib.hid (tri_of hb); clear hb; have q0 := HB.out.1; have q1 := HB.out.2.1; have q2 := HB.out.2.2.1; have f0 := HB.out.2.2.2.1; have f1 := HB.out.2.2.2.2.1; have f2 := HB.out.2.2.2.2.2.1; have hz := HB.out.2.2.2.2.2.2.2; have hz1 : w.heap.size + 1 < w1.heap.size := (by omega); have hz0 : w.heap.size < w1.heap.size := (by omega)) | (go_at_call 38; refine (in_c _ _).mono ?_; rintro r w2 ⟨rfl, rfl⟩))
    exact bodyPost_ret (v := .agg #[.int .i64 S, .int .i64 E, .int .i64 U]) (by simp [results, Try.results18, go_sem, q2]) rfl ⟨rfl, bl_set (bl_set (bl_set (HB.out.2.2.2.2.2.2.1) (by omega) _ _) (by omega) _ _) (by omega) _ _⟩
  have hok : (okN true != 0) = false := rfl
  rcases h1 : btw sent 0 1073741824 with _ | _
  · clear hg
    go_enter Try.func18, Try.ntmps18
    go_wp2_with (first | (go_at_call 44; refine (rform_v hl _).mono ?_; rintro r w1 ⟨rfl, hb⟩; have HB := Lib.hid (tri_of hb); clear hb; have q0 := HB.out.1; have q1 := HB.out.2.1; have q2 := HB.out.2.2.1; have f0 := HB.out.2.2.2.1; have f1 := HB.out.2.2.2.2.1; have f2 := HB.out.2.2.2.2.2.1; have hz := HB.out.2.2.2.2.2.2.2; have hz1 : w.heap.size + 1 < w1.heap.size := (by omega); have hz0 : w.heap.size < w1.heap.size := (by omega)) | (go_at_call 38; refine (in_c _ _).mono ?_; rintro r w2 ⟨rfl, rfl⟩))
    exact bodyPost_ret (v := .agg #[.int .i64 S, .int .i64 E, .int .i64 U]) (by simp [results, Try.results18, go_sem, q2]) rfl ⟨rfl, bl_set (bl_set (bl_set (HB.out.2.2.2.2.2.2.1) (by omega) _ _) (by omega) _ _) (by omega) _ _⟩
  rcases h2 : btw term 0 1073741824 with _ | _
  · clear hg
    go_enter Try.func18, Try.ntmps18
    go_wp2_with (first | (go_at_call 44; refine (rform_v hl _).mono ?_; rintro r w1 ⟨rfl, hb⟩; have HB := Lib.hid (tri_of hb); clear hb; have q0 := HB.out.1; have q1 := HB.out.2.1; have q2 := HB.out.2.2.1; have f0 := HB.out.2.2.2.1; have f1 := HB.out.2.2.2.2.1; have f2 := HB.out.2.2.2.2.2.1; have hz := HB.out.2.2.2.2.2.2.2; have hz1 : w.heap.size + 1 < w1.heap.size := (by omega); have hz0 : w.heap.size < w1.heap.size := (by omega)) | (go_at_call 38; refine (in_c _ _).mono ?_; rintro r w2 ⟨rfl, rfl⟩))
    exact bodyPost_ret (v := .agg #[.int .i64 S, .int .i64 E, .int .i64 U]) (by simp [results, Try.results18, go_sem, q2]) rfl ⟨rfl, bl_set (bl_set (bl_set (HB.out.2.2.2.2.2.2.1) (by omega) _ _) (by omega) _ _) (by omega) _ _⟩
  rcases h3 : btw margin 0 1073741824 with _ | _
  · clear hg
    go_enter Try.func18, Try.ntmps18
    go_wp2_with (first | (go_at_call 44; refine (rform_v hl _).mono ?_; rintro r w1 ⟨rfl, hb⟩; have HB := Lib.hid (tri_of hb); clear hb; have q0 := HB.out.1; have q1 := HB.out.2.1; have q2 := HB.out.2.2.1; have f0 := HB.out.2.2.2.1; have f1 := HB.out.2.2.2.2.1; have f2 := HB.out.2.2.2.2.2.1; have hz := HB.out.2.2.2.2.2.2.2; have hz1 : w.heap.size + 1 < w1.heap.size := (by omega); have hz0 : w.heap.size < w1.heap.size := (by omega)) | (go_at_call 38; refine (in_c _ _).mono ?_; rintro r w2 ⟨rfl, rfl⟩))
    exact bodyPost_ret (v := .agg #[.int .i64 S, .int .i64 E, .int .i64 U]) (by simp [results, Try.results18, go_sem, q2]) rfl ⟨rfl, bl_set (bl_set (bl_set (HB.out.2.2.2.2.2.2.1) (by omega) _ _) (by omega) _ _) (by omega) _ _⟩
  rcases h4 : (t == S) with _ | _
  · clear hg
    have h4' : (t != S) = true := by simpa using h4
    go_enter Try.func18, Try.ntmps18
    go_wp2_with (first | (go_at_call 44; refine (rform_v hl _).mono ?_; rintro r w1 ⟨rfl, hb⟩; have HB := Lib.hid (tri_of hb); clear hb; have q0 := HB.out.1; have q1 := HB.out.2.1; have q2 := HB.out.2.2.1; have f0 := HB.out.2.2.2.1; have f1 := HB.out.2.2.2.2.1; have f2 := HB.out.2.2.2.2.2.1; have hz := HB.out.2.2.2.2.2.2.2; have hz1 : w.heap.size + 1 < w1.heap.size := (by omega); have hz0 : w.heap.size < w1.heap.size := (by omega)) | (go_at_call 38; refine (in_c _ _).mono ?_; rintro r w2 ⟨rfl, rfl⟩))
    exact bodyPost_ret (v := .agg #[.int .i64 S, .int .i64 E, .int .i64 U]) (by simp [results, Try.results18, go_sem, q2]) rfl ⟨rfl, bl_set (bl_set (bl_set (HB.out.2.2.2.2.2.2.1) (by omega) _ _) (by omega) _ _) (by omega) _ _⟩
  · have h5 : btw e 0 1073741824 = false := by simpa [learnOk, hl, h1, h2, h3, h4] using hg
    have h4' : (t != S) = false := by simpa using h4
    clear hg
    go_enter Try.func18, Try.ntmps18
    go_wp2_with (first | (go_at_call 44; refine (rform_v hl _).mono ?_; rintro r w1 ⟨rfl, hb⟩; have HB := Lib.hid (tri_of hb); clear hb; have q0 := HB.out.1; have q1 := HB.out.2.1; have q2 := HB.out.2.2.1; have f0 := HB.out.2.2.2.1; have f1 := HB.out.2.2.2.2.1; have f2 := HB.out.2.2.2.2.2.1; have hz := HB.out.2.2.2.2.2.2.2; have hz1 : w.heap.size + 1 < w1.heap.size := (by omega); have hz0 : w.heap.size < w1.heap.size := (by omega)) | (go_at_call 38; refine (in_c _ _).mono ?_; rintro r w2 ⟨rfl, rfl⟩))
    exact bodyPost_ret (v := .agg #[.int .i64 S, .int .i64 E, .int .i64 U]) (by simp [results, Try.results18, go_sem, q2]) rfl ⟨rfl, bl_set (bl_set (bl_set (HB.out.2.2.2.2.2.2.1) (by omega) _ _) (by omega) _ _) (by omega) _ _⟩

theorem learn_g1_k16a (S E U sent term margin f t n v e : Int) (vs bd : Value) (w : World) (hg : learnOk S E U sent term margin t e = true) (hv : 0 < mn2 term v) (u : Int) (hu : mn2 (mx2 (sent + mn2 term v - margin) 0) 1073741824 = u) (hk : E < e) :
    Calls Try.prog 17 #[.agg #[.int .i64 S, .int .i64 E, .int .i64 U], .int .i64 sent, .int .i64 term, .int .i64 margin, .agg (Msg8 16 f t n v e vs bd)] w (RetL w S (e, u)) := by
  unfold Msg8
  simp only [learnOk, Bool.and_eq_true] at hg
  obtain ⟨hl, h1, h2, h3, h4, h5⟩ := hg
  have h4' : (t != S) = false := by simpa using h4
  have hok : (okN true != 0) = false := rfl
  obtain ⟨a1, a2⟩ := bw0 _ _ h1
  obtain ⟨b1, b2⟩ := bw0 _ _ h2
  obtain ⟨c1, c2⟩ := bw0 _ _ h3
  have hm : mn2 term v ≤ term := by unfold mn2; split <;> omega
  have hk2 : decide (E < e) = true := decide_eq_true hk
  go_enter Try.func17, Try.ntmps17
  go_wp2_with (first | (go_at_call 43; refine (formed_v hl _).mono ?_; rintro r w1 ⟨rfl, hb⟩; have HB := Lib.hid (tri_of hb); clear hb; have q0 := HB.out.1; have q1 := HB.out.2.1; have q2 := HB.out.2.2.1; have f0 := HB.out.2.2.2.1; have f1 := HB.out.2.2.2.2.1; have f2 := HB.out.2.2.2.2.2.1; have hz := HB.out.2.2.2.2.2.2.2; have hz1 : w.heap.size + 1 < w1.heap.size := (by omega); have hz0 : w.heap.size < w1.heap.size := (by omega)) | (go_at_call 32; refine (time_c _ _).mono ?_; rintro r w2 ⟨rfl, rfl⟩))
  exact bodyPost_ret (v := .agg #[.int .i64 S, .int .i64 e, .int .i64 u]) (by simp [results, Try.results17, go_sem, q2]) rfl ⟨rfl, bl_set (bl_set (bl_set (bl_set (bl_set (HB.out.2.2.2.2.2.2.1) (by omega) _ _) (by omega) _ _) (by omega) _ _) (by omega) _ _) (by omega) _ _⟩

theorem learn_g1_k16b (S E U sent term margin f t n v e : Int) (vs bd : Value) (w : World) (hg : learnOk S E U sent term margin t e = true) (hv : 0 < mn2 term v) (u : Int) (hu : mn2 (mx2 (sent + mn2 term v - margin) 0) 1073741824 = u) (hk : (e == E) = true) :
    Calls Try.prog 17 #[.agg #[.int .i64 S, .int .i64 E, .int .i64 U], .int .i64 sent, .int .i64 term, .int .i64 margin, .agg (Msg8 16 f t n v e vs bd)] w (RetL w S (E, (mx2 U u))) := by
  unfold Msg8
  simp only [learnOk, Bool.and_eq_true] at hg
  obtain ⟨hl, h1, h2, h3, h4, h5⟩ := hg
  have h4' : (t != S) = false := by simpa using h4
  have hok : (okN true != 0) = false := rfl
  obtain ⟨a1, a2⟩ := bw0 _ _ h1
  obtain ⟨b1, b2⟩ := bw0 _ _ h2
  obtain ⟨c1, c2⟩ := bw0 _ _ h3
  have hm : mn2 term v ≤ term := by unfold mn2; split <;> omega
  have hk2 : ¬ E < e := by have : e = E := by simpa using hk
                           omega
  have hk3 : decide (E < e) = false := decide_eq_false hk2
  go_enter Try.func17, Try.ntmps17
  go_wp2_with (first | (go_at_call 43; refine (formed_v hl _).mono ?_; rintro r w1 ⟨rfl, hb⟩; have HB := Lib.hid (tri_of hb); clear hb; have q0 := HB.out.1; have q1 := HB.out.2.1; have q2 := HB.out.2.2.1; have f0 := HB.out.2.2.2.1; have f1 := HB.out.2.2.2.2.1; have f2 := HB.out.2.2.2.2.2.1; have hz := HB.out.2.2.2.2.2.2.2; have hz1 : w.heap.size + 1 < w1.heap.size := (by omega); have hz0 : w.heap.size < w1.heap.size := (by omega)) | (go_at_call 32; refine (time_c _ _).mono ?_; rintro r w2 ⟨rfl, rfl⟩))
  exact bodyPost_ret (v := .agg #[.int .i64 S, .int .i64 E, .int .i64 (mx2 U u)]) (by simp [results, Try.results17, go_sem, q2]) rfl ⟨rfl, bl_set (bl_set (bl_set (bl_set (HB.out.2.2.2.2.2.2.1) (by omega) _ _) (by omega) _ _) (by omega) _ _) (by omega) _ _⟩

theorem learn_g1_k16c (S E U sent term margin f t n v e : Int) (vs bd : Value) (w : World) (hg : learnOk S E U sent term margin t e = true) (hv : 0 < mn2 term v) (u : Int) (hu : mn2 (mx2 (sent + mn2 term v - margin) 0) 1073741824 = u) (hk : e < E) :
    Calls Try.prog 17 #[.agg #[.int .i64 S, .int .i64 E, .int .i64 U], .int .i64 sent, .int .i64 term, .int .i64 margin, .agg (Msg8 16 f t n v e vs bd)] w (RetL w S (E, U)) := by
  unfold Msg8
  simp only [learnOk, Bool.and_eq_true] at hg
  obtain ⟨hl, h1, h2, h3, h4, h5⟩ := hg
  have h4' : (t != S) = false := by simpa using h4
  have hok : (okN true != 0) = false := rfl
  obtain ⟨a1, a2⟩ := bw0 _ _ h1
  obtain ⟨b1, b2⟩ := bw0 _ _ h2
  obtain ⟨c1, c2⟩ := bw0 _ _ h3
  have hm : mn2 term v ≤ term := by unfold mn2; split <;> omega
  have hk2 : ¬ E < e := by omega
  have hk3 : decide (E < e) = false := decide_eq_false hk2
  have hk4 : (e == E) = false := by simp; omega
  go_enter Try.func17, Try.ntmps17
  go_wp2_with (first | (go_at_call 43; refine (formed_v hl _).mono ?_; rintro r w1 ⟨rfl, hb⟩; have HB := Lib.hid (tri_of hb); clear hb; have q0 := HB.out.1; have q1 := HB.out.2.1; have q2 := HB.out.2.2.1; have f0 := HB.out.2.2.2.1; have f1 := HB.out.2.2.2.2.1; have f2 := HB.out.2.2.2.2.2.1; have hz := HB.out.2.2.2.2.2.2.2; have hz1 : w.heap.size + 1 < w1.heap.size := (by omega); have hz0 : w.heap.size < w1.heap.size := (by omega)) | (go_at_call 32; refine (time_c _ _).mono ?_; rintro r w2 ⟨rfl, rfl⟩))
  exact bodyPost_ret (v := .agg #[.int .i64 S, .int .i64 E, .int .i64 U]) (by simp [results, Try.results17, go_sem, q2]) rfl ⟨rfl, bl_set (bl_set (bl_set (HB.out.2.2.2.2.2.2.1) (by omega) _ _) (by omega) _ _) (by omega) _ _⟩

theorem learn_g1_k12a (S E U sent term margin f t n v e : Int) (vs bd : Value) (w : World) (hg : learnOk S E U sent term margin t e = true) (hv : 0 < mn2 term v) (u : Int) (hu : mn2 (mx2 (sent + mn2 term v - margin) 0) 1073741824 = u) (hk : E < e) :
    Calls Try.prog 17 #[.agg #[.int .i64 S, .int .i64 E, .int .i64 U], .int .i64 sent, .int .i64 term, .int .i64 margin, .agg (Msg8 12 f t n v e vs bd)] w (RetL w S (E, 0)) := by
  unfold Msg8
  simp only [learnOk, Bool.and_eq_true] at hg
  obtain ⟨hl, h1, h2, h3, h4, h5⟩ := hg
  have h4' : (t != S) = false := by simpa using h4
  have hok : (okN true != 0) = false := rfl
  obtain ⟨a1, a2⟩ := bw0 _ _ h1
  obtain ⟨b1, b2⟩ := bw0 _ _ h2
  obtain ⟨c1, c2⟩ := bw0 _ _ h3
  have hm : mn2 term v ≤ term := by unfold mn2; split <;> omega
  have hk2 : decide (E < e) = true := decide_eq_true hk
  go_enter Try.func17, Try.ntmps17
  go_wp2_with (first | (go_at_call 43; refine (formed_v hl _).mono ?_; rintro r w1 ⟨rfl, hb⟩; have HB := Lib.hid (tri_of hb); clear hb; have q0 := HB.out.1; have q1 := HB.out.2.1; have q2 := HB.out.2.2.1; have f0 := HB.out.2.2.2.1; have f1 := HB.out.2.2.2.2.1; have f2 := HB.out.2.2.2.2.2.1; have hz := HB.out.2.2.2.2.2.2.2; have hz1 : w.heap.size + 1 < w1.heap.size := (by omega); have hz0 : w.heap.size < w1.heap.size := (by omega)) | (go_at_call 32; refine (time_c _ _).mono ?_; rintro r w2 ⟨rfl, rfl⟩))
  exact bodyPost_ret (v := .agg #[.int .i64 S, .int .i64 E, .int .i64 0]) (by simp [results, Try.results17, go_sem, q2]) rfl ⟨rfl, bl_set (bl_set (bl_set (bl_set (HB.out.2.2.2.2.2.2.1) (by omega) _ _) (by omega) _ _) (by omega) _ _) (by omega) _ _⟩

theorem learn_g1_k12b (S E U sent term margin f t n v e : Int) (vs bd : Value) (w : World) (hg : learnOk S E U sent term margin t e = true) (hv : 0 < mn2 term v) (u : Int) (hu : mn2 (mx2 (sent + mn2 term v - margin) 0) 1073741824 = u) (hk : ¬ E < e) :
    Calls Try.prog 17 #[.agg #[.int .i64 S, .int .i64 E, .int .i64 U], .int .i64 sent, .int .i64 term, .int .i64 margin, .agg (Msg8 12 f t n v e vs bd)] w (RetL w S (E, U)) := by
  unfold Msg8
  simp only [learnOk, Bool.and_eq_true] at hg
  obtain ⟨hl, h1, h2, h3, h4, h5⟩ := hg
  have h4' : (t != S) = false := by simpa using h4
  have hok : (okN true != 0) = false := rfl
  obtain ⟨a1, a2⟩ := bw0 _ _ h1
  obtain ⟨b1, b2⟩ := bw0 _ _ h2
  obtain ⟨c1, c2⟩ := bw0 _ _ h3
  have hm : mn2 term v ≤ term := by unfold mn2; split <;> omega
  have hk2 : decide (E < e) = false := decide_eq_false hk
  go_enter Try.func17, Try.ntmps17
  go_wp2_with (first | (go_at_call 43; refine (formed_v hl _).mono ?_; rintro r w1 ⟨rfl, hb⟩; have HB := Lib.hid (tri_of hb); clear hb; have q0 := HB.out.1; have q1 := HB.out.2.1; have q2 := HB.out.2.2.1; have f0 := HB.out.2.2.2.1; have f1 := HB.out.2.2.2.2.1; have f2 := HB.out.2.2.2.2.2.1; have hz := HB.out.2.2.2.2.2.2.2; have hz1 : w.heap.size + 1 < w1.heap.size := (by omega); have hz0 : w.heap.size < w1.heap.size := (by omega)) | (go_at_call 32; refine (time_c _ _).mono ?_; rintro r w2 ⟨rfl, rfl⟩))
  exact bodyPost_ret (v := .agg #[.int .i64 S, .int .i64 E, .int .i64 U]) (by simp [results, Try.results17, go_sem, q2]) rfl ⟨rfl, bl_set (bl_set (bl_set (HB.out.2.2.2.2.2.2.1) (by omega) _ _) (by omega) _ _) (by omega) _ _⟩

theorem learn_g1_kno (S E U sent term margin k f t n v e : Int) (vs bd : Value) (w : World) (hg : learnOk S E U sent term margin t e = true) (hv : 0 < mn2 term v) (u : Int) (hu : mn2 (mx2 (sent + mn2 term v - margin) 0) 1073741824 = u) (hk : (k == 16) = false) (hk2 : (k == 12) = false) :
    Calls Try.prog 17 #[.agg #[.int .i64 S, .int .i64 E, .int .i64 U], .int .i64 sent, .int .i64 term, .int .i64 margin, .agg (Msg8 k f t n v e vs bd)] w (RetL w S (E, U)) := by
  unfold Msg8
  simp only [learnOk, Bool.and_eq_true] at hg
  obtain ⟨hl, h1, h2, h3, h4, h5⟩ := hg
  have h4' : (t != S) = false := by simpa using h4
  have hok : (okN true != 0) = false := rfl
  obtain ⟨a1, a2⟩ := bw0 _ _ h1
  obtain ⟨b1, b2⟩ := bw0 _ _ h2
  obtain ⟨c1, c2⟩ := bw0 _ _ h3
  have hm : mn2 term v ≤ term := by unfold mn2; split <;> omega
  go_enter Try.func17, Try.ntmps17
  go_wp2_with (first | (go_at_call 43; refine (formed_v hl _).mono ?_; rintro r w1 ⟨rfl, hb⟩; have HB := Lib.hid (tri_of hb); clear hb; have q0 := HB.out.1; have q1 := HB.out.2.1; have q2 := HB.out.2.2.1; have f0 := HB.out.2.2.2.1; have f1 := HB.out.2.2.2.2.1; have f2 := HB.out.2.2.2.2.2.1; have hz := HB.out.2.2.2.2.2.2.2; have hz1 : w.heap.size + 1 < w1.heap.size := (by omega); have hz0 : w.heap.size < w1.heap.size := (by omega)) | (go_at_call 32; refine (time_c _ _).mono ?_; rintro r w2 ⟨rfl, rfl⟩))
  exact bodyPost_ret (v := .agg #[.int .i64 S, .int .i64 E, .int .i64 U]) (by simp [results, Try.results17, go_sem, q2]) rfl ⟨rfl, bl_set (bl_set (bl_set (HB.out.2.2.2.2.2.2.1) (by omega) _ _) (by omega) _ _) (by omega) _ _⟩

theorem learn_g2_k16a (S E U sent term margin f t n v e : Int) (vs bd : Value) (w : World) (hg : learnOk S E U sent term margin t e = true) (hv : mn2 term v ≤ 0) (hv2 : -1073741824 < mn2 term v) (u : Int) (hu : mx2 (sent + mn2 term v - margin) 0 = u) (hk : E < e) :
    Calls Try.prog 17 #[.agg #[.int .i64 S, .int .i64 E, .int .i64 U], .int .i64 sent, .int .i64 term, .int .i64 margin, .agg (Msg8 16 f t n v e vs bd)] w (RetL w S (e, u)) := by
  unfold Msg8
  simp only [learnOk, Bool.and_eq_true] at hg
  obtain ⟨hl, h1, h2, h3, h4, h5⟩ := hg
  have h4' : (t != S) = false := by simpa using h4
  have hok : (okN true != 0) = false := rfl
  obtain ⟨a1, a2⟩ := bw0 _ _ h1
  obtain ⟨b1, b2⟩ := bw0 _ _ h2
  obtain ⟨c1, c2⟩ := bw0 _ _ h3
  have hk2 : decide (E < e) = true := decide_eq_true hk
  go_enter Try.func17, Try.ntmps17
  go_wp2_with (first | (go_at_call 43; refine (formed_v hl _).mono ?_; rintro r w1 ⟨rfl, hb⟩; have HB := Lib.hid (tri_of hb); clear hb; have q0 := HB.out.1; have q1 := HB.out.2.1; have q2 := HB.out.2.2.1; have f0 := HB.out.2.2.2.1; have f1 := HB.out.2.2.2.2.1; have f2 := HB.out.2.2.2.2.2.1; have hz := HB.out.2.2.2.2.2.2.2; have hz1 : w.heap.size + 1 < w1.heap.size := (by omega); have hz0 : w.heap.size < w1.heap.size := (by omega)) | (go_at_call 32; refine (time_c _ _).mono ?_; rintro r w2 ⟨rfl, rfl⟩))
  exact bodyPost_ret (v := .agg #[.int .i64 S, .int .i64 e, .int .i64 u]) (by simp [results, Try.results17, go_sem, q2]) rfl ⟨rfl, bl_set (bl_set (bl_set (bl_set (bl_set (HB.out.2.2.2.2.2.2.1) (by omega) _ _) (by omega) _ _) (by omega) _ _) (by omega) _ _) (by omega) _ _⟩

theorem learn_g2_k16b (S E U sent term margin f t n v e : Int) (vs bd : Value) (w : World) (hg : learnOk S E U sent term margin t e = true) (hv : mn2 term v ≤ 0) (hv2 : -1073741824 < mn2 term v) (u : Int) (hu : mx2 (sent + mn2 term v - margin) 0 = u) (hk : (e == E) = true) :
    Calls Try.prog 17 #[.agg #[.int .i64 S, .int .i64 E, .int .i64 U], .int .i64 sent, .int .i64 term, .int .i64 margin, .agg (Msg8 16 f t n v e vs bd)] w (RetL w S (E, (mx2 U u))) := by
  unfold Msg8
  simp only [learnOk, Bool.and_eq_true] at hg
  obtain ⟨hl, h1, h2, h3, h4, h5⟩ := hg
  have h4' : (t != S) = false := by simpa using h4
  have hok : (okN true != 0) = false := rfl
  obtain ⟨a1, a2⟩ := bw0 _ _ h1
  obtain ⟨b1, b2⟩ := bw0 _ _ h2
  obtain ⟨c1, c2⟩ := bw0 _ _ h3
  have hk2 : ¬ E < e := by have : e = E := by simpa using hk
                           omega
  have hk3 : decide (E < e) = false := decide_eq_false hk2
  go_enter Try.func17, Try.ntmps17
  go_wp2_with (first | (go_at_call 43; refine (formed_v hl _).mono ?_; rintro r w1 ⟨rfl, hb⟩; have HB := Lib.hid (tri_of hb); clear hb; have q0 := HB.out.1; have q1 := HB.out.2.1; have q2 := HB.out.2.2.1; have f0 := HB.out.2.2.2.1; have f1 := HB.out.2.2.2.2.1; have f2 := HB.out.2.2.2.2.2.1; have hz := HB.out.2.2.2.2.2.2.2; have hz1 : w.heap.size + 1 < w1.heap.size := (by omega); have hz0 : w.heap.size < w1.heap.size := (by omega)) | (go_at_call 32; refine (time_c _ _).mono ?_; rintro r w2 ⟨rfl, rfl⟩))
  exact bodyPost_ret (v := .agg #[.int .i64 S, .int .i64 E, .int .i64 (mx2 U u)]) (by simp [results, Try.results17, go_sem, q2]) rfl ⟨rfl, bl_set (bl_set (bl_set (bl_set (HB.out.2.2.2.2.2.2.1) (by omega) _ _) (by omega) _ _) (by omega) _ _) (by omega) _ _⟩

theorem learn_g2_k16c (S E U sent term margin f t n v e : Int) (vs bd : Value) (w : World) (hg : learnOk S E U sent term margin t e = true) (hv : mn2 term v ≤ 0) (hv2 : -1073741824 < mn2 term v) (u : Int) (hu : mx2 (sent + mn2 term v - margin) 0 = u) (hk : e < E) :
    Calls Try.prog 17 #[.agg #[.int .i64 S, .int .i64 E, .int .i64 U], .int .i64 sent, .int .i64 term, .int .i64 margin, .agg (Msg8 16 f t n v e vs bd)] w (RetL w S (E, U)) := by
  unfold Msg8
  simp only [learnOk, Bool.and_eq_true] at hg
  obtain ⟨hl, h1, h2, h3, h4, h5⟩ := hg
  have h4' : (t != S) = false := by simpa using h4
  have hok : (okN true != 0) = false := rfl
  obtain ⟨a1, a2⟩ := bw0 _ _ h1
  obtain ⟨b1, b2⟩ := bw0 _ _ h2
  obtain ⟨c1, c2⟩ := bw0 _ _ h3
  have hk2 : ¬ E < e := by omega
  have hk3 : decide (E < e) = false := decide_eq_false hk2
  have hk4 : (e == E) = false := by simp; omega
  go_enter Try.func17, Try.ntmps17
  go_wp2_with (first | (go_at_call 43; refine (formed_v hl _).mono ?_; rintro r w1 ⟨rfl, hb⟩; have HB := Lib.hid (tri_of hb); clear hb; have q0 := HB.out.1; have q1 := HB.out.2.1; have q2 := HB.out.2.2.1; have f0 := HB.out.2.2.2.1; have f1 := HB.out.2.2.2.2.1; have f2 := HB.out.2.2.2.2.2.1; have hz := HB.out.2.2.2.2.2.2.2; have hz1 : w.heap.size + 1 < w1.heap.size := (by omega); have hz0 : w.heap.size < w1.heap.size := (by omega)) | (go_at_call 32; refine (time_c _ _).mono ?_; rintro r w2 ⟨rfl, rfl⟩))
  exact bodyPost_ret (v := .agg #[.int .i64 S, .int .i64 E, .int .i64 U]) (by simp [results, Try.results17, go_sem, q2]) rfl ⟨rfl, bl_set (bl_set (bl_set (HB.out.2.2.2.2.2.2.1) (by omega) _ _) (by omega) _ _) (by omega) _ _⟩

theorem learn_g2_k12a (S E U sent term margin f t n v e : Int) (vs bd : Value) (w : World) (hg : learnOk S E U sent term margin t e = true) (hv : mn2 term v ≤ 0) (hv2 : -1073741824 < mn2 term v) (u : Int) (hu : mx2 (sent + mn2 term v - margin) 0 = u) (hk : E < e) :
    Calls Try.prog 17 #[.agg #[.int .i64 S, .int .i64 E, .int .i64 U], .int .i64 sent, .int .i64 term, .int .i64 margin, .agg (Msg8 12 f t n v e vs bd)] w (RetL w S (E, 0)) := by
  unfold Msg8
  simp only [learnOk, Bool.and_eq_true] at hg
  obtain ⟨hl, h1, h2, h3, h4, h5⟩ := hg
  have h4' : (t != S) = false := by simpa using h4
  have hok : (okN true != 0) = false := rfl
  obtain ⟨a1, a2⟩ := bw0 _ _ h1
  obtain ⟨b1, b2⟩ := bw0 _ _ h2
  obtain ⟨c1, c2⟩ := bw0 _ _ h3
  have hk2 : decide (E < e) = true := decide_eq_true hk
  go_enter Try.func17, Try.ntmps17
  go_wp2_with (first | (go_at_call 43; refine (formed_v hl _).mono ?_; rintro r w1 ⟨rfl, hb⟩; have HB := Lib.hid (tri_of hb); clear hb; have q0 := HB.out.1; have q1 := HB.out.2.1; have q2 := HB.out.2.2.1; have f0 := HB.out.2.2.2.1; have f1 := HB.out.2.2.2.2.1; have f2 := HB.out.2.2.2.2.2.1; have hz := HB.out.2.2.2.2.2.2.2; have hz1 : w.heap.size + 1 < w1.heap.size := (by omega); have hz0 : w.heap.size < w1.heap.size := (by omega)) | (go_at_call 32; refine (time_c _ _).mono ?_; rintro r w2 ⟨rfl, rfl⟩))
  exact bodyPost_ret (v := .agg #[.int .i64 S, .int .i64 E, .int .i64 0]) (by simp [results, Try.results17, go_sem, q2]) rfl ⟨rfl, bl_set (bl_set (bl_set (bl_set (HB.out.2.2.2.2.2.2.1) (by omega) _ _) (by omega) _ _) (by omega) _ _) (by omega) _ _⟩

theorem learn_g2_k12b (S E U sent term margin f t n v e : Int) (vs bd : Value) (w : World) (hg : learnOk S E U sent term margin t e = true) (hv : mn2 term v ≤ 0) (hv2 : -1073741824 < mn2 term v) (u : Int) (hu : mx2 (sent + mn2 term v - margin) 0 = u) (hk : ¬ E < e) :
    Calls Try.prog 17 #[.agg #[.int .i64 S, .int .i64 E, .int .i64 U], .int .i64 sent, .int .i64 term, .int .i64 margin, .agg (Msg8 12 f t n v e vs bd)] w (RetL w S (E, U)) := by
  unfold Msg8
  simp only [learnOk, Bool.and_eq_true] at hg
  obtain ⟨hl, h1, h2, h3, h4, h5⟩ := hg
  have h4' : (t != S) = false := by simpa using h4
  have hok : (okN true != 0) = false := rfl
  obtain ⟨a1, a2⟩ := bw0 _ _ h1
  obtain ⟨b1, b2⟩ := bw0 _ _ h2
  obtain ⟨c1, c2⟩ := bw0 _ _ h3
  have hk2 : decide (E < e) = false := decide_eq_false hk
  go_enter Try.func17, Try.ntmps17
  go_wp2_with (first | (go_at_call 43; refine (formed_v hl _).mono ?_; rintro r w1 ⟨rfl, hb⟩; have HB := Lib.hid (tri_of hb); clear hb; have q0 := HB.out.1; have q1 := HB.out.2.1; have q2 := HB.out.2.2.1; have f0 := HB.out.2.2.2.1; have f1 := HB.out.2.2.2.2.1; have f2 := HB.out.2.2.2.2.2.1; have hz := HB.out.2.2.2.2.2.2.2; have hz1 : w.heap.size + 1 < w1.heap.size := (by omega); have hz0 : w.heap.size < w1.heap.size := (by omega)) | (go_at_call 32; refine (time_c _ _).mono ?_; rintro r w2 ⟨rfl, rfl⟩))
  exact bodyPost_ret (v := .agg #[.int .i64 S, .int .i64 E, .int .i64 U]) (by simp [results, Try.results17, go_sem, q2]) rfl ⟨rfl, bl_set (bl_set (bl_set (HB.out.2.2.2.2.2.2.1) (by omega) _ _) (by omega) _ _) (by omega) _ _⟩

theorem learn_g2_kno (S E U sent term margin k f t n v e : Int) (vs bd : Value) (w : World) (hg : learnOk S E U sent term margin t e = true) (hv : mn2 term v ≤ 0) (hv2 : -1073741824 < mn2 term v) (u : Int) (hu : mx2 (sent + mn2 term v - margin) 0 = u) (hk : (k == 16) = false) (hk2 : (k == 12) = false) :
    Calls Try.prog 17 #[.agg #[.int .i64 S, .int .i64 E, .int .i64 U], .int .i64 sent, .int .i64 term, .int .i64 margin, .agg (Msg8 k f t n v e vs bd)] w (RetL w S (E, U)) := by
  unfold Msg8
  simp only [learnOk, Bool.and_eq_true] at hg
  obtain ⟨hl, h1, h2, h3, h4, h5⟩ := hg
  have h4' : (t != S) = false := by simpa using h4
  have hok : (okN true != 0) = false := rfl
  obtain ⟨a1, a2⟩ := bw0 _ _ h1
  obtain ⟨b1, b2⟩ := bw0 _ _ h2
  obtain ⟨c1, c2⟩ := bw0 _ _ h3
  go_enter Try.func17, Try.ntmps17
  go_wp2_with (first | (go_at_call 43; refine (formed_v hl _).mono ?_; rintro r w1 ⟨rfl, hb⟩; have HB := Lib.hid (tri_of hb); clear hb; have q0 := HB.out.1; have q1 := HB.out.2.1; have q2 := HB.out.2.2.1; have f0 := HB.out.2.2.2.1; have f1 := HB.out.2.2.2.2.1; have f2 := HB.out.2.2.2.2.2.1; have hz := HB.out.2.2.2.2.2.2.2; have hz1 : w.heap.size + 1 < w1.heap.size := (by omega); have hz0 : w.heap.size < w1.heap.size := (by omega)) | (go_at_call 32; refine (time_c _ _).mono ?_; rintro r w2 ⟨rfl, rfl⟩))
  exact bodyPost_ret (v := .agg #[.int .i64 S, .int .i64 E, .int .i64 U]) (by simp [results, Try.results17, go_sem, q2]) rfl ⟨rfl, bl_set (bl_set (bl_set (HB.out.2.2.2.2.2.2.1) (by omega) _ _) (by omega) _ _) (by omega) _ _⟩

theorem learn_g3_k16a (S E U sent term margin f t n v e : Int) (vs bd : Value) (w : World) (hg : learnOk S E U sent term margin t e = true) (hv : mn2 term v ≤ 0) (hv2 : mn2 term v ≤ -1073741824) (hk : E < e) :
    Calls Try.prog 17 #[.agg #[.int .i64 S, .int .i64 E, .int .i64 U], .int .i64 sent, .int .i64 term, .int .i64 margin, .agg (Msg8 16 f t n v e vs bd)] w (RetL w S (e, 0)) := by
  unfold Msg8
  simp only [learnOk, Bool.and_eq_true] at hg
  obtain ⟨hl, h1, h2, h3, h4, h5⟩ := hg
  have h4' : (t != S) = false := by simpa using h4
  have hok : (okN true != 0) = false := rfl
  obtain ⟨a1, a2⟩ := bw0 _ _ h1
  obtain ⟨b1, b2⟩ := bw0 _ _ h2
  obtain ⟨c1, c2⟩ := bw0 _ _ h3
  have hk2 : decide (E < e) = true := decide_eq_true hk
  go_enter Try.func17, Try.ntmps17
  go_wp2_with (first | (go_at_call 43; refine (formed_v hl _).mono ?_; rintro r w1 ⟨rfl, hb⟩; have HB := Lib.hid (tri_of hb); clear hb; have q0 := HB.out.1; have q1 := HB.out.2.1; have q2 := HB.out.2.2.1; have f0 := HB.out.2.2.2.1; have f1 := HB.out.2.2.2.2.1; have f2 := HB.out.2.2.2.2.2.1; have hz := HB.out.2.2.2.2.2.2.2; have hz1 : w.heap.size + 1 < w1.heap.size := (by omega); have hz0 : w.heap.size < w1.heap.size := (by omega)) | (go_at_call 32; refine (time_c _ _).mono ?_; rintro r w2 ⟨rfl, rfl⟩))
  exact bodyPost_ret (v := .agg #[.int .i64 S, .int .i64 e, .int .i64 0]) (by simp [results, Try.results17, go_sem, q2]) rfl ⟨rfl, bl_set (bl_set (bl_set (bl_set (bl_set (HB.out.2.2.2.2.2.2.1) (by omega) _ _) (by omega) _ _) (by omega) _ _) (by omega) _ _) (by omega) _ _⟩

theorem learn_g3_k16b (S E U sent term margin f t n v e : Int) (vs bd : Value) (w : World) (hg : learnOk S E U sent term margin t e = true) (hv : mn2 term v ≤ 0) (hv2 : mn2 term v ≤ -1073741824) (hk : (e == E) = true) :
    Calls Try.prog 17 #[.agg #[.int .i64 S, .int .i64 E, .int .i64 U], .int .i64 sent, .int .i64 term, .int .i64 margin, .agg (Msg8 16 f t n v e vs bd)] w (RetL w S (E, (mx2 U 0))) := by
  unfold Msg8
  simp only [learnOk, Bool.and_eq_true] at hg
  obtain ⟨hl, h1, h2, h3, h4, h5⟩ := hg
  have h4' : (t != S) = false := by simpa using h4
  have hok : (okN true != 0) = false := rfl
  obtain ⟨a1, a2⟩ := bw0 _ _ h1
  obtain ⟨b1, b2⟩ := bw0 _ _ h2
  obtain ⟨c1, c2⟩ := bw0 _ _ h3
  have hk2 : ¬ E < e := by have : e = E := by simpa using hk
                           omega
  have hk3 : decide (E < e) = false := decide_eq_false hk2
  go_enter Try.func17, Try.ntmps17
  go_wp2_with (first | (go_at_call 43; refine (formed_v hl _).mono ?_; rintro r w1 ⟨rfl, hb⟩; have HB := Lib.hid (tri_of hb); clear hb; have q0 := HB.out.1; have q1 := HB.out.2.1; have q2 := HB.out.2.2.1; have f0 := HB.out.2.2.2.1; have f1 := HB.out.2.2.2.2.1; have f2 := HB.out.2.2.2.2.2.1; have hz := HB.out.2.2.2.2.2.2.2; have hz1 : w.heap.size + 1 < w1.heap.size := (by omega); have hz0 : w.heap.size < w1.heap.size := (by omega)) | (go_at_call 32; refine (time_c _ _).mono ?_; rintro r w2 ⟨rfl, rfl⟩))
  exact bodyPost_ret (v := .agg #[.int .i64 S, .int .i64 E, .int .i64 (mx2 U 0)]) (by simp [results, Try.results17, go_sem, q2]) rfl ⟨rfl, bl_set (bl_set (bl_set (bl_set (HB.out.2.2.2.2.2.2.1) (by omega) _ _) (by omega) _ _) (by omega) _ _) (by omega) _ _⟩

theorem learn_g3_k16c (S E U sent term margin f t n v e : Int) (vs bd : Value) (w : World) (hg : learnOk S E U sent term margin t e = true) (hv : mn2 term v ≤ 0) (hv2 : mn2 term v ≤ -1073741824) (hk : e < E) :
    Calls Try.prog 17 #[.agg #[.int .i64 S, .int .i64 E, .int .i64 U], .int .i64 sent, .int .i64 term, .int .i64 margin, .agg (Msg8 16 f t n v e vs bd)] w (RetL w S (E, U)) := by
  unfold Msg8
  simp only [learnOk, Bool.and_eq_true] at hg
  obtain ⟨hl, h1, h2, h3, h4, h5⟩ := hg
  have h4' : (t != S) = false := by simpa using h4
  have hok : (okN true != 0) = false := rfl
  obtain ⟨a1, a2⟩ := bw0 _ _ h1
  obtain ⟨b1, b2⟩ := bw0 _ _ h2
  obtain ⟨c1, c2⟩ := bw0 _ _ h3
  have hk2 : ¬ E < e := by omega
  have hk3 : decide (E < e) = false := decide_eq_false hk2
  have hk4 : (e == E) = false := by simp; omega
  go_enter Try.func17, Try.ntmps17
  go_wp2_with (first | (go_at_call 43; refine (formed_v hl _).mono ?_; rintro r w1 ⟨rfl, hb⟩; have HB := Lib.hid (tri_of hb); clear hb; have q0 := HB.out.1; have q1 := HB.out.2.1; have q2 := HB.out.2.2.1; have f0 := HB.out.2.2.2.1; have f1 := HB.out.2.2.2.2.1; have f2 := HB.out.2.2.2.2.2.1; have hz := HB.out.2.2.2.2.2.2.2; have hz1 : w.heap.size + 1 < w1.heap.size := (by omega); have hz0 : w.heap.size < w1.heap.size := (by omega)) | (go_at_call 32; refine (time_c _ _).mono ?_; rintro r w2 ⟨rfl, rfl⟩))
  exact bodyPost_ret (v := .agg #[.int .i64 S, .int .i64 E, .int .i64 U]) (by simp [results, Try.results17, go_sem, q2]) rfl ⟨rfl, bl_set (bl_set (bl_set (HB.out.2.2.2.2.2.2.1) (by omega) _ _) (by omega) _ _) (by omega) _ _⟩

theorem learn_g3_k12a (S E U sent term margin f t n v e : Int) (vs bd : Value) (w : World) (hg : learnOk S E U sent term margin t e = true) (hv : mn2 term v ≤ 0) (hv2 : mn2 term v ≤ -1073741824) (hk : E < e) :
    Calls Try.prog 17 #[.agg #[.int .i64 S, .int .i64 E, .int .i64 U], .int .i64 sent, .int .i64 term, .int .i64 margin, .agg (Msg8 12 f t n v e vs bd)] w (RetL w S (E, 0)) := by
  unfold Msg8
  simp only [learnOk, Bool.and_eq_true] at hg
  obtain ⟨hl, h1, h2, h3, h4, h5⟩ := hg
  have h4' : (t != S) = false := by simpa using h4
  have hok : (okN true != 0) = false := rfl
  obtain ⟨a1, a2⟩ := bw0 _ _ h1
  obtain ⟨b1, b2⟩ := bw0 _ _ h2
  obtain ⟨c1, c2⟩ := bw0 _ _ h3
  have hk2 : decide (E < e) = true := decide_eq_true hk
  go_enter Try.func17, Try.ntmps17
  go_wp2_with (first | (go_at_call 43; refine (formed_v hl _).mono ?_; rintro r w1 ⟨rfl, hb⟩; have HB := Lib.hid (tri_of hb); clear hb; have q0 := HB.out.1; have q1 := HB.out.2.1; have q2 := HB.out.2.2.1; have f0 := HB.out.2.2.2.1; have f1 := HB.out.2.2.2.2.1; have f2 := HB.out.2.2.2.2.2.1; have hz := HB.out.2.2.2.2.2.2.2; have hz1 : w.heap.size + 1 < w1.heap.size := (by omega); have hz0 : w.heap.size < w1.heap.size := (by omega)) | (go_at_call 32; refine (time_c _ _).mono ?_; rintro r w2 ⟨rfl, rfl⟩))
  exact bodyPost_ret (v := .agg #[.int .i64 S, .int .i64 E, .int .i64 0]) (by simp [results, Try.results17, go_sem, q2]) rfl ⟨rfl, bl_set (bl_set (bl_set (bl_set (HB.out.2.2.2.2.2.2.1) (by omega) _ _) (by omega) _ _) (by omega) _ _) (by omega) _ _⟩

theorem learn_g3_k12b (S E U sent term margin f t n v e : Int) (vs bd : Value) (w : World) (hg : learnOk S E U sent term margin t e = true) (hv : mn2 term v ≤ 0) (hv2 : mn2 term v ≤ -1073741824) (hk : ¬ E < e) :
    Calls Try.prog 17 #[.agg #[.int .i64 S, .int .i64 E, .int .i64 U], .int .i64 sent, .int .i64 term, .int .i64 margin, .agg (Msg8 12 f t n v e vs bd)] w (RetL w S (E, U)) := by
  unfold Msg8
  simp only [learnOk, Bool.and_eq_true] at hg
  obtain ⟨hl, h1, h2, h3, h4, h5⟩ := hg
  have h4' : (t != S) = false := by simpa using h4
  have hok : (okN true != 0) = false := rfl
  obtain ⟨a1, a2⟩ := bw0 _ _ h1
  obtain ⟨b1, b2⟩ := bw0 _ _ h2
  obtain ⟨c1, c2⟩ := bw0 _ _ h3
  have hk2 : decide (E < e) = false := decide_eq_false hk
  go_enter Try.func17, Try.ntmps17
  go_wp2_with (first | (go_at_call 43; refine (formed_v hl _).mono ?_; rintro r w1 ⟨rfl, hb⟩; have HB := Lib.hid (tri_of hb); clear hb; have q0 := HB.out.1; have q1 := HB.out.2.1; have q2 := HB.out.2.2.1; have f0 := HB.out.2.2.2.1; have f1 := HB.out.2.2.2.2.1; have f2 := HB.out.2.2.2.2.2.1; have hz := HB.out.2.2.2.2.2.2.2; have hz1 : w.heap.size + 1 < w1.heap.size := (by omega); have hz0 : w.heap.size < w1.heap.size := (by omega)) | (go_at_call 32; refine (time_c _ _).mono ?_; rintro r w2 ⟨rfl, rfl⟩))
  exact bodyPost_ret (v := .agg #[.int .i64 S, .int .i64 E, .int .i64 U]) (by simp [results, Try.results17, go_sem, q2]) rfl ⟨rfl, bl_set (bl_set (bl_set (HB.out.2.2.2.2.2.2.1) (by omega) _ _) (by omega) _ _) (by omega) _ _⟩

theorem learn_g3_kno (S E U sent term margin k f t n v e : Int) (vs bd : Value) (w : World) (hg : learnOk S E U sent term margin t e = true) (hv : mn2 term v ≤ 0) (hv2 : mn2 term v ≤ -1073741824) (hk : (k == 16) = false) (hk2 : (k == 12) = false) :
    Calls Try.prog 17 #[.agg #[.int .i64 S, .int .i64 E, .int .i64 U], .int .i64 sent, .int .i64 term, .int .i64 margin, .agg (Msg8 k f t n v e vs bd)] w (RetL w S (E, U)) := by
  unfold Msg8
  simp only [learnOk, Bool.and_eq_true] at hg
  obtain ⟨hl, h1, h2, h3, h4, h5⟩ := hg
  have h4' : (t != S) = false := by simpa using h4
  have hok : (okN true != 0) = false := rfl
  obtain ⟨a1, a2⟩ := bw0 _ _ h1
  obtain ⟨b1, b2⟩ := bw0 _ _ h2
  obtain ⟨c1, c2⟩ := bw0 _ _ h3
  go_enter Try.func17, Try.ntmps17
  go_wp2_with (first | (go_at_call 43; refine (formed_v hl _).mono ?_; rintro r w1 ⟨rfl, hb⟩; have HB := Lib.hid (tri_of hb); clear hb; have q0 := HB.out.1; have q1 := HB.out.2.1; have q2 := HB.out.2.2.1; have f0 := HB.out.2.2.2.1; have f1 := HB.out.2.2.2.2.1; have f2 := HB.out.2.2.2.2.2.1; have hz := HB.out.2.2.2.2.2.2.2; have hz1 : w.heap.size + 1 < w1.heap.size := (by omega); have hz0 : w.heap.size < w1.heap.size := (by omega)) | (go_at_call 32; refine (time_c _ _).mono ?_; rintro r w2 ⟨rfl, rfl⟩))
  exact bodyPost_ret (v := .agg #[.int .i64 S, .int .i64 E, .int .i64 U]) (by simp [results, Try.results17, go_sem, q2]) rfl ⟨rfl, bl_set (bl_set (bl_set (HB.out.2.2.2.2.2.2.1) (by omega) _ _) (by omega) _ _) (by omega) _ _⟩

theorem rlearn_g1_k16a (S E U sent term margin f t n v e : Int) (vs bd : Value) (w : World) (hg : learnOk S E U sent term margin t e = true) (hv : 0 < v) (u : Int) (hu : mn2 (mx2 (sent + mn2 term v - margin) 0) 1073741824 = u) (hk : E < e) :
    Calls Try.prog 18 #[.agg #[.int .i64 S, .int .i64 E, .int .i64 U], .int .i64 sent, .int .i64 term, .int .i64 margin, .agg (Msg8 16 f t n v e vs bd)] w (RetL w S (e, u)) := by
  unfold Msg8
  simp only [learnOk, Bool.and_eq_true] at hg
  obtain ⟨hl, h1, h2, h3, h4, h5⟩ := hg
  have h4' : (t != S) = false := by simpa using h4
  have hok : (okN true != 0) = false := rfl
  obtain ⟨a1, a2⟩ := bw0 _ _ h1
  obtain ⟨b1, b2⟩ := bw0 _ _ h2
  obtain ⟨c1, c2⟩ := bw0 _ _ h3
  have hm : mn2 term v ≤ term := by unfold mn2; split <;> omega
  have hm2 : 0 ≤ mn2 term v := by unfold mn2; split <;> omega
  have hk2 : decide (E < e) = true := decide_eq_true hk
  go_enter Try.func18, Try.ntmps18
  go_wp2_with (first | (go_at_call 44; refine (rform_v hl _).mono ?_; rintro r w1 ⟨rfl, hb⟩; have HB := Lib.hid (tri_of hb); clear hb; have q0 := HB.out.1; have q1 := HB.out.2.1; have q2 := HB.out.2.2.1; have f0 := HB.out.2.2.2.1; have f1 := HB.out.2.2.2.2.1; have f2 := HB.out.2.2.2.2.2.1; have hz := HB.out.2.2.2.2.2.2.2; have hz1 : w.heap.size + 1 < w1.heap.size := (by omega); have hz0 : w.heap.size < w1.heap.size := (by omega)) | (go_at_call 38; refine (in_c _ _).mono ?_; rintro r w2 ⟨rfl, rfl⟩))
  exact bodyPost_ret (v := .agg #[.int .i64 S, .int .i64 e, .int .i64 u]) (by simp [results, Try.results18, go_sem, q2]) rfl ⟨rfl, bl_set (bl_set (bl_set (bl_set (bl_set (HB.out.2.2.2.2.2.2.1) (by omega) _ _) (by omega) _ _) (by omega) _ _) (by omega) _ _) (by omega) _ _⟩

theorem rlearn_g1_k16b (S E U sent term margin f t n v e : Int) (vs bd : Value) (w : World) (hg : learnOk S E U sent term margin t e = true) (hv : 0 < v) (u : Int) (hu : mn2 (mx2 (sent + mn2 term v - margin) 0) 1073741824 = u) (hk : (e == E) = true) :
    Calls Try.prog 18 #[.agg #[.int .i64 S, .int .i64 E, .int .i64 U], .int .i64 sent, .int .i64 term, .int .i64 margin, .agg (Msg8 16 f t n v e vs bd)] w (RetL w S (E, (mx2 U u))) := by
  unfold Msg8
  simp only [learnOk, Bool.and_eq_true] at hg
  obtain ⟨hl, h1, h2, h3, h4, h5⟩ := hg
  have h4' : (t != S) = false := by simpa using h4
  have hok : (okN true != 0) = false := rfl
  obtain ⟨a1, a2⟩ := bw0 _ _ h1
  obtain ⟨b1, b2⟩ := bw0 _ _ h2
  obtain ⟨c1, c2⟩ := bw0 _ _ h3
  have hm : mn2 term v ≤ term := by unfold mn2; split <;> omega
  have hm2 : 0 ≤ mn2 term v := by unfold mn2; split <;> omega
  have hk2 : ¬ E < e := by have : e = E := by simpa using hk
                           omega
  have hk3 : decide (E < e) = false := decide_eq_false hk2
  go_enter Try.func18, Try.ntmps18
  go_wp2_with (first | (go_at_call 44; refine (rform_v hl _).mono ?_; rintro r w1 ⟨rfl, hb⟩; have HB := Lib.hid (tri_of hb); clear hb; have q0 := HB.out.1; have q1 := HB.out.2.1; have q2 := HB.out.2.2.1; have f0 := HB.out.2.2.2.1; have f1 := HB.out.2.2.2.2.1; have f2 := HB.out.2.2.2.2.2.1; have hz := HB.out.2.2.2.2.2.2.2; have hz1 : w.heap.size + 1 < w1.heap.size := (by omega); have hz0 : w.heap.size < w1.heap.size := (by omega)) | (go_at_call 38; refine (in_c _ _).mono ?_; rintro r w2 ⟨rfl, rfl⟩))
  exact bodyPost_ret (v := .agg #[.int .i64 S, .int .i64 E, .int .i64 (mx2 U u)]) (by simp [results, Try.results18, go_sem, q2]) rfl ⟨rfl, bl_set (bl_set (bl_set (bl_set (HB.out.2.2.2.2.2.2.1) (by omega) _ _) (by omega) _ _) (by omega) _ _) (by omega) _ _⟩

theorem rlearn_g1_k16c (S E U sent term margin f t n v e : Int) (vs bd : Value) (w : World) (hg : learnOk S E U sent term margin t e = true) (hv : 0 < v) (u : Int) (hu : mn2 (mx2 (sent + mn2 term v - margin) 0) 1073741824 = u) (hk : e < E) :
    Calls Try.prog 18 #[.agg #[.int .i64 S, .int .i64 E, .int .i64 U], .int .i64 sent, .int .i64 term, .int .i64 margin, .agg (Msg8 16 f t n v e vs bd)] w (RetL w S (E, U)) := by
  unfold Msg8
  simp only [learnOk, Bool.and_eq_true] at hg
  obtain ⟨hl, h1, h2, h3, h4, h5⟩ := hg
  have h4' : (t != S) = false := by simpa using h4
  have hok : (okN true != 0) = false := rfl
  obtain ⟨a1, a2⟩ := bw0 _ _ h1
  obtain ⟨b1, b2⟩ := bw0 _ _ h2
  obtain ⟨c1, c2⟩ := bw0 _ _ h3
  have hm : mn2 term v ≤ term := by unfold mn2; split <;> omega
  have hm2 : 0 ≤ mn2 term v := by unfold mn2; split <;> omega
  have hk2 : ¬ E < e := by omega
  have hk3 : decide (E < e) = false := decide_eq_false hk2
  have hk4 : (e == E) = false := by simp; omega
  go_enter Try.func18, Try.ntmps18
  go_wp2_with (first | (go_at_call 44; refine (rform_v hl _).mono ?_; rintro r w1 ⟨rfl, hb⟩; have HB := Lib.hid (tri_of hb); clear hb; have q0 := HB.out.1; have q1 := HB.out.2.1; have q2 := HB.out.2.2.1; have f0 := HB.out.2.2.2.1; have f1 := HB.out.2.2.2.2.1; have f2 := HB.out.2.2.2.2.2.1; have hz := HB.out.2.2.2.2.2.2.2; have hz1 : w.heap.size + 1 < w1.heap.size := (by omega); have hz0 : w.heap.size < w1.heap.size := (by omega)) | (go_at_call 38; refine (in_c _ _).mono ?_; rintro r w2 ⟨rfl, rfl⟩))
  exact bodyPost_ret (v := .agg #[.int .i64 S, .int .i64 E, .int .i64 U]) (by simp [results, Try.results18, go_sem, q2]) rfl ⟨rfl, bl_set (bl_set (bl_set (HB.out.2.2.2.2.2.2.1) (by omega) _ _) (by omega) _ _) (by omega) _ _⟩

theorem rlearn_g1_k12a (S E U sent term margin f t n v e : Int) (vs bd : Value) (w : World) (hg : learnOk S E U sent term margin t e = true) (hv : 0 < v) (u : Int) (hu : mn2 (mx2 (sent + mn2 term v - margin) 0) 1073741824 = u) (hk : E < e) :
    Calls Try.prog 18 #[.agg #[.int .i64 S, .int .i64 E, .int .i64 U], .int .i64 sent, .int .i64 term, .int .i64 margin, .agg (Msg8 12 f t n v e vs bd)] w (RetL w S (E, 0)) := by
  unfold Msg8
  simp only [learnOk, Bool.and_eq_true] at hg
  obtain ⟨hl, h1, h2, h3, h4, h5⟩ := hg
  have h4' : (t != S) = false := by simpa using h4
  have hok : (okN true != 0) = false := rfl
  obtain ⟨a1, a2⟩ := bw0 _ _ h1
  obtain ⟨b1, b2⟩ := bw0 _ _ h2
  obtain ⟨c1, c2⟩ := bw0 _ _ h3
  have hm : mn2 term v ≤ term := by unfold mn2; split <;> omega
  have hm2 : 0 ≤ mn2 term v := by unfold mn2; split <;> omega
  have hk2 : decide (E < e) = true := decide_eq_true hk
  go_enter Try.func18, Try.ntmps18
  go_wp2_with (first | (go_at_call 44; refine (rform_v hl _).mono ?_; rintro r w1 ⟨rfl, hb⟩; have HB := Lib.hid (tri_of hb); clear hb; have q0 := HB.out.1; have q1 := HB.out.2.1; have q2 := HB.out.2.2.1; have f0 := HB.out.2.2.2.1; have f1 := HB.out.2.2.2.2.1; have f2 := HB.out.2.2.2.2.2.1; have hz := HB.out.2.2.2.2.2.2.2; have hz1 : w.heap.size + 1 < w1.heap.size := (by omega); have hz0 : w.heap.size < w1.heap.size := (by omega)) | (go_at_call 38; refine (in_c _ _).mono ?_; rintro r w2 ⟨rfl, rfl⟩))
  exact bodyPost_ret (v := .agg #[.int .i64 S, .int .i64 E, .int .i64 0]) (by simp [results, Try.results18, go_sem, q2]) rfl ⟨rfl, bl_set (bl_set (bl_set (bl_set (HB.out.2.2.2.2.2.2.1) (by omega) _ _) (by omega) _ _) (by omega) _ _) (by omega) _ _⟩

theorem rlearn_g1_k12b (S E U sent term margin f t n v e : Int) (vs bd : Value) (w : World) (hg : learnOk S E U sent term margin t e = true) (hv : 0 < v) (u : Int) (hu : mn2 (mx2 (sent + mn2 term v - margin) 0) 1073741824 = u) (hk : ¬ E < e) :
    Calls Try.prog 18 #[.agg #[.int .i64 S, .int .i64 E, .int .i64 U], .int .i64 sent, .int .i64 term, .int .i64 margin, .agg (Msg8 12 f t n v e vs bd)] w (RetL w S (E, U)) := by
  unfold Msg8
  simp only [learnOk, Bool.and_eq_true] at hg
  obtain ⟨hl, h1, h2, h3, h4, h5⟩ := hg
  have h4' : (t != S) = false := by simpa using h4
  have hok : (okN true != 0) = false := rfl
  obtain ⟨a1, a2⟩ := bw0 _ _ h1
  obtain ⟨b1, b2⟩ := bw0 _ _ h2
  obtain ⟨c1, c2⟩ := bw0 _ _ h3
  have hm : mn2 term v ≤ term := by unfold mn2; split <;> omega
  have hm2 : 0 ≤ mn2 term v := by unfold mn2; split <;> omega
  have hk2 : decide (E < e) = false := decide_eq_false hk
  go_enter Try.func18, Try.ntmps18
  go_wp2_with (first | (go_at_call 44; refine (rform_v hl _).mono ?_; rintro r w1 ⟨rfl, hb⟩; have HB := Lib.hid (tri_of hb); clear hb; have q0 := HB.out.1; have q1 := HB.out.2.1; have q2 := HB.out.2.2.1; have f0 := HB.out.2.2.2.1; have f1 := HB.out.2.2.2.2.1; have f2 := HB.out.2.2.2.2.2.1; have hz := HB.out.2.2.2.2.2.2.2; have hz1 : w.heap.size + 1 < w1.heap.size := (by omega); have hz0 : w.heap.size < w1.heap.size := (by omega)) | (go_at_call 38; refine (in_c _ _).mono ?_; rintro r w2 ⟨rfl, rfl⟩))
  exact bodyPost_ret (v := .agg #[.int .i64 S, .int .i64 E, .int .i64 U]) (by simp [results, Try.results18, go_sem, q2]) rfl ⟨rfl, bl_set (bl_set (bl_set (HB.out.2.2.2.2.2.2.1) (by omega) _ _) (by omega) _ _) (by omega) _ _⟩

theorem rlearn_g1_kno (S E U sent term margin k f t n v e : Int) (vs bd : Value) (w : World) (hg : learnOk S E U sent term margin t e = true) (hv : 0 < v) (u : Int) (hu : mn2 (mx2 (sent + mn2 term v - margin) 0) 1073741824 = u) (hk : (k == 16) = false) (hk2 : (k == 12) = false) :
    Calls Try.prog 18 #[.agg #[.int .i64 S, .int .i64 E, .int .i64 U], .int .i64 sent, .int .i64 term, .int .i64 margin, .agg (Msg8 k f t n v e vs bd)] w (RetL w S (E, U)) := by
  unfold Msg8
  simp only [learnOk, Bool.and_eq_true] at hg
  obtain ⟨hl, h1, h2, h3, h4, h5⟩ := hg
  have h4' : (t != S) = false := by simpa using h4
  have hok : (okN true != 0) = false := rfl
  obtain ⟨a1, a2⟩ := bw0 _ _ h1
  obtain ⟨b1, b2⟩ := bw0 _ _ h2
  obtain ⟨c1, c2⟩ := bw0 _ _ h3
  have hm : mn2 term v ≤ term := by unfold mn2; split <;> omega
  have hm2 : 0 ≤ mn2 term v := by unfold mn2; split <;> omega
  go_enter Try.func18, Try.ntmps18
  go_wp2_with (first | (go_at_call 44; refine (rform_v hl _).mono ?_; rintro r w1 ⟨rfl, hb⟩; have HB := Lib.hid (tri_of hb); clear hb; have q0 := HB.out.1; have q1 := HB.out.2.1; have q2 := HB.out.2.2.1; have f0 := HB.out.2.2.2.1; have f1 := HB.out.2.2.2.2.1; have f2 := HB.out.2.2.2.2.2.1; have hz := HB.out.2.2.2.2.2.2.2; have hz1 : w.heap.size + 1 < w1.heap.size := (by omega); have hz0 : w.heap.size < w1.heap.size := (by omega)) | (go_at_call 38; refine (in_c _ _).mono ?_; rintro r w2 ⟨rfl, rfl⟩))
  exact bodyPost_ret (v := .agg #[.int .i64 S, .int .i64 E, .int .i64 U]) (by simp [results, Try.results18, go_sem, q2]) rfl ⟨rfl, bl_set (bl_set (bl_set (HB.out.2.2.2.2.2.2.1) (by omega) _ _) (by omega) _ _) (by omega) _ _⟩

theorem rlearn_g2_k16a (S E U sent term margin f t n v e : Int) (vs bd : Value) (w : World) (hg : learnOk S E U sent term margin t e = true) (hv : v ≤ 0) (u : Int) (hu : mx2 (sent - margin + mx2 v (-1073741824)) 0 = u) (hk : E < e) :
    Calls Try.prog 18 #[.agg #[.int .i64 S, .int .i64 E, .int .i64 U], .int .i64 sent, .int .i64 term, .int .i64 margin, .agg (Msg8 16 f t n v e vs bd)] w (RetL w S (e, u)) := by
  unfold Msg8
  simp only [learnOk, Bool.and_eq_true] at hg
  obtain ⟨hl, h1, h2, h3, h4, h5⟩ := hg
  have h4' : (t != S) = false := by simpa using h4
  have hok : (okN true != 0) = false := rfl
  obtain ⟨a1, a2⟩ := bw0 _ _ h1
  obtain ⟨b1, b2⟩ := bw0 _ _ h2
  obtain ⟨c1, c2⟩ := bw0 _ _ h3
  have hm : mx2 v (-1073741824) ≤ 0 := by unfold mx2; split <;> omega
  have hm2 : -1073741824 ≤ mx2 v (-1073741824) := by unfold mx2; split <;> omega
  have hk2 : decide (E < e) = true := decide_eq_true hk
  go_enter Try.func18, Try.ntmps18
  go_wp2_with (first | (go_at_call 44; refine (rform_v hl _).mono ?_; rintro r w1 ⟨rfl, hb⟩; have HB := Lib.hid (tri_of hb); clear hb; have q0 := HB.out.1; have q1 := HB.out.2.1; have q2 := HB.out.2.2.1; have f0 := HB.out.2.2.2.1; have f1 := HB.out.2.2.2.2.1; have f2 := HB.out.2.2.2.2.2.1; have hz := HB.out.2.2.2.2.2.2.2; have hz1 : w.heap.size + 1 < w1.heap.size := (by omega); have hz0 : w.heap.size < w1.heap.size := (by omega)) | (go_at_call 38; refine (in_c _ _).mono ?_; rintro r w2 ⟨rfl, rfl⟩))
  exact bodyPost_ret (v := .agg #[.int .i64 S, .int .i64 e, .int .i64 u]) (by simp [results, Try.results18, go_sem, q2]) rfl ⟨rfl, bl_set (bl_set (bl_set (bl_set (bl_set (HB.out.2.2.2.2.2.2.1) (by omega) _ _) (by omega) _ _) (by omega) _ _) (by omega) _ _) (by omega) _ _⟩

theorem rlearn_g2_k16b (S E U sent term margin f t n v e : Int) (vs bd : Value) (w : World) (hg : learnOk S E U sent term margin t e = true) (hv : v ≤ 0) (u : Int) (hu : mx2 (sent - margin + mx2 v (-1073741824)) 0 = u) (hk : (e == E) = true) :
    Calls Try.prog 18 #[.agg #[.int .i64 S, .int .i64 E, .int .i64 U], .int .i64 sent, .int .i64 term, .int .i64 margin, .agg (Msg8 16 f t n v e vs bd)] w (RetL w S (E, (mx2 U u))) := by
  unfold Msg8
  simp only [learnOk, Bool.and_eq_true] at hg
  obtain ⟨hl, h1, h2, h3, h4, h5⟩ := hg
  have h4' : (t != S) = false := by simpa using h4
  have hok : (okN true != 0) = false := rfl
  obtain ⟨a1, a2⟩ := bw0 _ _ h1
  obtain ⟨b1, b2⟩ := bw0 _ _ h2
  obtain ⟨c1, c2⟩ := bw0 _ _ h3
  have hm : mx2 v (-1073741824) ≤ 0 := by unfold mx2; split <;> omega
  have hm2 : -1073741824 ≤ mx2 v (-1073741824) := by unfold mx2; split <;> omega
  have hk2 : ¬ E < e := by have : e = E := by simpa using hk
                           omega
  have hk3 : decide (E < e) = false := decide_eq_false hk2
  go_enter Try.func18, Try.ntmps18
  go_wp2_with (first | (go_at_call 44; refine (rform_v hl _).mono ?_; rintro r w1 ⟨rfl, hb⟩; have HB := Lib.hid (tri_of hb); clear hb; have q0 := HB.out.1; have q1 := HB.out.2.1; have q2 := HB.out.2.2.1; have f0 := HB.out.2.2.2.1; have f1 := HB.out.2.2.2.2.1; have f2 := HB.out.2.2.2.2.2.1; have hz := HB.out.2.2.2.2.2.2.2; have hz1 : w.heap.size + 1 < w1.heap.size := (by omega); have hz0 : w.heap.size < w1.heap.size := (by omega)) | (go_at_call 38; refine (in_c _ _).mono ?_; rintro r w2 ⟨rfl, rfl⟩))
  exact bodyPost_ret (v := .agg #[.int .i64 S, .int .i64 E, .int .i64 (mx2 U u)]) (by simp [results, Try.results18, go_sem, q2]) rfl ⟨rfl, bl_set (bl_set (bl_set (bl_set (HB.out.2.2.2.2.2.2.1) (by omega) _ _) (by omega) _ _) (by omega) _ _) (by omega) _ _⟩

theorem rlearn_g2_k16c (S E U sent term margin f t n v e : Int) (vs bd : Value) (w : World) (hg : learnOk S E U sent term margin t e = true) (hv : v ≤ 0) (u : Int) (hu : mx2 (sent - margin + mx2 v (-1073741824)) 0 = u) (hk : e < E) :
    Calls Try.prog 18 #[.agg #[.int .i64 S, .int .i64 E, .int .i64 U], .int .i64 sent, .int .i64 term, .int .i64 margin, .agg (Msg8 16 f t n v e vs bd)] w (RetL w S (E, U)) := by
  unfold Msg8
  simp only [learnOk, Bool.and_eq_true] at hg
  obtain ⟨hl, h1, h2, h3, h4, h5⟩ := hg
  have h4' : (t != S) = false := by simpa using h4
  have hok : (okN true != 0) = false := rfl
  obtain ⟨a1, a2⟩ := bw0 _ _ h1
  obtain ⟨b1, b2⟩ := bw0 _ _ h2
  obtain ⟨c1, c2⟩ := bw0 _ _ h3
  have hm : mx2 v (-1073741824) ≤ 0 := by unfold mx2; split <;> omega
  have hm2 : -1073741824 ≤ mx2 v (-1073741824) := by unfold mx2; split <;> omega
  have hk2 : ¬ E < e := by omega
  have hk3 : decide (E < e) = false := decide_eq_false hk2
  have hk4 : (e == E) = false := by simp; omega
  go_enter Try.func18, Try.ntmps18
  go_wp2_with (first | (go_at_call 44; refine (rform_v hl _).mono ?_; rintro r w1 ⟨rfl, hb⟩; have HB := Lib.hid (tri_of hb); clear hb; have q0 := HB.out.1; have q1 := HB.out.2.1; have q2 := HB.out.2.2.1; have f0 := HB.out.2.2.2.1; have f1 := HB.out.2.2.2.2.1; have f2 := HB.out.2.2.2.2.2.1; have hz := HB.out.2.2.2.2.2.2.2; have hz1 : w.heap.size + 1 < w1.heap.size := (by omega); have hz0 : w.heap.size < w1.heap.size := (by omega)) | (go_at_call 38; refine (in_c _ _).mono ?_; rintro r w2 ⟨rfl, rfl⟩))
  exact bodyPost_ret (v := .agg #[.int .i64 S, .int .i64 E, .int .i64 U]) (by simp [results, Try.results18, go_sem, q2]) rfl ⟨rfl, bl_set (bl_set (bl_set (HB.out.2.2.2.2.2.2.1) (by omega) _ _) (by omega) _ _) (by omega) _ _⟩

theorem rlearn_g2_k12a (S E U sent term margin f t n v e : Int) (vs bd : Value) (w : World) (hg : learnOk S E U sent term margin t e = true) (hv : v ≤ 0) (u : Int) (hu : mx2 (sent - margin + mx2 v (-1073741824)) 0 = u) (hk : E < e) :
    Calls Try.prog 18 #[.agg #[.int .i64 S, .int .i64 E, .int .i64 U], .int .i64 sent, .int .i64 term, .int .i64 margin, .agg (Msg8 12 f t n v e vs bd)] w (RetL w S (E, 0)) := by
  unfold Msg8
  simp only [learnOk, Bool.and_eq_true] at hg
  obtain ⟨hl, h1, h2, h3, h4, h5⟩ := hg
  have h4' : (t != S) = false := by simpa using h4
  have hok : (okN true != 0) = false := rfl
  obtain ⟨a1, a2⟩ := bw0 _ _ h1
  obtain ⟨b1, b2⟩ := bw0 _ _ h2
  obtain ⟨c1, c2⟩ := bw0 _ _ h3
  have hm : mx2 v (-1073741824) ≤ 0 := by unfold mx2; split <;> omega
  have hm2 : -1073741824 ≤ mx2 v (-1073741824) := by unfold mx2; split <;> omega
  have hk2 : decide (E < e) = true := decide_eq_true hk
  go_enter Try.func18, Try.ntmps18
  go_wp2_with (first | (go_at_call 44; refine (rform_v hl _).mono ?_; rintro r w1 ⟨rfl, hb⟩; have HB := Lib.hid (tri_of hb); clear hb; have q0 := HB.out.1; have q1 := HB.out.2.1; have q2 := HB.out.2.2.1; have f0 := HB.out.2.2.2.1; have f1 := HB.out.2.2.2.2.1; have f2 := HB.out.2.2.2.2.2.1; have hz := HB.out.2.2.2.2.2.2.2; have hz1 : w.heap.size + 1 < w1.heap.size := (by omega); have hz0 : w.heap.size < w1.heap.size := (by omega)) | (go_at_call 38; refine (in_c _ _).mono ?_; rintro r w2 ⟨rfl, rfl⟩))
  exact bodyPost_ret (v := .agg #[.int .i64 S, .int .i64 E, .int .i64 0]) (by simp [results, Try.results18, go_sem, q2]) rfl ⟨rfl, bl_set (bl_set (bl_set (bl_set (HB.out.2.2.2.2.2.2.1) (by omega) _ _) (by omega) _ _) (by omega) _ _) (by omega) _ _⟩

theorem rlearn_g2_k12b (S E U sent term margin f t n v e : Int) (vs bd : Value) (w : World) (hg : learnOk S E U sent term margin t e = true) (hv : v ≤ 0) (u : Int) (hu : mx2 (sent - margin + mx2 v (-1073741824)) 0 = u) (hk : ¬ E < e) :
    Calls Try.prog 18 #[.agg #[.int .i64 S, .int .i64 E, .int .i64 U], .int .i64 sent, .int .i64 term, .int .i64 margin, .agg (Msg8 12 f t n v e vs bd)] w (RetL w S (E, U)) := by
  unfold Msg8
  simp only [learnOk, Bool.and_eq_true] at hg
  obtain ⟨hl, h1, h2, h3, h4, h5⟩ := hg
  have h4' : (t != S) = false := by simpa using h4
  have hok : (okN true != 0) = false := rfl
  obtain ⟨a1, a2⟩ := bw0 _ _ h1
  obtain ⟨b1, b2⟩ := bw0 _ _ h2
  obtain ⟨c1, c2⟩ := bw0 _ _ h3
  have hm : mx2 v (-1073741824) ≤ 0 := by unfold mx2; split <;> omega
  have hm2 : -1073741824 ≤ mx2 v (-1073741824) := by unfold mx2; split <;> omega
  have hk2 : decide (E < e) = false := decide_eq_false hk
  go_enter Try.func18, Try.ntmps18
  go_wp2_with (first | (go_at_call 44; refine (rform_v hl _).mono ?_; rintro r w1 ⟨rfl, hb⟩; have HB := Lib.hid (tri_of hb); clear hb; have q0 := HB.out.1; have q1 := HB.out.2.1; have q2 := HB.out.2.2.1; have f0 := HB.out.2.2.2.1; have f1 := HB.out.2.2.2.2.1; have f2 := HB.out.2.2.2.2.2.1; have hz := HB.out.2.2.2.2.2.2.2; have hz1 : w.heap.size + 1 < w1.heap.size := (by omega); have hz0 : w.heap.size < w1.heap.size := (by omega)) | (go_at_call 38; refine (in_c _ _).mono ?_; rintro r w2 ⟨rfl, rfl⟩))
  exact bodyPost_ret (v := .agg #[.int .i64 S, .int .i64 E, .int .i64 U]) (by simp [results, Try.results18, go_sem, q2]) rfl ⟨rfl, bl_set (bl_set (bl_set (HB.out.2.2.2.2.2.2.1) (by omega) _ _) (by omega) _ _) (by omega) _ _⟩

theorem rlearn_g2_kno (S E U sent term margin k f t n v e : Int) (vs bd : Value) (w : World) (hg : learnOk S E U sent term margin t e = true) (hv : v ≤ 0) (u : Int) (hu : mx2 (sent - margin + mx2 v (-1073741824)) 0 = u) (hk : (k == 16) = false) (hk2 : (k == 12) = false) :
    Calls Try.prog 18 #[.agg #[.int .i64 S, .int .i64 E, .int .i64 U], .int .i64 sent, .int .i64 term, .int .i64 margin, .agg (Msg8 k f t n v e vs bd)] w (RetL w S (E, U)) := by
  unfold Msg8
  simp only [learnOk, Bool.and_eq_true] at hg
  obtain ⟨hl, h1, h2, h3, h4, h5⟩ := hg
  have h4' : (t != S) = false := by simpa using h4
  have hok : (okN true != 0) = false := rfl
  obtain ⟨a1, a2⟩ := bw0 _ _ h1
  obtain ⟨b1, b2⟩ := bw0 _ _ h2
  obtain ⟨c1, c2⟩ := bw0 _ _ h3
  have hm : mx2 v (-1073741824) ≤ 0 := by unfold mx2; split <;> omega
  have hm2 : -1073741824 ≤ mx2 v (-1073741824) := by unfold mx2; split <;> omega
  go_enter Try.func18, Try.ntmps18
  go_wp2_with (first | (go_at_call 44; refine (rform_v hl _).mono ?_; rintro r w1 ⟨rfl, hb⟩; have HB := Lib.hid (tri_of hb); clear hb; have q0 := HB.out.1; have q1 := HB.out.2.1; have q2 := HB.out.2.2.1; have f0 := HB.out.2.2.2.1; have f1 := HB.out.2.2.2.2.1; have f2 := HB.out.2.2.2.2.2.1; have hz := HB.out.2.2.2.2.2.2.2; have hz1 : w.heap.size + 1 < w1.heap.size := (by omega); have hz0 : w.heap.size < w1.heap.size := (by omega)) | (go_at_call 38; refine (in_c _ _).mono ?_; rintro r w2 ⟨rfl, rfl⟩))
  exact bodyPost_ret (v := .agg #[.int .i64 S, .int .i64 E, .int .i64 U]) (by simp [results, Try.results18, go_sem, q2]) rfl ⟨rfl, bl_set (bl_set (bl_set (HB.out.2.2.2.2.2.2.1) (by omega) _ _) (by omega) _ _) (by omega) _ _⟩

end Go.Proofs.Ytmgnpjaemjpamaa
