/- The contract of the reference's Handle where it answers. -/
import Derived.Test.YtmgnpjaemjpamaaG2
set_option linter.unusedSimpArgs false
set_option linter.unusedVariables false
namespace Go.Proofs.Ytmgnpjaemjpamaa
open Go.RowKit


set_option maxHeartbeats 1000000 in
theorem rh_acq1 (E H U now term f t n v e : Int) (vs bd : Value) (w : World) (hg : goodB E H U now term f e = true) (hl : E < e) (hh : heldB H U now = false) :
    Calls Try.prog 13 #[.agg #[.int .i64 E, .int .i64 H, .int .i64 U], .int .i64 now, .int .i64 term, .agg (Msg8 15 f t n v e vs bd)] w (HRet w f n ((e, f, now + term), some (16, e, term))) := by
  unfold Msg8
  have hw : wOk E H U = true := by simp [goodB] at hg; exact hg.1
  have hn : btw now 0 1073741824 = true := by simp [goodB] at hg; exact hg.2.1
  have ht : btw term 1 (1073741824 - now) = true := by simp [goodB] at hg; exact hg.2.2.1
  have hf : btw f 0 3 = true := by simp [goodB] at hg; exact hg.2.2.2.1
  have he : btw e 0 1073741824 = true := by simp [goodB] at hg; exact hg.2.2.2.2
  clear hg
  have hok : (okN true != 0) = false := rfl
  obtain ⟨hn1, hn2⟩ := bw0 _ _ hn
  have ht1 : 1 ≤ term := by simp [btw] at ht; exact ht.1
  have ht2 : term ≤ 1073741824 - now := by simp [btw] at ht; exact ht.2
  clear ht
  have hl2 : (e == E) = false := by simp; omega
  go_enter Try.func13, Try.ntmps13
  go_wp2_with (first | (go_at_call 16; refine (rcheck_c _ _ _ _).mono ?_; rw [hw]; rintro r w1 ⟨rfl, hb⟩; have HB := Lib.hid (tri_of hb); clear hb; have q0 := HB.out.1; have q1 := HB.out.2.1; have q2 := HB.out.2.2.1; have f0 := HB.out.2.2.2.1; have f1 := HB.out.2.2.2.2.1; have f2 := HB.out.2.2.2.2.2.1; have hz := HB.out.2.2.2.2.2.2.2) | (go_at_call 38; refine (in_c _ _).mono ?_; rintro r w2 ⟨rfl, rfl⟩) | (go_at_call 39; refine (rsite_c _ _).mono ?_; rintro r w2 ⟨rfl, rfl⟩) | (go_at_call 40; refine (rheld_v hh _).mono ?_; rintro r w3 ⟨rfl, hb⟩; have HC := Lib.hid (HB.out.on hb); clear hb hz q0 q1 q2 f0 f1 f2 HB; have HB := HC; clear HC; have q0 := HB.out.1; have q1 := HB.out.2.1; have q2 := HB.out.2.2.1; have f0 := HB.out.2.2.2.1; have f1 := HB.out.2.2.2.2.1; have f2 := HB.out.2.2.2.2.2.1; have hz := HB.out.2.2.2.2.2.2.2))
  go_region_held3 (fun w' => (∀ o, w'.cell? ⟨w.heap.size, o, none⟩ = (#[.int .i64 E, .int .i64 H, .int .i64 U] : Array Value)[o]?) ∧ (∀ o, w'.cell? ⟨w.heap.size + 1, o, none⟩ = (#[.int .i64 15, .int .i64 f, .int .i64 t, .int .i64 n, .int .i64 v, .int .i64 e, vs, bd] : Array Value)[o]?)) (first | exact ⟨HB.out.drew.1, HB.out.drew.2.1⟩ | exact ⟨HD.out.1, HD.out.2.1⟩ | exact two_set HD.out _ _ _ _ _ _) ((go_at_call 41; refine (ranswer_c _ _ _ _ _ _ _ _ _ _ _ _).mono ?_; rintro r w4 ⟨x, rfl, hx, hb⟩; have HX := Lib.hid hx; have HD := Lib.hid (HB.out.drew.on hb); clear hx hb hz q0 q1 q2 f0 f1 f2; have q0 := HD.out.1; have q1 := HD.out.2.1; have q2 := HD.out.2.2.1; have f0 := HD.out.2.2.2.1; have f1 := HD.out.2.2.2.2.1; have f2 := HD.out.2.2.2.2.2.1; have hz := HD.out.2.2.2.2.2.2.2))
  rw [IntWalk.i64_in (now + term) (by omega)]
  go_wp2
  refine bodyPost_ret (v := .tuple #[.agg #[.int .i64 e, .int .i64 f, .int .i64 (now + term)], x]) (by simp [results, Try.results13, go_sem, q2]) rfl ?_
  exact ⟨_, rfl, ans_set (o := some (_, _, _)) HX.out HB.out.2.2.2.2.2.2.2 _ _ _ _ _ _ rfl, bl_set (bl_set (bl_set HD.out.2.2.2.2.2.2.1 (by omega) _ _) (by omega) _ _) (by omega) _ _⟩

set_option maxHeartbeats 1000000 in
theorem rh_acq2 (E H U now term f t n v e : Int) (vs bd : Value) (w : World) (hg : goodB E H U now term f e = true) (hl : E < e) (hh : heldB H U now = true) (hF : (f == H) = true) :
    Calls Try.prog 13 #[.agg #[.int .i64 E, .int .i64 H, .int .i64 U], .int .i64 now, .int .i64 term, .agg (Msg8 15 f t n v e vs bd)] w (HRet w f n ((e, f, now + term), some (16, e, term))) := by
  unfold Msg8
  have hw : wOk E H U = true := by simp [goodB] at hg; exact hg.1
  have hn : btw now 0 1073741824 = true := by simp [goodB] at hg; exact hg.2.1
  have ht : btw term 1 (1073741824 - now) = true := by simp [goodB] at hg; exact hg.2.2.1
  have hf : btw f 0 3 = true := by simp [goodB] at hg; exact hg.2.2.2.1
  have he : btw e 0 1073741824 = true := by simp [goodB] at hg; exact hg.2.2.2.2
  clear hg
  have hok : (okN true != 0) = false := rfl
  obtain ⟨hn1, hn2⟩ := bw0 _ _ hn
  have ht1 : 1 ≤ term := by simp [btw] at ht; exact ht.1
  have ht2 : term ≤ 1073741824 - now := by simp [btw] at ht; exact ht.2
  clear ht
  have hl2 : (e == E) = false := by simp; omega
  go_enter Try.func13, Try.ntmps13
  go_wp2_with (first | (go_at_call 16; refine (rcheck_c _ _ _ _).mono ?_; rw [hw]; rintro r w1 ⟨rfl, hb⟩; have HB := Lib.hid (tri_of hb); clear hb; have q0 := HB.out.1; have q1 := HB.out.2.1; have q2 := HB.out.2.2.1; have f0 := HB.out.2.2.2.1; have f1 := HB.out.2.2.2.2.1; have f2 := HB.out.2.2.2.2.2.1; have hz := HB.out.2.2.2.2.2.2.2) | (go_at_call 38; refine (in_c _ _).mono ?_; rintro r w2 ⟨rfl, rfl⟩) | (go_at_call 39; refine (rsite_c _ _).mono ?_; rintro r w2 ⟨rfl, rfl⟩) | (go_at_call 40; refine (rheld_v hh _).mono ?_; rintro r w3 ⟨rfl, hb⟩; have HC := Lib.hid (HB.out.on hb); clear hb hz q0 q1 q2 f0 f1 f2 HB; have HB := HC; clear HC; have q0 := HB.out.1; have q1 := HB.out.2.1; have q2 := HB.out.2.2.1; have f0 := HB.out.2.2.2.1; have f1 := HB.out.2.2.2.2.1; have f2 := HB.out.2.2.2.2.2.1; have hz := HB.out.2.2.2.2.2.2.2))
  go_region_held3 (fun w' => (∀ o, w'.cell? ⟨w.heap.size, o, none⟩ = (#[.int .i64 E, .int .i64 H, .int .i64 U] : Array Value)[o]?) ∧ (∀ o, w'.cell? ⟨w.heap.size + 1, o, none⟩ = (#[.int .i64 15, .int .i64 f, .int .i64 t, .int .i64 n, .int .i64 v, .int .i64 e, vs, bd] : Array Value)[o]?)) (first | exact ⟨HB.out.drew.1, HB.out.drew.2.1⟩ | exact ⟨HD.out.1, HD.out.2.1⟩ | exact two_set HD.out _ _ _ _ _ _) ((go_at_call 41; refine (ranswer_c _ _ _ _ _ _ _ _ _ _ _ _).mono ?_; rintro r w4 ⟨x, rfl, hx, hb⟩; have HX := Lib.hid hx; have HD := Lib.hid (HB.out.drew.on hb); clear hx hb hz q0 q1 q2 f0 f1 f2; have q0 := HD.out.1; have q1 := HD.out.2.1; have q2 := HD.out.2.2.1; have f0 := HD.out.2.2.2.1; have f1 := HD.out.2.2.2.2.1; have f2 := HD.out.2.2.2.2.2.1; have hz := HD.out.2.2.2.2.2.2.2))
  rw [IntWalk.i64_in (now + term) (by omega)]
  go_wp2
  refine bodyPost_ret (v := .tuple #[.agg #[.int .i64 e, .int .i64 f, .int .i64 (now + term)], x]) (by simp [results, Try.results13, go_sem, q2]) rfl ?_
  exact ⟨_, rfl, ans_set (o := some (_, _, _)) HX.out HB.out.2.2.2.2.2.2.2 _ _ _ _ _ _ rfl, bl_set (bl_set (bl_set HD.out.2.2.2.2.2.2.1 (by omega) _ _) (by omega) _ _) (by omega) _ _⟩

set_option maxHeartbeats 1000000 in
theorem rh_ref15a (E H U now term f t n v e : Int) (vs bd : Value) (w : World) (hg : goodB E H U now term f e = true) (hl : E < e) (hh : heldB H U now = true) (hF : (f == H) = false) :
    Calls Try.prog 13 #[.agg #[.int .i64 E, .int .i64 H, .int .i64 U], .int .i64 now, .int .i64 term, .agg (Msg8 15 f t n v e vs bd)] w (HRet w f n ((E, H, U), some (12, E, 0))) := by
  unfold Msg8
  have hw : wOk E H U = true := by simp [goodB] at hg; exact hg.1
  have hn : btw now 0 1073741824 = true := by simp [goodB] at hg; exact hg.2.1
  have ht : btw term 1 (1073741824 - now) = true := by simp [goodB] at hg; exact hg.2.2.1
  have hf : btw f 0 3 = true := by simp [goodB] at hg; exact hg.2.2.2.1
  have he : btw e 0 1073741824 = true := by simp [goodB] at hg; exact hg.2.2.2.2
  clear hg
  have hok : (okN true != 0) = false := rfl
  obtain ⟨hn1, hn2⟩ := bw0 _ _ hn
  have ht1 : 1 ≤ term := by simp [btw] at ht; exact ht.1
  have ht2 : term ≤ 1073741824 - now := by simp [btw] at ht; exact ht.2
  clear ht
  have hl2 : (e == E) = false := by simp; omega
  go_enter Try.func13, Try.ntmps13
  go_wp2_with (first | (go_at_call 16; refine (rcheck_c _ _ _ _).mono ?_; rw [hw]; rintro r w1 ⟨rfl, hb⟩; have HB := Lib.hid (tri_of hb); clear hb; have q0 := HB.out.1; have q1 := HB.out.2.1; have q2 := HB.out.2.2.1; have f0 := HB.out.2.2.2.1; have f1 := HB.out.2.2.2.2.1; have f2 := HB.out.2.2.2.2.2.1; have hz := HB.out.2.2.2.2.2.2.2) | (go_at_call 38; refine (in_c _ _).mono ?_; rintro r w2 ⟨rfl, rfl⟩) | (go_at_call 39; refine (rsite_c _ _).mono ?_; rintro r w2 ⟨rfl, rfl⟩) | (go_at_call 40; refine (rheld_v hh _).mono ?_; rintro r w3 ⟨rfl, hb⟩; have HC := Lib.hid (HB.out.on hb); clear hb hz q0 q1 q2 f0 f1 f2 HB; have HB := HC; clear HC; have q0 := HB.out.1; have q1 := HB.out.2.1; have q2 := HB.out.2.2.1; have f0 := HB.out.2.2.2.1; have f1 := HB.out.2.2.2.2.1; have f2 := HB.out.2.2.2.2.2.1; have hz := HB.out.2.2.2.2.2.2.2))
  go_region_held3 (fun w' => (∀ o, w'.cell? ⟨w.heap.size, o, none⟩ = (#[.int .i64 E, .int .i64 H, .int .i64 U] : Array Value)[o]?) ∧ (∀ o, w'.cell? ⟨w.heap.size + 1, o, none⟩ = (#[.int .i64 15, .int .i64 f, .int .i64 t, .int .i64 n, .int .i64 v, .int .i64 e, vs, bd] : Array Value)[o]?)) (first | exact ⟨HB.out.drew.1, HB.out.drew.2.1⟩ | exact ⟨HD.out.1, HD.out.2.1⟩ | exact two_set HD.out _ _ _ _ _ _) ((go_at_call 41; refine (ranswer_c _ _ _ _ _ _ _ _ _ _ _ _).mono ?_; rintro r w4 ⟨x, rfl, hx, hb⟩; have HX := Lib.hid hx; have HD := Lib.hid (HB.out.drew.on hb); clear hx hb hz q0 q1 q2 f0 f1 f2; have q0 := HD.out.1; have q1 := HD.out.2.1; have q2 := HD.out.2.2.1; have f0 := HD.out.2.2.2.1; have f1 := HD.out.2.2.2.2.1; have f2 := HD.out.2.2.2.2.2.1; have hz := HD.out.2.2.2.2.2.2.2))
  go_wp2
  refine bodyPost_ret (v := .tuple #[.agg #[.int .i64 E, .int .i64 H, .int .i64 U], x]) (by simp [results, Try.results13, go_sem, q2]) rfl ?_
  exact ⟨_, rfl, ans_set (o := some (_, _, _)) HX.out HB.out.2.2.2.2.2.2.2 _ _ _ _ _ _ rfl, bl_set (bl_set (bl_set HD.out.2.2.2.2.2.2.1 (by omega) _ _) (by omega) _ _) (by omega) _ _⟩

set_option maxHeartbeats 1000000 in
theorem rh_ref15b (E H U now term f t n v e : Int) (vs bd : Value) (w : World) (hg : goodB E H U now term f e = true) (hl : ¬ E < e) (hE : (e == E) = true) (hF : (f == H) = true) (hh : heldB H U now = false) :
    Calls Try.prog 13 #[.agg #[.int .i64 E, .int .i64 H, .int .i64 U], .int .i64 now, .int .i64 term, .agg (Msg8 15 f t n v e vs bd)] w (HRet w f n ((E, H, U), some (12, E, 0))) := by
  unfold Msg8
  have hw : wOk E H U = true := by simp [goodB] at hg; exact hg.1
  have hn : btw now 0 1073741824 = true := by simp [goodB] at hg; exact hg.2.1
  have ht : btw term 1 (1073741824 - now) = true := by simp [goodB] at hg; exact hg.2.2.1
  have hf : btw f 0 3 = true := by simp [goodB] at hg; exact hg.2.2.2.1
  have he : btw e 0 1073741824 = true := by simp [goodB] at hg; exact hg.2.2.2.2
  clear hg
  have hok : (okN true != 0) = false := rfl
  obtain ⟨hn1, hn2⟩ := bw0 _ _ hn
  have ht1 : 1 ≤ term := by simp [btw] at ht; exact ht.1
  have ht2 : term ≤ 1073741824 - now := by simp [btw] at ht; exact ht.2
  clear ht
  go_enter Try.func13, Try.ntmps13
  go_wp2_with (first | (go_at_call 16; refine (rcheck_c _ _ _ _).mono ?_; rw [hw]; rintro r w1 ⟨rfl, hb⟩; have HB := Lib.hid (tri_of hb); clear hb; have q0 := HB.out.1; have q1 := HB.out.2.1; have q2 := HB.out.2.2.1; have f0 := HB.out.2.2.2.1; have f1 := HB.out.2.2.2.2.1; have f2 := HB.out.2.2.2.2.2.1; have hz := HB.out.2.2.2.2.2.2.2) | (go_at_call 38; refine (in_c _ _).mono ?_; rintro r w2 ⟨rfl, rfl⟩) | (go_at_call 39; refine (rsite_c _ _).mono ?_; rintro r w2 ⟨rfl, rfl⟩) | (go_at_call 40; refine (rheld_v hh _).mono ?_; rintro r w3 ⟨rfl, hb⟩; have HC := Lib.hid (HB.out.on hb); clear hb hz q0 q1 q2 f0 f1 f2 HB; have HB := HC; clear HC; have q0 := HB.out.1; have q1 := HB.out.2.1; have q2 := HB.out.2.2.1; have f0 := HB.out.2.2.2.1; have f1 := HB.out.2.2.2.2.1; have f2 := HB.out.2.2.2.2.2.1; have hz := HB.out.2.2.2.2.2.2.2))
  go_region_held3 (fun w' => (∀ o, w'.cell? ⟨w.heap.size, o, none⟩ = (#[.int .i64 E, .int .i64 H, .int .i64 U] : Array Value)[o]?) ∧ (∀ o, w'.cell? ⟨w.heap.size + 1, o, none⟩ = (#[.int .i64 15, .int .i64 f, .int .i64 t, .int .i64 n, .int .i64 v, .int .i64 e, vs, bd] : Array Value)[o]?)) (first | exact ⟨HB.out.drew.1, HB.out.drew.2.1⟩ | exact ⟨HD.out.1, HD.out.2.1⟩ | exact two_set HD.out _ _ _ _ _ _) ((go_at_call 41; refine (ranswer_c _ _ _ _ _ _ _ _ _ _ _ _).mono ?_; rintro r w4 ⟨x, rfl, hx, hb⟩; have HX := Lib.hid hx; have HD := Lib.hid (HB.out.drew.on hb); clear hx hb hz q0 q1 q2 f0 f1 f2; have q0 := HD.out.1; have q1 := HD.out.2.1; have q2 := HD.out.2.2.1; have f0 := HD.out.2.2.2.1; have f1 := HD.out.2.2.2.2.1; have f2 := HD.out.2.2.2.2.2.1; have hz := HD.out.2.2.2.2.2.2.2))
  go_wp2
  refine bodyPost_ret (v := .tuple #[.agg #[.int .i64 E, .int .i64 H, .int .i64 U], x]) (by simp [results, Try.results13, go_sem, q2]) rfl ?_
  exact ⟨_, rfl, ans_set (o := some (_, _, _)) HX.out HB.out.2.2.2.2.2.2.2 _ _ _ _ _ _ rfl, bl_set (bl_set (bl_set HD.out.2.2.2.2.2.2.1 (by omega) _ _) (by omega) _ _) (by omega) _ _⟩

set_option maxHeartbeats 1000000 in
theorem rh_ref15c (E H U now term f t n v e : Int) (vs bd : Value) (w : World) (hg : goodB E H U now term f e = true) (hl : ¬ E < e) (hE : (e == E) = false) :
    Calls Try.prog 13 #[.agg #[.int .i64 E, .int .i64 H, .int .i64 U], .int .i64 now, .int .i64 term, .agg (Msg8 15 f t n v e vs bd)] w (HRet w f n ((E, H, U), some (12, E, 0))) := by
  unfold Msg8
  have hw : wOk E H U = true := by simp [goodB] at hg; exact hg.1
  have hn : btw now 0 1073741824 = true := by simp [goodB] at hg; exact hg.2.1
  have ht : btw term 1 (1073741824 - now) = true := by simp [goodB] at hg; exact hg.2.2.1
  have hf : btw f 0 3 = true := by simp [goodB] at hg; exact hg.2.2.2.1
  have he : btw e 0 1073741824 = true := by simp [goodB] at hg; exact hg.2.2.2.2
  clear hg
  have hok : (okN true != 0) = false := rfl
  obtain ⟨hn1, hn2⟩ := bw0 _ _ hn
  have ht1 : 1 ≤ term := by simp [btw] at ht; exact ht.1
  have ht2 : term ≤ 1073741824 - now := by simp [btw] at ht; exact ht.2
  clear ht
  go_enter Try.func13, Try.ntmps13
  go_wp2_with (first | (go_at_call 16; refine (rcheck_c _ _ _ _).mono ?_; rw [hw]; rintro r w1 ⟨rfl, hb⟩; have HB := Lib.hid (tri_of hb); clear hb; have q0 := HB.out.1; have q1 := HB.out.2.1; have q2 := HB.out.2.2.1; have f0 := HB.out.2.2.2.1; have f1 := HB.out.2.2.2.2.1; have f2 := HB.out.2.2.2.2.2.1; have hz := HB.out.2.2.2.2.2.2.2) | (go_at_call 38; refine (in_c _ _).mono ?_; rintro r w2 ⟨rfl, rfl⟩) | (go_at_call 39; refine (rsite_c _ _).mono ?_; rintro r w2 ⟨rfl, rfl⟩))
  go_region_held3 (fun w' => (∀ o, w'.cell? ⟨w.heap.size, o, none⟩ = (#[.int .i64 E, .int .i64 H, .int .i64 U] : Array Value)[o]?) ∧ (∀ o, w'.cell? ⟨w.heap.size + 1, o, none⟩ = (#[.int .i64 15, .int .i64 f, .int .i64 t, .int .i64 n, .int .i64 v, .int .i64 e, vs, bd] : Array Value)[o]?)) (first | exact ⟨HB.out.drew.1, HB.out.drew.2.1⟩ | exact ⟨HD.out.1, HD.out.2.1⟩ | exact two_set HD.out _ _ _ _ _ _) ((go_at_call 41; refine (ranswer_c _ _ _ _ _ _ _ _ _ _ _ _).mono ?_; rintro r w4 ⟨x, rfl, hx, hb⟩; have HX := Lib.hid hx; have HD := Lib.hid (HB.out.drew.on hb); clear hx hb hz q0 q1 q2 f0 f1 f2; have q0 := HD.out.1; have q1 := HD.out.2.1; have q2 := HD.out.2.2.1; have f0 := HD.out.2.2.2.1; have f1 := HD.out.2.2.2.2.1; have f2 := HD.out.2.2.2.2.2.1; have hz := HD.out.2.2.2.2.2.2.2))
  go_wp2
  refine bodyPost_ret (v := .tuple #[.agg #[.int .i64 E, .int .i64 H, .int .i64 U], x]) (by simp [results, Try.results13, go_sem, q2]) rfl ?_
  exact ⟨_, rfl, ans_set (o := some (_, _, _)) HX.out HB.out.2.2.2.2.2.2.2 _ _ _ _ _ _ rfl, bl_set (bl_set (bl_set HD.out.2.2.2.2.2.2.1 (by omega) _ _) (by omega) _ _) (by omega) _ _⟩

set_option maxHeartbeats 1000000 in
theorem rh_ref15d (E H U now term f t n v e : Int) (vs bd : Value) (w : World) (hg : goodB E H U now term f e = true) (hl : ¬ E < e) (hE : (e == E) = true) (hF : (f == H) = false) :
    Calls Try.prog 13 #[.agg #[.int .i64 E, .int .i64 H, .int .i64 U], .int .i64 now, .int .i64 term, .agg (Msg8 15 f t n v e vs bd)] w (HRet w f n ((E, H, U), some (12, E, 0))) := by
  unfold Msg8
  have hw : wOk E H U = true := by simp [goodB] at hg; exact hg.1
  have hn : btw now 0 1073741824 = true := by simp [goodB] at hg; exact hg.2.1
  have ht : btw term 1 (1073741824 - now) = true := by simp [goodB] at hg; exact hg.2.2.1
  have hf : btw f 0 3 = true := by simp [goodB] at hg; exact hg.2.2.2.1
  have he : btw e 0 1073741824 = true := by simp [goodB] at hg; exact hg.2.2.2.2
  clear hg
  have hok : (okN true != 0) = false := rfl
  obtain ⟨hn1, hn2⟩ := bw0 _ _ hn
  have ht1 : 1 ≤ term := by simp [btw] at ht; exact ht.1
  have ht2 : term ≤ 1073741824 - now := by simp [btw] at ht; exact ht.2
  clear ht
  go_enter Try.func13, Try.ntmps13
  go_wp2_with (first | (go_at_call 16; refine (rcheck_c _ _ _ _).mono ?_; rw [hw]; rintro r w1 ⟨rfl, hb⟩; have HB := Lib.hid (tri_of hb); clear hb; have q0 := HB.out.1; have q1 := HB.out.2.1; have q2 := HB.out.2.2.1; have f0 := HB.out.2.2.2.1; have f1 := HB.out.2.2.2.2.1; have f2 := HB.out.2.2.2.2.2.1; have hz := HB.out.2.2.2.2.2.2.2) | (go_at_call 38; refine (in_c _ _).mono ?_; rintro r w2 ⟨rfl, rfl⟩) | (go_at_call 39; refine (rsite_c _ _).mono ?_; rintro r w2 ⟨rfl, rfl⟩))
  go_region_held3 (fun w' => (∀ o, w'.cell? ⟨w.heap.size, o, none⟩ = (#[.int .i64 E, .int .i64 H, .int .i64 U] : Array Value)[o]?) ∧ (∀ o, w'.cell? ⟨w.heap.size + 1, o, none⟩ = (#[.int .i64 15, .int .i64 f, .int .i64 t, .int .i64 n, .int .i64 v, .int .i64 e, vs, bd] : Array Value)[o]?)) (first | exact ⟨HB.out.drew.1, HB.out.drew.2.1⟩ | exact ⟨HD.out.1, HD.out.2.1⟩ | exact two_set HD.out _ _ _ _ _ _) ((go_at_call 41; refine (ranswer_c _ _ _ _ _ _ _ _ _ _ _ _).mono ?_; rintro r w4 ⟨x, rfl, hx, hb⟩; have HX := Lib.hid hx; have HD := Lib.hid (HB.out.drew.on hb); clear hx hb hz q0 q1 q2 f0 f1 f2; have q0 := HD.out.1; have q1 := HD.out.2.1; have q2 := HD.out.2.2.1; have f0 := HD.out.2.2.2.1; have f1 := HD.out.2.2.2.2.1; have f2 := HD.out.2.2.2.2.2.1; have hz := HD.out.2.2.2.2.2.2.2))
  go_wp2
  refine bodyPost_ret (v := .tuple #[.agg #[.int .i64 E, .int .i64 H, .int .i64 U], x]) (by simp [results, Try.results13, go_sem, q2]) rfl ?_
  exact ⟨_, rfl, ans_set (o := some (_, _, _)) HX.out HB.out.2.2.2.2.2.2.2 _ _ _ _ _ _ rfl, bl_set (bl_set (bl_set HD.out.2.2.2.2.2.2.1 (by omega) _ _) (by omega) _ _) (by omega) _ _⟩

set_option maxHeartbeats 1000000 in
theorem rh_ref17b (E H U now term f t n v e : Int) (vs bd : Value) (w : World) (hg : goodB E H U now term f e = true) (hE : (e == E) = true) (hF : (f == H) = true) (hh : heldB H U now = false) :
    Calls Try.prog 13 #[.agg #[.int .i64 E, .int .i64 H, .int .i64 U], .int .i64 now, .int .i64 term, .agg (Msg8 17 f t n v e vs bd)] w (HRet w f n ((E, H, U), some (12, E, 0))) := by
  unfold Msg8
  have hw : wOk E H U = true := by simp [goodB] at hg; exact hg.1
  have hn : btw now 0 1073741824 = true := by simp [goodB] at hg; exact hg.2.1
  have ht : btw term 1 (1073741824 - now) = true := by simp [goodB] at hg; exact hg.2.2.1
  have hf : btw f 0 3 = true := by simp [goodB] at hg; exact hg.2.2.2.1
  have he : btw e 0 1073741824 = true := by simp [goodB] at hg; exact hg.2.2.2.2
  clear hg
  have hok : (okN true != 0) = false := rfl
  obtain ⟨hn1, hn2⟩ := bw0 _ _ hn
  have ht1 : 1 ≤ term := by simp [btw] at ht; exact ht.1
  have ht2 : term ≤ 1073741824 - now := by simp [btw] at ht; exact ht.2
  clear ht
  go_enter Try.func13, Try.ntmps13
  go_wp2_with (first | (go_at_call 16; refine (rcheck_c _ _ _ _).mono ?_; rw [hw]; rintro r w1 ⟨rfl, hb⟩; have HB := Lib.hid (tri_of hb); clear hb; have q0 := HB.out.1; have q1 := HB.out.2.1; have q2 := HB.out.2.2.1; have f0 := HB.out.2.2.2.1; have f1 := HB.out.2.2.2.2.1; have f2 := HB.out.2.2.2.2.2.1; have hz := HB.out.2.2.2.2.2.2.2) | (go_at_call 38; refine (in_c _ _).mono ?_; rintro r w2 ⟨rfl, rfl⟩) | (go_at_call 39; refine (rsite_c _ _).mono ?_; rintro r w2 ⟨rfl, rfl⟩) | (go_at_call 40; refine (rheld_v hh _).mono ?_; rintro r w3 ⟨rfl, hb⟩; have HC := Lib.hid (HB.out.on hb); clear hb hz q0 q1 q2 f0 f1 f2 HB; have HB := HC; clear HC; have q0 := HB.out.1; have q1 := HB.out.2.1; have q2 := HB.out.2.2.1; have f0 := HB.out.2.2.2.1; have f1 := HB.out.2.2.2.2.1; have f2 := HB.out.2.2.2.2.2.1; have hz := HB.out.2.2.2.2.2.2.2))
  go_region_held3 (fun w' => (∀ o, w'.cell? ⟨w.heap.size, o, none⟩ = (#[.int .i64 E, .int .i64 H, .int .i64 U] : Array Value)[o]?) ∧ (∀ o, w'.cell? ⟨w.heap.size + 1, o, none⟩ = (#[.int .i64 17, .int .i64 f, .int .i64 t, .int .i64 n, .int .i64 v, .int .i64 e, vs, bd] : Array Value)[o]?)) (first | exact ⟨HB.out.drew.1, HB.out.drew.2.1⟩ | exact ⟨HD.out.1, HD.out.2.1⟩ | exact two_set HD.out _ _ _ _ _ _) ((go_at_call 41; refine (ranswer_c _ _ _ _ _ _ _ _ _ _ _ _).mono ?_; rintro r w4 ⟨x, rfl, hx, hb⟩; have HX := Lib.hid hx; have HD := Lib.hid (HB.out.drew.on hb); clear hx hb hz q0 q1 q2 f0 f1 f2; have q0 := HD.out.1; have q1 := HD.out.2.1; have q2 := HD.out.2.2.1; have f0 := HD.out.2.2.2.1; have f1 := HD.out.2.2.2.2.1; have f2 := HD.out.2.2.2.2.2.1; have hz := HD.out.2.2.2.2.2.2.2))
  go_wp2
  refine bodyPost_ret (v := .tuple #[.agg #[.int .i64 E, .int .i64 H, .int .i64 U], x]) (by simp [results, Try.results13, go_sem, q2]) rfl ?_
  exact ⟨_, rfl, ans_set (o := some (_, _, _)) HX.out HB.out.2.2.2.2.2.2.2 _ _ _ _ _ _ rfl, bl_set (bl_set (bl_set HD.out.2.2.2.2.2.2.1 (by omega) _ _) (by omega) _ _) (by omega) _ _⟩

set_option maxHeartbeats 1000000 in
theorem rh_ref17c (E H U now term f t n v e : Int) (vs bd : Value) (w : World) (hg : goodB E H U now term f e = true) (hE : (e == E) = false) :
    Calls Try.prog 13 #[.agg #[.int .i64 E, .int .i64 H, .int .i64 U], .int .i64 now, .int .i64 term, .agg (Msg8 17 f t n v e vs bd)] w (HRet w f n ((E, H, U), some (12, E, 0))) := by
  unfold Msg8
  have hw : wOk E H U = true := by simp [goodB] at hg; exact hg.1
  have hn : btw now 0 1073741824 = true := by simp [goodB] at hg; exact hg.2.1
  have ht : btw term 1 (1073741824 - now) = true := by simp [goodB] at hg; exact hg.2.2.1
  have hf : btw f 0 3 = true := by simp [goodB] at hg; exact hg.2.2.2.1
  have he : btw e 0 1073741824 = true := by simp [goodB] at hg; exact hg.2.2.2.2
  clear hg
  have hok : (okN true != 0) = false := rfl
  obtain ⟨hn1, hn2⟩ := bw0 _ _ hn
  have ht1 : 1 ≤ term := by simp [btw] at ht; exact ht.1
  have ht2 : term ≤ 1073741824 - now := by simp [btw] at ht; exact ht.2
  clear ht
  go_enter Try.func13, Try.ntmps13
  go_wp2_with (first | (go_at_call 16; refine (rcheck_c _ _ _ _).mono ?_; rw [hw]; rintro r w1 ⟨rfl, hb⟩; have HB := Lib.hid (tri_of hb); clear hb; have q0 := HB.out.1; have q1 := HB.out.2.1; have q2 := HB.out.2.2.1; have f0 := HB.out.2.2.2.1; have f1 := HB.out.2.2.2.2.1; have f2 := HB.out.2.2.2.2.2.1; have hz := HB.out.2.2.2.2.2.2.2) | (go_at_call 38; refine (in_c _ _).mono ?_; rintro r w2 ⟨rfl, rfl⟩) | (go_at_call 39; refine (rsite_c _ _).mono ?_; rintro r w2 ⟨rfl, rfl⟩))
  go_region_held3 (fun w' => (∀ o, w'.cell? ⟨w.heap.size, o, none⟩ = (#[.int .i64 E, .int .i64 H, .int .i64 U] : Array Value)[o]?) ∧ (∀ o, w'.cell? ⟨w.heap.size + 1, o, none⟩ = (#[.int .i64 17, .int .i64 f, .int .i64 t, .int .i64 n, .int .i64 v, .int .i64 e, vs, bd] : Array Value)[o]?)) (first | exact ⟨HB.out.drew.1, HB.out.drew.2.1⟩ | exact ⟨HD.out.1, HD.out.2.1⟩ | exact two_set HD.out _ _ _ _ _ _) ((go_at_call 41; refine (ranswer_c _ _ _ _ _ _ _ _ _ _ _ _).mono ?_; rintro r w4 ⟨x, rfl, hx, hb⟩; have HX := Lib.hid hx; have HD := Lib.hid (HB.out.drew.on hb); clear hx hb hz q0 q1 q2 f0 f1 f2; have q0 := HD.out.1; have q1 := HD.out.2.1; have q2 := HD.out.2.2.1; have f0 := HD.out.2.2.2.1; have f1 := HD.out.2.2.2.2.1; have f2 := HD.out.2.2.2.2.2.1; have hz := HD.out.2.2.2.2.2.2.2))
  go_wp2
  refine bodyPost_ret (v := .tuple #[.agg #[.int .i64 E, .int .i64 H, .int .i64 U], x]) (by simp [results, Try.results13, go_sem, q2]) rfl ?_
  exact ⟨_, rfl, ans_set (o := some (_, _, _)) HX.out HB.out.2.2.2.2.2.2.2 _ _ _ _ _ _ rfl, bl_set (bl_set (bl_set HD.out.2.2.2.2.2.2.1 (by omega) _ _) (by omega) _ _) (by omega) _ _⟩

set_option maxHeartbeats 1000000 in
theorem rh_ref17d (E H U now term f t n v e : Int) (vs bd : Value) (w : World) (hg : goodB E H U now term f e = true) (hE : (e == E) = true) (hF : (f == H) = false) :
    Calls Try.prog 13 #[.agg #[.int .i64 E, .int .i64 H, .int .i64 U], .int .i64 now, .int .i64 term, .agg (Msg8 17 f t n v e vs bd)] w (HRet w f n ((E, H, U), some (12, E, 0))) := by
  unfold Msg8
  have hw : wOk E H U = true := by simp [goodB] at hg; exact hg.1
  have hn : btw now 0 1073741824 = true := by simp [goodB] at hg; exact hg.2.1
  have ht : btw term 1 (1073741824 - now) = true := by simp [goodB] at hg; exact hg.2.2.1
  have hf : btw f 0 3 = true := by simp [goodB] at hg; exact hg.2.2.2.1
  have he : btw e 0 1073741824 = true := by simp [goodB] at hg; exact hg.2.2.2.2
  clear hg
  have hok : (okN true != 0) = false := rfl
  obtain ⟨hn1, hn2⟩ := bw0 _ _ hn
  have ht1 : 1 ≤ term := by simp [btw] at ht; exact ht.1
  have ht2 : term ≤ 1073741824 - now := by simp [btw] at ht; exact ht.2
  clear ht
  go_enter Try.func13, Try.ntmps13
  go_wp2_with (first | (go_at_call 16; refine (rcheck_c _ _ _ _).mono ?_; rw [hw]; rintro r w1 ⟨rfl, hb⟩; have HB := Lib.hid (tri_of hb); clear hb; have q0 := HB.out.1; have q1 := HB.out.2.1; have q2 := HB.out.2.2.1; have f0 := HB.out.2.2.2.1; have f1 := HB.out.2.2.2.2.1; have f2 := HB.out.2.2.2.2.2.1; have hz := HB.out.2.2.2.2.2.2.2) | (go_at_call 38; refine (in_c _ _).mono ?_; rintro r w2 ⟨rfl, rfl⟩) | (go_at_call 39; refine (rsite_c _ _).mono ?_; rintro r w2 ⟨rfl, rfl⟩))
  go_region_held3 (fun w' => (∀ o, w'.cell? ⟨w.heap.size, o, none⟩ = (#[.int .i64 E, .int .i64 H, .int .i64 U] : Array Value)[o]?) ∧ (∀ o, w'.cell? ⟨w.heap.size + 1, o, none⟩ = (#[.int .i64 17, .int .i64 f, .int .i64 t, .int .i64 n, .int .i64 v, .int .i64 e, vs, bd] : Array Value)[o]?)) (first | exact ⟨HB.out.drew.1, HB.out.drew.2.1⟩ | exact ⟨HD.out.1, HD.out.2.1⟩ | exact two_set HD.out _ _ _ _ _ _) ((go_at_call 41; refine (ranswer_c _ _ _ _ _ _ _ _ _ _ _ _).mono ?_; rintro r w4 ⟨x, rfl, hx, hb⟩; have HX := Lib.hid hx; have HD := Lib.hid (HB.out.drew.on hb); clear hx hb hz q0 q1 q2 f0 f1 f2; have q0 := HD.out.1; have q1 := HD.out.2.1; have q2 := HD.out.2.2.1; have f0 := HD.out.2.2.2.1; have f1 := HD.out.2.2.2.2.1; have f2 := HD.out.2.2.2.2.2.1; have hz := HD.out.2.2.2.2.2.2.2))
  go_wp2
  refine bodyPost_ret (v := .tuple #[.agg #[.int .i64 E, .int .i64 H, .int .i64 U], x]) (by simp [results, Try.results13, go_sem, q2]) rfl ?_
  exact ⟨_, rfl, ans_set (o := some (_, _, _)) HX.out HB.out.2.2.2.2.2.2.2 _ _ _ _ _ _ rfl, bl_set (bl_set (bl_set HD.out.2.2.2.2.2.2.1 (by omega) _ _) (by omega) _ _) (by omega) _ _⟩

set_option maxHeartbeats 1000000 in
theorem rh_ren15a (E H U now term f t n v e : Int) (vs bd : Value) (w : World) (hg : goodB E H U now term f e = true) (hl : ¬ E < e) (hE : (e == E) = true) (hF : (f == H) = true) (hh : heldB H U now = true) (hU : U < now + term) :
    Calls Try.prog 13 #[.agg #[.int .i64 E, .int .i64 H, .int .i64 U], .int .i64 now, .int .i64 term, .agg (Msg8 15 f t n v e vs bd)] w (HRet w f n ((E, H, now + term), some (16, e, term))) := by
  unfold Msg8
  have hw : wOk E H U = true := by simp [goodB] at hg; exact hg.1
  have hn : btw now 0 1073741824 = true := by simp [goodB] at hg; exact hg.2.1
  have ht : btw term 1 (1073741824 - now) = true := by simp [goodB] at hg; exact hg.2.2.1
  have hf : btw f 0 3 = true := by simp [goodB] at hg; exact hg.2.2.2.1
  have he : btw e 0 1073741824 = true := by simp [goodB] at hg; exact hg.2.2.2.2
  clear hg
  have hok : (okN true != 0) = false := rfl
  obtain ⟨hn1, hn2⟩ := bw0 _ _ hn
  have ht1 : 1 ≤ term := by simp [btw] at ht; exact ht.1
  have ht2 : term ≤ 1073741824 - now := by simp [btw] at ht; exact ht.2
  clear ht
  go_enter Try.func13, Try.ntmps13
  go_wp2_with (first | (go_at_call 16; refine (rcheck_c _ _ _ _).mono ?_; rw [hw]; rintro r w1 ⟨rfl, hb⟩; have HB := Lib.hid (tri_of hb); clear hb; have q0 := HB.out.1; have q1 := HB.out.2.1; have q2 := HB.out.2.2.1; have f0 := HB.out.2.2.2.1; have f1 := HB.out.2.2.2.2.1; have f2 := HB.out.2.2.2.2.2.1; have hz := HB.out.2.2.2.2.2.2.2) | (go_at_call 38; refine (in_c _ _).mono ?_; rintro r w2 ⟨rfl, rfl⟩) | (go_at_call 39; refine (rsite_c _ _).mono ?_; rintro r w2 ⟨rfl, rfl⟩) | (go_at_call 40; refine (rheld_v hh _).mono ?_; rintro r w3 ⟨rfl, hb⟩; have HC := Lib.hid (HB.out.on hb); clear hb hz q0 q1 q2 f0 f1 f2 HB; have HB := HC; clear HC; have q0 := HB.out.1; have q1 := HB.out.2.1; have q2 := HB.out.2.2.1; have f0 := HB.out.2.2.2.1; have f1 := HB.out.2.2.2.2.1; have f2 := HB.out.2.2.2.2.2.1; have hz := HB.out.2.2.2.2.2.2.2))
  have HC := Lib.hid (HB.out.setU (.int .i64 (now + term)))
  clear hz q0 q1 q2 f0 f1 f2 HB
  have HB := HC
  clear HC
  have q0 := HB.out.1; have q1 := HB.out.2.1; have q2 := HB.out.2.2.1; have f0 := HB.out.2.2.2.1; have f1 := HB.out.2.2.2.2.1; have f2 := HB.out.2.2.2.2.2.1; have hz := HB.out.2.2.2.2.2.2.2
  go_region_held3 (fun w' => (∀ o, w'.cell? ⟨w.heap.size, o, none⟩ = (#[.int .i64 E, .int .i64 H, .int .i64 (now + term)] : Array Value)[o]?) ∧ (∀ o, w'.cell? ⟨w.heap.size + 1, o, none⟩ = (#[.int .i64 15, .int .i64 f, .int .i64 t, .int .i64 n, .int .i64 v, .int .i64 e, vs, bd] : Array Value)[o]?)) (first | exact ⟨HB.out.drew.1, HB.out.drew.2.1⟩ | exact ⟨HD.out.1, HD.out.2.1⟩ | exact two_set HD.out _ _ _ _ _ _) ((go_at_call 41; refine (ranswer_c _ _ _ _ _ _ _ _ _ _ _ _).mono ?_; rintro r w4 ⟨x, rfl, hx, hb⟩; have HX := Lib.hid hx; have HD := Lib.hid (HB.out.drew.on hb); clear hx hb hz q0 q1 q2 f0 f1 f2; have q0 := HD.out.1; have q1 := HD.out.2.1; have q2 := HD.out.2.2.1; have f0 := HD.out.2.2.2.1; have f1 := HD.out.2.2.2.2.1; have f2 := HD.out.2.2.2.2.2.1; have hz := HD.out.2.2.2.2.2.2.2))
  go_wp2
  refine bodyPost_ret (v := .tuple #[.agg #[.int .i64 E, .int .i64 H, .int .i64 (now + term)], x]) (by simp [results, Try.results13, go_sem, q2]) rfl ?_
  exact ⟨_, rfl, ans_set (o := some (_, _, _)) HX.out HB.out.2.2.2.2.2.2.2 _ _ _ _ _ _ rfl, bl_set (bl_set (bl_set HD.out.2.2.2.2.2.2.1 (by omega) _ _) (by omega) _ _) (by omega) _ _⟩

set_option maxHeartbeats 1000000 in
theorem rh_ren15b (E H U now term f t n v e : Int) (vs bd : Value) (w : World) (hg : goodB E H U now term f e = true) (hl : ¬ E < e) (hE : (e == E) = true) (hF : (f == H) = true) (hh : heldB H U now = true) (hU : now + term ≤ U) :
    Calls Try.prog 13 #[.agg #[.int .i64 E, .int .i64 H, .int .i64 U], .int .i64 now, .int .i64 term, .agg (Msg8 15 f t n v e vs bd)] w (HRet w f n ((E, H, U), some (16, e, term))) := by
  unfold Msg8
  have hw : wOk E H U = true := by simp [goodB] at hg; exact hg.1
  have hn : btw now 0 1073741824 = true := by simp [goodB] at hg; exact hg.2.1
  have ht : btw term 1 (1073741824 - now) = true := by simp [goodB] at hg; exact hg.2.2.1
  have hf : btw f 0 3 = true := by simp [goodB] at hg; exact hg.2.2.2.1
  have he : btw e 0 1073741824 = true := by simp [goodB] at hg; exact hg.2.2.2.2
  clear hg
  have hok : (okN true != 0) = false := rfl
  obtain ⟨hn1, hn2⟩ := bw0 _ _ hn
  have ht1 : 1 ≤ term := by simp [btw] at ht; exact ht.1
  have ht2 : term ≤ 1073741824 - now := by simp [btw] at ht; exact ht.2
  clear ht
  go_enter Try.func13, Try.ntmps13
  go_wp2_with (first | (go_at_call 16; refine (rcheck_c _ _ _ _).mono ?_; rw [hw]; rintro r w1 ⟨rfl, hb⟩; have HB := Lib.hid (tri_of hb); clear hb; have q0 := HB.out.1; have q1 := HB.out.2.1; have q2 := HB.out.2.2.1; have f0 := HB.out.2.2.2.1; have f1 := HB.out.2.2.2.2.1; have f2 := HB.out.2.2.2.2.2.1; have hz := HB.out.2.2.2.2.2.2.2) | (go_at_call 38; refine (in_c _ _).mono ?_; rintro r w2 ⟨rfl, rfl⟩) | (go_at_call 39; refine (rsite_c _ _).mono ?_; rintro r w2 ⟨rfl, rfl⟩) | (go_at_call 40; refine (rheld_v hh _).mono ?_; rintro r w3 ⟨rfl, hb⟩; have HC := Lib.hid (HB.out.on hb); clear hb hz q0 q1 q2 f0 f1 f2 HB; have HB := HC; clear HC; have q0 := HB.out.1; have q1 := HB.out.2.1; have q2 := HB.out.2.2.1; have f0 := HB.out.2.2.2.1; have f1 := HB.out.2.2.2.2.1; have f2 := HB.out.2.2.2.2.2.1; have hz := HB.out.2.2.2.2.2.2.2))
  have HC := Lib.hid (HB.out.setU (.int .i64 U))
  clear hz q0 q1 q2 f0 f1 f2 HB
  have HB := HC
  clear HC
  have q0 := HB.out.1; have q1 := HB.out.2.1; have q2 := HB.out.2.2.1; have f0 := HB.out.2.2.2.1; have f1 := HB.out.2.2.2.2.1; have f2 := HB.out.2.2.2.2.2.1; have hz := HB.out.2.2.2.2.2.2.2
  go_region_held3 (fun w' => (∀ o, w'.cell? ⟨w.heap.size, o, none⟩ = (#[.int .i64 E, .int .i64 H, .int .i64 U] : Array Value)[o]?) ∧ (∀ o, w'.cell? ⟨w.heap.size + 1, o, none⟩ = (#[.int .i64 15, .int .i64 f, .int .i64 t, .int .i64 n, .int .i64 v, .int .i64 e, vs, bd] : Array Value)[o]?)) (first | exact ⟨HB.out.drew.1, HB.out.drew.2.1⟩ | exact ⟨HD.out.1, HD.out.2.1⟩ | exact two_set HD.out _ _ _ _ _ _) ((go_at_call 41; refine (ranswer_c _ _ _ _ _ _ _ _ _ _ _ _).mono ?_; rintro r w4 ⟨x, rfl, hx, hb⟩; have HX := Lib.hid hx; have HD := Lib.hid (HB.out.drew.on hb); clear hx hb hz q0 q1 q2 f0 f1 f2; have q0 := HD.out.1; have q1 := HD.out.2.1; have q2 := HD.out.2.2.1; have f0 := HD.out.2.2.2.1; have f1 := HD.out.2.2.2.2.1; have f2 := HD.out.2.2.2.2.2.1; have hz := HD.out.2.2.2.2.2.2.2))
  go_wp2
  refine bodyPost_ret (v := .tuple #[.agg #[.int .i64 E, .int .i64 H, .int .i64 U], x]) (by simp [results, Try.results13, go_sem, q2]) rfl ?_
  exact ⟨_, rfl, ans_set (o := some (_, _, _)) HX.out HB.out.2.2.2.2.2.2.2 _ _ _ _ _ _ rfl, bl_set (bl_set (bl_set HD.out.2.2.2.2.2.2.1 (by omega) _ _) (by omega) _ _) (by omega) _ _⟩

set_option maxHeartbeats 1000000 in
theorem rh_ren17a (E H U now term f t n v e : Int) (vs bd : Value) (w : World) (hg : goodB E H U now term f e = true) (hE : (e == E) = true) (hF : (f == H) = true) (hh : heldB H U now = true) (hU : U < now + term) :
    Calls Try.prog 13 #[.agg #[.int .i64 E, .int .i64 H, .int .i64 U], .int .i64 now, .int .i64 term, .agg (Msg8 17 f t n v e vs bd)] w (HRet w f n ((E, H, now + term), some (16, e, term))) := by
  unfold Msg8
  have hw : wOk E H U = true := by simp [goodB] at hg; exact hg.1
  have hn : btw now 0 1073741824 = true := by simp [goodB] at hg; exact hg.2.1
  have ht : btw term 1 (1073741824 - now) = true := by simp [goodB] at hg; exact hg.2.2.1
  have hf : btw f 0 3 = true := by simp [goodB] at hg; exact hg.2.2.2.1
  have he : btw e 0 1073741824 = true := by simp [goodB] at hg; exact hg.2.2.2.2
  clear hg
  have hok : (okN true != 0) = false := rfl
  obtain ⟨hn1, hn2⟩ := bw0 _ _ hn
  have ht1 : 1 ≤ term := by simp [btw] at ht; exact ht.1
  have ht2 : term ≤ 1073741824 - now := by simp [btw] at ht; exact ht.2
  clear ht
  go_enter Try.func13, Try.ntmps13
  go_wp2_with (first | (go_at_call 16; refine (rcheck_c _ _ _ _).mono ?_; rw [hw]; rintro r w1 ⟨rfl, hb⟩; have HB := Lib.hid (tri_of hb); clear hb; have q0 := HB.out.1; have q1 := HB.out.2.1; have q2 := HB.out.2.2.1; have f0 := HB.out.2.2.2.1; have f1 := HB.out.2.2.2.2.1; have f2 := HB.out.2.2.2.2.2.1; have hz := HB.out.2.2.2.2.2.2.2) | (go_at_call 38; refine (in_c _ _).mono ?_; rintro r w2 ⟨rfl, rfl⟩) | (go_at_call 39; refine (rsite_c _ _).mono ?_; rintro r w2 ⟨rfl, rfl⟩) | (go_at_call 40; refine (rheld_v hh _).mono ?_; rintro r w3 ⟨rfl, hb⟩; have HC := Lib.hid (HB.out.on hb); clear hb hz q0 q1 q2 f0 f1 f2 HB; have HB := HC; clear HC; have q0 := HB.out.1; have q1 := HB.out.2.1; have q2 := HB.out.2.2.1; have f0 := HB.out.2.2.2.1; have f1 := HB.out.2.2.2.2.1; have f2 := HB.out.2.2.2.2.2.1; have hz := HB.out.2.2.2.2.2.2.2))
  have HC := Lib.hid (HB.out.setU (.int .i64 (now + term)))
  clear hz q0 q1 q2 f0 f1 f2 HB
  have HB := HC
  clear HC
  have q0 := HB.out.1; have q1 := HB.out.2.1; have q2 := HB.out.2.2.1; have f0 := HB.out.2.2.2.1; have f1 := HB.out.2.2.2.2.1; have f2 := HB.out.2.2.2.2.2.1; have hz := HB.out.2.2.2.2.2.2.2
  go_region_held3 (fun w' => (∀ o, w'.cell? ⟨w.heap.size, o, none⟩ = (#[.int .i64 E, .int .i64 H, .int .i64 (now + term)] : Array Value)[o]?) ∧ (∀ o, w'.cell? ⟨w.heap.size + 1, o, none⟩ = (#[.int .i64 17, .int .i64 f, .int .i64 t, .int .i64 n, .int .i64 v, .int .i64 e, vs, bd] : Array Value)[o]?)) (first | exact ⟨HB.out.drew.1, HB.out.drew.2.1⟩ | exact ⟨HD.out.1, HD.out.2.1⟩ | exact two_set HD.out _ _ _ _ _ _) ((go_at_call 41; refine (ranswer_c _ _ _ _ _ _ _ _ _ _ _ _).mono ?_; rintro r w4 ⟨x, rfl, hx, hb⟩; have HX := Lib.hid hx; have HD := Lib.hid (HB.out.drew.on hb); clear hx hb hz q0 q1 q2 f0 f1 f2; have q0 := HD.out.1; have q1 := HD.out.2.1; have q2 := HD.out.2.2.1; have f0 := HD.out.2.2.2.1; have f1 := HD.out.2.2.2.2.1; have f2 := HD.out.2.2.2.2.2.1; have hz := HD.out.2.2.2.2.2.2.2))
  go_wp2
  refine bodyPost_ret (v := .tuple #[.agg #[.int .i64 E, .int .i64 H, .int .i64 (now + term)], x]) (by simp [results, Try.results13, go_sem, q2]) rfl ?_
  exact ⟨_, rfl, ans_set (o := some (_, _, _)) HX.out HB.out.2.2.2.2.2.2.2 _ _ _ _ _ _ rfl, bl_set (bl_set (bl_set HD.out.2.2.2.2.2.2.1 (by omega) _ _) (by omega) _ _) (by omega) _ _⟩

set_option maxHeartbeats 1000000 in
theorem rh_ren17b (E H U now term f t n v e : Int) (vs bd : Value) (w : World) (hg : goodB E H U now term f e = true) (hE : (e == E) = true) (hF : (f == H) = true) (hh : heldB H U now = true) (hU : now + term ≤ U) :
    Calls Try.prog 13 #[.agg #[.int .i64 E, .int .i64 H, .int .i64 U], .int .i64 now, .int .i64 term, .agg (Msg8 17 f t n v e vs bd)] w (HRet w f n ((E, H, U), some (16, e, term))) := by
  unfold Msg8
  have hw : wOk E H U = true := by simp [goodB] at hg; exact hg.1
  have hn : btw now 0 1073741824 = true := by simp [goodB] at hg; exact hg.2.1
  have ht : btw term 1 (1073741824 - now) = true := by simp [goodB] at hg; exact hg.2.2.1
  have hf : btw f 0 3 = true := by simp [goodB] at hg; exact hg.2.2.2.1
  have he : btw e 0 1073741824 = true := by simp [goodB] at hg; exact hg.2.2.2.2
  clear hg
  have hok : (okN true != 0) = false := rfl
  obtain ⟨hn1, hn2⟩ := bw0 _ _ hn
  have ht1 : 1 ≤ term := by simp [btw] at ht; exact ht.1
  have ht2 : term ≤ 1073741824 - now := by simp [btw] at ht; exact ht.2
  clear ht
  go_enter Try.func13, Try.ntmps13
  go_wp2_with (first | (go_at_call 16; refine (rcheck_c _ _ _ _).mono ?_; rw [hw]; rintro r w1 ⟨rfl, hb⟩; have HB := Lib.hid (tri_of hb); clear hb; have q0 := HB.out.1; have q1 := HB.out.2.1; have q2 := HB.out.2.2.1; have f0 := HB.out.2.2.2.1; have f1 := HB.out.2.2.2.2.1; have f2 := HB.out.2.2.2.2.2.1; have hz := HB.out.2.2.2.2.2.2.2) | (go_at_call 38; refine (in_c _ _).mono ?_; rintro r w2 ⟨rfl, rfl⟩) | (go_at_call 39; refine (rsite_c _ _).mono ?_; rintro r w2 ⟨rfl, rfl⟩) | (go_at_call 40; refine (rheld_v hh _).mono ?_; rintro r w3 ⟨rfl, hb⟩; have HC := Lib.hid (HB.out.on hb); clear hb hz q0 q1 q2 f0 f1 f2 HB; have HB := HC; clear HC; have q0 := HB.out.1; have q1 := HB.out.2.1; have q2 := HB.out.2.2.1; have f0 := HB.out.2.2.2.1; have f1 := HB.out.2.2.2.2.1; have f2 := HB.out.2.2.2.2.2.1; have hz := HB.out.2.2.2.2.2.2.2))
  have HC := Lib.hid (HB.out.setU (.int .i64 U))
  clear hz q0 q1 q2 f0 f1 f2 HB
  have HB := HC
  clear HC
  have q0 := HB.out.1; have q1 := HB.out.2.1; have q2 := HB.out.2.2.1; have f0 := HB.out.2.2.2.1; have f1 := HB.out.2.2.2.2.1; have f2 := HB.out.2.2.2.2.2.1; have hz := HB.out.2.2.2.2.2.2.2
  go_region_held3 (fun w' => (∀ o, w'.cell? ⟨w.heap.size, o, none⟩ = (#[.int .i64 E, .int .i64 H, .int .i64 U] : Array Value)[o]?) ∧ (∀ o, w'.cell? ⟨w.heap.size + 1, o, none⟩ = (#[.int .i64 17, .int .i64 f, .int .i64 t, .int .i64 n, .int .i64 v, .int .i64 e, vs, bd] : Array Value)[o]?)) (first | exact ⟨HB.out.drew.1, HB.out.drew.2.1⟩ | exact ⟨HD.out.1, HD.out.2.1⟩ | exact two_set HD.out _ _ _ _ _ _) ((go_at_call 41; refine (ranswer_c _ _ _ _ _ _ _ _ _ _ _ _).mono ?_; rintro r w4 ⟨x, rfl, hx, hb⟩; have HX := Lib.hid hx; have HD := Lib.hid (HB.out.drew.on hb); clear hx hb hz q0 q1 q2 f0 f1 f2; have q0 := HD.out.1; have q1 := HD.out.2.1; have q2 := HD.out.2.2.1; have f0 := HD.out.2.2.2.1; have f1 := HD.out.2.2.2.2.1; have f2 := HD.out.2.2.2.2.2.1; have hz := HD.out.2.2.2.2.2.2.2))
  go_wp2
  refine bodyPost_ret (v := .tuple #[.agg #[.int .i64 E, .int .i64 H, .int .i64 U], x]) (by simp [results, Try.results13, go_sem, q2]) rfl ?_
  exact ⟨_, rfl, ans_set (o := some (_, _, _)) HX.out HB.out.2.2.2.2.2.2.2 _ _ _ _ _ _ rfl, bl_set (bl_set (bl_set HD.out.2.2.2.2.2.2.1 (by omega) _ _) (by omega) _ _) (by omega) _ _⟩

end Go.Proofs.Ytmgnpjaemjpamaa
