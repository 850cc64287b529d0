/- The contract of the reference's Handle, joined. -/
import Derived.Test.YtmgnpjaemjpamaaH
set_option linter.unusedSimpArgs false
set_option linter.unusedVariables false
namespace Go.Proofs.Ytmgnpjaemjpamaa
open Go.RowKit

set_option maxHeartbeats 1000000 in
theorem rh_rel (E H U now term f t n v e : Int) (vs bd : Value) (w : World) (hg : goodB E H U now term f e = true) (hE : (e == E) = true) (hF : (f == H) = true) :
    Calls Try.prog 13 #[.agg #[.int .i64 E, .int .i64 H, .int .i64 U], .int .i64 now, .int .i64 term, .agg (Msg8 18 f t n v e vs bd)] w (HRet w f n ((E, -1, 0), none)) := by
  unfold Msg8
  have hw : wOk E H U = true := by simp [goodB] at hg; exact hg.1
  have hn : btw now 0 1073741824 = true := by simp [goodB] at hg; exact hg.2.1
  have ht : btw term 1 (1073741824 - now) = true := by simp [goodB] at hg; exact hg.2.2.1
  have hf : btw f 0 3 = true := by simp [goodB] at hg; exact hg.2.2.2.1
  have he : btw e 0 1073741824 = true := by simp [goodB] at hg; exact hg.2.2.2.2
  clear hg
  have hok : (okN true != 0) = false := rfl
  obtain ⟨hn1, hn2⟩ := bw0 _ _ hn
  have ht1 : 1 ≤ term := by simp [btw] at ht; exact ht.1
  have ht2 : term ≤ 1073741824 - now := by simp [btw] at ht; exact ht.2
  clear ht
  go_enter Try.func13, Try.ntmps13
  go_wp2_with (first | (go_at_call 16; refine (rcheck_c _ _ _ _).mono ?_; rw [hw]; rintro r w1 ⟨rfl, hb⟩; have HB := Lib.hid (tri_of hb); clear hb; have q0 := HB.out.1; have q1 := HB.out.2.1; have q2 := HB.out.2.2.1; have f0 := HB.out.2.2.2.1; have f1 := HB.out.2.2.2.2.1; have f2 := HB.out.2.2.2.2.2.1; have hz := HB.out.2.2.2.2.2.2.2) | (go_at_call 38; refine (in_c _ _).mono ?_; rintro r w2 ⟨rfl, rfl⟩) | (go_at_call 39; refine (rsite_c _ _).mono ?_; rintro r w2 ⟨rfl, rfl⟩))
  exact bodyPost_ret (v := .tuple #[.agg #[.int .i64 E, .int .i64 (-1), .int .i64 0], .slice none 0 0]) (by simp [results, Try.results13, go_sem, q2]) rfl ⟨_, rfl, rfl, bl_set (bl_set (bl_set (bl_set (bl_set HB.out.2.2.2.2.2.2.1 (by omega) _ _) (by omega) _ _) (by omega) _ _) (by omega) _ _) (by omega) _ _⟩

set_option maxHeartbeats 1000000 in
theorem rh_none18c (E H U now term f t n v e : Int) (vs bd : Value) (w : World) (hg : goodB E H U now term f e = true) (hE : (e == E) = false) :
    Calls Try.prog 13 #[.agg #[.int .i64 E, .int .i64 H, .int .i64 U], .int .i64 now, .int .i64 term, .agg (Msg8 18 f t n v e vs bd)] w (HRet w f n ((E, H, U), none)) := by
  unfold Msg8
  have hw : wOk E H U = true := by simp [goodB] at hg; exact hg.1
  have hn : btw now 0 1073741824 = true := by simp [goodB] at hg; exact hg.2.1
  have ht : btw term 1 (1073741824 - now) = true := by simp [goodB] at hg; exact hg.2.2.1
  have hf : btw f 0 3 = true := by simp [goodB] at hg; exact hg.2.2.2.1
  have he : btw e 0 1073741824 = true := by simp [goodB] at hg; exact hg.2.2.2.2
  clear hg
  have hok : (okN true != 0) = false := rfl
  obtain ⟨hn1, hn2⟩ := bw0 _ _ hn
  have ht1 : 1 ≤ term := by simp [btw] at ht; exact ht.1
  have ht2 : term ≤ 1073741824 - now := by simp [btw] at ht; exact ht.2
  clear ht
  go_enter Try.func13, Try.ntmps13
  go_wp2_with (first | (go_at_call 16; refine (rcheck_c _ _ _ _).mono ?_; rw [hw]; rintro r w1 ⟨rfl, hb⟩; have HB := Lib.hid (tri_of hb); clear hb; have q0 := HB.out.1; have q1 := HB.out.2.1; have q2 := HB.out.2.2.1; have f0 := HB.out.2.2.2.1; have f1 := HB.out.2.2.2.2.1; have f2 := HB.out.2.2.2.2.2.1; have hz := HB.out.2.2.2.2.2.2.2) | (go_at_call 38; refine (in_c _ _).mono ?_; rintro r w2 ⟨rfl, rfl⟩) | (go_at_call 39; refine (rsite_c _ _).mono ?_; rintro r w2 ⟨rfl, rfl⟩))
  exact bodyPost_ret (v := .tuple #[.agg #[.int .i64 E, .int .i64 H, .int .i64 U], .slice none 0 0]) (by simp [results, Try.results13, go_sem, q2]) rfl ⟨_, rfl, rfl, bl_set (bl_set (bl_set HB.out.2.2.2.2.2.2.1 (by omega) _ _) (by omega) _ _) (by omega) _ _⟩

set_option maxHeartbeats 1000000 in
theorem rh_none18d (E H U now term f t n v e : Int) (vs bd : Value) (w : World) (hg : goodB E H U now term f e = true) (hE : (e == E) = true) (hF : (f == H) = false) :
    Calls Try.prog 13 #[.agg #[.int .i64 E, .int .i64 H, .int .i64 U], .int .i64 now, .int .i64 term, .agg (Msg8 18 f t n v e vs bd)] w (HRet w f n ((E, H, U), none)) := by
  unfold Msg8
  have hw : wOk E H U = true := by simp [goodB] at hg; exact hg.1
  have hn : btw now 0 1073741824 = true := by simp [goodB] at hg; exact hg.2.1
  have ht : btw term 1 (1073741824 - now) = true := by simp [goodB] at hg; exact hg.2.2.1
  have hf : btw f 0 3 = true := by simp [goodB] at hg; exact hg.2.2.2.1
  have he : btw e 0 1073741824 = true := by simp [goodB] at hg; exact hg.2.2.2.2
  clear hg
  have hok : (okN true != 0) = false := rfl
  obtain ⟨hn1, hn2⟩ := bw0 _ _ hn
  have ht1 : 1 ≤ term := by simp [btw] at ht; exact ht.1
  have ht2 : term ≤ 1073741824 - now := by simp [btw] at ht; exact ht.2
  clear ht
  go_enter Try.func13, Try.ntmps13
  go_wp2_with (first | (go_at_call 16; refine (rcheck_c _ _ _ _).mono ?_; rw [hw]; rintro r w1 ⟨rfl, hb⟩; have HB := Lib.hid (tri_of hb); clear hb; have q0 := HB.out.1; have q1 := HB.out.2.1; have q2 := HB.out.2.2.1; have f0 := HB.out.2.2.2.1; have f1 := HB.out.2.2.2.2.1; have f2 := HB.out.2.2.2.2.2.1; have hz := HB.out.2.2.2.2.2.2.2) | (go_at_call 38; refine (in_c _ _).mono ?_; rintro r w2 ⟨rfl, rfl⟩) | (go_at_call 39; refine (rsite_c _ _).mono ?_; rintro r w2 ⟨rfl, rfl⟩))
  exact bodyPost_ret (v := .tuple #[.agg #[.int .i64 E, .int .i64 H, .int .i64 U], .slice none 0 0]) (by simp [results, Try.results13, go_sem, q2]) rfl ⟨_, rfl, rfl, bl_set (bl_set (bl_set HB.out.2.2.2.2.2.2.1 (by omega) _ _) (by omega) _ _) (by omega) _ _⟩

set_option maxHeartbeats 1000000 in
theorem rh_other_c (E H U now term k f t n v e : Int) (vs bd : Value) (w : World) (hg : goodB E H U now term f e = true) (k1 : (k == 15) = false) (k2 : (k == 17) = false) (k3 : (k == 18) = false) (hE : (e == E) = false) :
    Calls Try.prog 13 #[.agg #[.int .i64 E, .int .i64 H, .int .i64 U], .int .i64 now, .int .i64 term, .agg (Msg8 k f t n v e vs bd)] w (HRet w f n ((E, H, U), none)) := by
  unfold Msg8
  have hw : wOk E H U = true := by simp [goodB] at hg; exact hg.1
  have hn : btw now 0 1073741824 = true := by simp [goodB] at hg; exact hg.2.1
  have ht : btw term 1 (1073741824 - now) = true := by simp [goodB] at hg; exact hg.2.2.1
  have hf : btw f 0 3 = true := by simp [goodB] at hg; exact hg.2.2.2.1
  have he : btw e 0 1073741824 = true := by simp [goodB] at hg; exact hg.2.2.2.2
  clear hg
  have hok : (okN true != 0) = false := rfl
  obtain ⟨hn1, hn2⟩ := bw0 _ _ hn
  have ht1 : 1 ≤ term := by simp [btw] at ht; exact ht.1
  have ht2 : term ≤ 1073741824 - now := by simp [btw] at ht; exact ht.2
  clear ht
  go_enter Try.func13, Try.ntmps13
  go_wp2_with (first | (go_at_call 16; refine (rcheck_c _ _ _ _).mono ?_; rw [hw]; rintro r w1 ⟨rfl, hb⟩; have HB := Lib.hid (tri_of hb); clear hb; have q0 := HB.out.1; have q1 := HB.out.2.1; have q2 := HB.out.2.2.1; have f0 := HB.out.2.2.2.1; have f1 := HB.out.2.2.2.2.1; have f2 := HB.out.2.2.2.2.2.1; have hz := HB.out.2.2.2.2.2.2.2) | (go_at_call 38; refine (in_c _ _).mono ?_; rintro r w2 ⟨rfl, rfl⟩) | (go_at_call 39; refine (rsite_c _ _).mono ?_; rintro r w2 ⟨rfl, rfl⟩))
  exact bodyPost_ret (v := .tuple #[.agg #[.int .i64 E, .int .i64 H, .int .i64 U], .slice none 0 0]) (by simp [results, Try.results13, go_sem, q2]) rfl ⟨_, rfl, rfl, bl_set (bl_set (bl_set HB.out.2.2.2.2.2.2.1 (by omega) _ _) (by omega) _ _) (by omega) _ _⟩

set_option maxHeartbeats 1000000 in
theorem rh_other_d (E H U now term k f t n v e : Int) (vs bd : Value) (w : World) (hg : goodB E H U now term f e = true) (k1 : (k == 15) = false) (k2 : (k == 17) = false) (k3 : (k == 18) = false) (hE : (e == E) = true) (hF : (f == H) = false) :
    Calls Try.prog 13 #[.agg #[.int .i64 E, .int .i64 H, .int .i64 U], .int .i64 now, .int .i64 term, .agg (Msg8 k f t n v e vs bd)] w (HRet w f n ((E, H, U), none)) := by
  unfold Msg8
  have hw : wOk E H U = true := by simp [goodB] at hg; exact hg.1
  have hn : btw now 0 1073741824 = true := by simp [goodB] at hg; exact hg.2.1
  have ht : btw term 1 (1073741824 - now) = true := by simp [goodB] at hg; exact hg.2.2.1
  have hf : btw f 0 3 = true := by simp [goodB] at hg; exact hg.2.2.2.1
  have he : btw e 0 1073741824 = true := by simp [goodB] at hg; exact hg.2.2.2.2
  clear hg
  have hok : (okN true != 0) = false := rfl
  obtain ⟨hn1, hn2⟩ := bw0 _ _ hn
  have ht1 : 1 ≤ term := by simp [btw] at ht; exact ht.1
  have ht2 : term ≤ 1073741824 - now := by simp [btw] at ht; exact ht.2
  clear ht
  go_enter Try.func13, Try.ntmps13
  go_wp2_with (first | (go_at_call 16; refine (rcheck_c _ _ _ _).mono ?_; rw [hw]; rintro r w1 ⟨rfl, hb⟩; have HB := Lib.hid (tri_of hb); clear hb; have q0 := HB.out.1; have q1 := HB.out.2.1; have q2 := HB.out.2.2.1; have f0 := HB.out.2.2.2.1; have f1 := HB.out.2.2.2.2.1; have f2 := HB.out.2.2.2.2.2.1; have hz := HB.out.2.2.2.2.2.2.2) | (go_at_call 38; refine (in_c _ _).mono ?_; rintro r w2 ⟨rfl, rfl⟩) | (go_at_call 39; refine (rsite_c _ _).mono ?_; rintro r w2 ⟨rfl, rfl⟩))
  exact bodyPost_ret (v := .tuple #[.agg #[.int .i64 E, .int .i64 H, .int .i64 U], .slice none 0 0]) (by simp [results, Try.results13, go_sem, q2]) rfl ⟨_, rfl, rfl, bl_set (bl_set (bl_set HB.out.2.2.2.2.2.2.1 (by omega) _ _) (by omega) _ _) (by omega) _ _⟩

set_option maxHeartbeats 1000000 in
theorem rh_other_e (E H U now term k f t n v e : Int) (vs bd : Value) (w : World) (hg : goodB E H U now term f e = true) (k1 : (k == 15) = false) (k2 : (k == 17) = false) (k3 : (k == 18) = false) (hE : (e == E) = true) (hF : (f == H) = true) :
    Calls Try.prog 13 #[.agg #[.int .i64 E, .int .i64 H, .int .i64 U], .int .i64 now, .int .i64 term, .agg (Msg8 k f t n v e vs bd)] w (HRet w f n ((E, H, U), none)) := by
  unfold Msg8
  have hw : wOk E H U = true := by simp [goodB] at hg; exact hg.1
  have hn : btw now 0 1073741824 = true := by simp [goodB] at hg; exact hg.2.1
  have ht : btw term 1 (1073741824 - now) = true := by simp [goodB] at hg; exact hg.2.2.1
  have hf : btw f 0 3 = true := by simp [goodB] at hg; exact hg.2.2.2.1
  have he : btw e 0 1073741824 = true := by simp [goodB] at hg; exact hg.2.2.2.2
  clear hg
  have hok : (okN true != 0) = false := rfl
  obtain ⟨hn1, hn2⟩ := bw0 _ _ hn
  have ht1 : 1 ≤ term := by simp [btw] at ht; exact ht.1
  have ht2 : term ≤ 1073741824 - now := by simp [btw] at ht; exact ht.2
  clear ht
  go_enter Try.func13, Try.ntmps13
  go_wp2_with (first | (go_at_call 16; refine (rcheck_c _ _ _ _).mono ?_; rw [hw]; rintro r w1 ⟨rfl, hb⟩; have HB := Lib.hid (tri_of hb); clear hb; have q0 := HB.out.1; have q1 := HB.out.2.1; have q2 := HB.out.2.2.1; have f0 := HB.out.2.2.2.1; have f1 := HB.out.2.2.2.2.1; have f2 := HB.out.2.2.2.2.2.1; have hz := HB.out.2.2.2.2.2.2.2) | (go_at_call 38; refine (in_c _ _).mono ?_; rintro r w2 ⟨rfl, rfl⟩) | (go_at_call 39; refine (rsite_c _ _).mono ?_; rintro r w2 ⟨rfl, rfl⟩))
  exact bodyPost_ret (v := .tuple #[.agg #[.int .i64 E, .int .i64 H, .int .i64 U], .slice none 0 0]) (by simp [results, Try.results13, go_sem, q2]) rfl ⟨_, rfl, rfl, bl_set (bl_set (bl_set HB.out.2.2.2.2.2.2.1 (by omega) _ _) (by omega) _ _) (by omega) _ _⟩

theorem rhandle_c (E H U now term k f t n v e : Int) (vs bd : Value) (w : World) :
    Calls Try.prog 13 #[.agg #[.int .i64 E, .int .i64 H, .int .i64 U], .int .i64 now, .int .i64 term, .agg (Msg8 k f t n v e vs bd)] w (HRet w f n (handleS E H U now term k f e)) := by
  unfold handleS
  rcases hg : goodB E H U now term f e with _ | _
  · exact rhandle_bad E H U now term k f t n v e vs bd w hg
  rw [if_pos rfl]
  have comm : (H == f) = (f == H) := by rw [Bool.eq_iff_iff]; simp; exact eq_comm
  have hren : ∀ K : Int, (K = 15 → ¬ E < e) → (K = 15 ∨ K = 17) → (ownB E H U now f e = true) → Calls Try.prog 13 #[.agg #[.int .i64 E, .int .i64 H, .int .i64 U], .int .i64 now, .int .i64 term, .agg (Msg8 K f t n v e vs bd)] w (HRet w f n (renewS E H U now term f e)) := by
    intro K hK hK2 ho
    unfold renewS
    rw [if_pos ho]
    have hE : (e == E) = true := by simp [ownB] at ho; simpa using ho.1.1
    have hF : (f == H) = true := by simp [ownB] at ho; simpa using ho.1.2.symm
    have hh : heldB H U now = true := by simp [ownB] at ho; exact ho.2
    have hEe : e = E := by simpa using hE
    by_cases hU : U < now + term
    · rw [show max U (now + term) = now + term from by omega, ← hEe]
      rcases hK2 with rfl | rfl
      · have := rh_ren15a E H U now term f t n v e vs bd w hg (hK rfl) hE hF hh hU; rwa [← hEe] at this
      · have := rh_ren17a E H U now term f t n v e vs bd w hg hE hF hh hU; rwa [← hEe] at this
    · rw [show max U (now + term) = U from by omega, ← hEe]
      rcases hK2 with rfl | rfl
      · have := rh_ren15b E H U now term f t n v e vs bd w hg (hK rfl) hE hF hh (by omega); rwa [← hEe] at this
      · have := rh_ren17b E H U now term f t n v e vs bd w hg hE hF hh (by omega); rwa [← hEe] at this
  by_cases k1 : k = 15
  · subst k1
    rw [if_pos rfl]
    rcases ha : acqB E H U now f e with _ | _
    · rw [if_neg (by decide)]
      by_cases hl : E < e
      · have h2 : heldB H U now = true ∧ (f == H) = false := by simp [acqB, hl, comm] at ha; simpa using ha
        have ho : ownB E H U now f e = false := by have : (e == E) = false := by simp; omega
                                                   simp [ownB, this]
        unfold renewS; rw [if_neg (by simp [ho])]
        exact rh_ref15a E H U now term f t n v e vs bd w hg hl h2.1 h2.2
      · rcases ho : ownB E H U now f e with _ | _
        · unfold renewS; rw [if_neg (by simp [ho])]
          rcases hE : (e == E) with _ | _
          · exact rh_ref15c E H U now term f t n v e vs bd w hg hl hE
          rcases hF : (f == H) with _ | _
          · exact rh_ref15d E H U now term f t n v e vs bd w hg hl hE hF
          · exact rh_ref15b E H U now term f t n v e vs bd w hg hl hE hF (by simpa [ownB, hE, comm, hF] using ho)
        · exact hren 15 (fun _ => hl) (.inl rfl) ho
    · have hl : E < e := by simp [acqB] at ha; exact ha.1
      rcases hh : heldB H U now with _ | _
      · exact rh_acq1 E H U now term f t n v e vs bd w hg hl hh
      · exact rh_acq2 E H U now term f t n v e vs bd w hg hl hh (by simp [acqB, hh, comm] at ha; simpa using ha.2)
  rw [if_neg k1]
  by_cases k2 : k = 17
  · subst k2
    rw [if_pos rfl]
    rcases ho : ownB E H U now f e with _ | _
    · unfold renewS; rw [if_neg (by simp [ho])]
      rcases hE : (e == E) with _ | _
      · exact rh_ref17c E H U now term f t n v e vs bd w hg hE
      rcases hF : (f == H) with _ | _
      · exact rh_ref17d E H U now term f t n v e vs bd w hg hE hF
      · exact rh_ref17b E H U now term f t n v e vs bd w hg hE hF (by simpa [ownB, hE, comm, hF] using ho)
    · exact hren 17 (fun h => by omega) (.inr rfl) ho
  rw [if_neg k2]
  by_cases k3 : k = 18
  · subst k3
    rw [if_pos rfl]
    rcases hE : (e == E) with _ | _
    · exact rh_none18c E H U now term f t n v e vs bd w hg hE
    rcases hF : (f == H) with _ | _
    · exact rh_none18d E H U now term f t n v e vs bd w hg hE hF
    · exact rh_rel E H U now term f t n v e vs bd w hg hE hF
  rw [if_neg k3]
  have j1 : (k == 15) = false := by simpa using k1
  have j2 : (k == 17) = false := by simpa using k2
  have j3 : (k == 18) = false := by simpa using k3
  rcases hE : (e == E) with _ | _
  · exact rh_other_c E H U now term k f t n v e vs bd w hg j1 j2 j3 hE
  rcases hF : (f == H) with _ | _
  · exact rh_other_d E H U now term k f t n v e vs bd w hg j1 j2 j3 hE hF
  · exact rh_other_e E H U now term k f t n v e vs bd w hg j1 j2 j3 hE hF

end Go.Proofs.Ytmgnpjaemjpamaa
