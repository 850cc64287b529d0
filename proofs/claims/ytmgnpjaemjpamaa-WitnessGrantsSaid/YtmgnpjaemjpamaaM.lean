/- The contracts of Learn, joined. -/
import Derived.Test.YtmgnpjaemjpamaaL
set_option linter.unusedSimpArgs false
set_option linter.unusedVariables false
namespace Go.Proofs.Ytmgnpjaemjpamaa
open Go.RowKit

theorem mn2_min (a b : Int) : mn2 a b = min a b := by unfold mn2; split <;> omega
theorem mx2_max (a b : Int) : mx2 a b = max a b := by unfold mx2; split <;> omega
theorem until_1 (sent term margin v : Int) : mn2 (mx2 (sent + mn2 term v - margin) 0) 1073741824 = untilS sent term margin v := by
  simp only [mn2_min, mx2_max, untilS]; omega
theorem until_2 (sent term margin v : Int) (h : mn2 term v ≤ 0) (h1 : sent ≤ 1073741824) (h2 : 0 ≤ margin) : mx2 (sent + mn2 term v - margin) 0 = untilS sent term margin v := by
  simp only [mn2_min, mx2_max, untilS] at *; omega
theorem until_3 (sent term margin v : Int) (h : mn2 term v ≤ -1073741824) (h1 : sent ≤ 1073741824) (h2 : 0 ≤ margin) : untilS sent term margin v = 0 := by
  simp only [mn2_min, untilS] at *; omega
theorem until_r (sent term margin v : Int) (h : v ≤ 0) (h0 : 0 ≤ term) (h1 : sent ≤ 1073741824) (h2 : 0 ≤ margin) : mx2 (sent - margin + mx2 v (-1073741824)) 0 = untilS sent term margin v := by
  simp only [mx2_max, untilS] at *; omega

theorem learn_c (S E U sent term margin k f t n v e : Int) (vs bd : Value) (w : World) :
    Calls Try.prog 17 #[.agg #[.int .i64 S, .int .i64 E, .int .i64 U], .int .i64 sent, .int .i64 term, .int .i64 margin, .agg (Msg8 k f t n v e vs bd)] w (RetL w S (learnS S E U sent term margin k t v e)) := by
  unfold learnS
  rcases hg : learnOk S E U sent term margin t e with _ | _
  · exact learn_bad S E U sent term margin k f t n v e vs bd w hg
  rw [if_pos rfl]
  have hb : btw sent 0 1073741824 = true ∧ btw term 0 1073741824 = true ∧ btw margin 0 1073741824 = true := by
    simp only [learnOk, Bool.and_eq_true] at hg; exact ⟨hg.2.1, hg.2.2.1, hg.2.2.2.1⟩
  obtain ⟨a1, a2⟩ := bw0 _ _ hb.1
  obtain ⟨b1, b2⟩ := bw0 _ _ hb.2.1
  obtain ⟨c1, c2⟩ := bw0 _ _ hb.2.2
  by_cases hv : 0 < mn2 term v
  · generalize hu : untilS sent term margin v = u
    have hu' := (until_1 sent term margin v).trans hu
    by_cases k1 : k = 16
    · subst k1
      rw [if_pos rfl]
      by_cases e1 : E < e
      · rw [if_pos e1]; exact learn_g1_k16a S E U sent term margin f t n v e vs bd w hg hv u hu' e1
      rw [if_neg e1]
      by_cases e2 : e = E
      · rw [if_pos e2, ← mx2_max]; exact learn_g1_k16b S E U sent term margin f t n v e vs bd w hg hv u hu' (by simpa using e2)
      · rw [if_neg e2]; exact learn_g1_k16c S E U sent term margin f t n v e vs bd w hg hv u hu' (by omega)
    rw [if_neg k1]
    by_cases k2 : k = 12
    · subst k2
      rw [if_pos rfl]
      by_cases e1 : E < e
      · rw [if_pos e1]; exact learn_g1_k12a S E U sent term margin f t n v e vs bd w hg hv u hu' e1
      · rw [if_neg e1]; exact learn_g1_k12b S E U sent term margin f t n v e vs bd w hg hv u hu' e1
    rw [if_neg k2]
    exact learn_g1_kno S E U sent term margin k f t n v e vs bd w hg hv u hu' (by simpa using k1) (by simpa using k2)
  by_cases hv2 : -1073741824 < mn2 term v
  · generalize hu : untilS sent term margin v = u
    have hu' := (until_2 sent term margin v (by omega) a2 c1).trans hu
    by_cases k1 : k = 16
    · subst k1
      rw [if_pos rfl]
      by_cases e1 : E < e
      · rw [if_pos e1]; exact learn_g2_k16a S E U sent term margin f t n v e vs bd w hg (by omega) hv2 u hu' e1
      rw [if_neg e1]
      by_cases e2 : e = E
      · rw [if_pos e2, ← mx2_max]; exact learn_g2_k16b S E U sent term margin f t n v e vs bd w hg (by omega) hv2 u hu' (by simpa using e2)
      · rw [if_neg e2]; exact learn_g2_k16c S E U sent term margin f t n v e vs bd w hg (by omega) hv2 u hu' (by omega)
    rw [if_neg k1]
    by_cases k2 : k = 12
    · subst k2
      rw [if_pos rfl]
      by_cases e1 : E < e
      · rw [if_pos e1]; exact learn_g2_k12a S E U sent term margin f t n v e vs bd w hg (by omega) hv2 u hu' e1
      · rw [if_neg e1]; exact learn_g2_k12b S E U sent term margin f t n v e vs bd w hg (by omega) hv2 u hu' e1
    rw [if_neg k2]
    exact learn_g2_kno S E U sent term margin k f t n v e vs bd w hg (by omega) hv2 u hu' (by simpa using k1) (by simpa using k2)
  · rw [until_3 sent term margin v (by omega) a2 c1]
    by_cases k1 : k = 16
    · subst k1
      rw [if_pos rfl]
      by_cases e1 : E < e
      · rw [if_pos e1]; exact learn_g3_k16a S E U sent term margin f t n v e vs bd w hg (by omega) (by omega) e1
      rw [if_neg e1]
      by_cases e2 : e = E
      · rw [if_pos e2, ← mx2_max]; exact learn_g3_k16b S E U sent term margin f t n v e vs bd w hg (by omega) (by omega) (by simpa using e2)
      · rw [if_neg e2]; exact learn_g3_k16c S E U sent term margin f t n v e vs bd w hg (by omega) (by omega) (by omega)
    rw [if_neg k1]
    by_cases k2 : k = 12
    · subst k2
      rw [if_pos rfl]
      by_cases e1 : E < e
      · rw [if_pos e1]; exact learn_g3_k12a S E U sent term margin f t n v e vs bd w hg (by omega) (by omega) e1
      · rw [if_neg e1]; exact learn_g3_k12b S E U sent term margin f t n v e vs bd w hg (by omega) (by omega) e1
    rw [if_neg k2]
    exact learn_g3_kno S E U sent term margin k f t n v e vs bd w hg (by omega) (by omega) (by simpa using k1) (by simpa using k2)

theorem rlearn_c (S E U sent term margin k f t n v e : Int) (vs bd : Value) (w : World) :
    Calls Try.prog 18 #[.agg #[.int .i64 S, .int .i64 E, .int .i64 U], .int .i64 sent, .int .i64 term, .int .i64 margin, .agg (Msg8 k f t n v e vs bd)] w (RetL w S (learnS S E U sent term margin k t v e)) := by
  unfold learnS
  rcases hg : learnOk S E U sent term margin t e with _ | _
  · exact rlearn_bad S E U sent term margin k f t n v e vs bd w hg
  rw [if_pos rfl]
  have hb : btw sent 0 1073741824 = true ∧ btw term 0 1073741824 = true ∧ btw margin 0 1073741824 = true := by
    simp only [learnOk, Bool.and_eq_true] at hg; exact ⟨hg.2.1, hg.2.2.1, hg.2.2.2.1⟩
  obtain ⟨a1, a2⟩ := bw0 _ _ hb.1
  obtain ⟨b1, b2⟩ := bw0 _ _ hb.2.1
  obtain ⟨c1, c2⟩ := bw0 _ _ hb.2.2
  by_cases hv : 0 < v
  · generalize hu : untilS sent term margin v = u
    have hu' := (until_1 sent term margin v).trans hu
    by_cases k1 : k = 16
    · subst k1
      rw [if_pos rfl]
      by_cases e1 : E < e
      · rw [if_pos e1]; exact rlearn_g1_k16a S E U sent term margin f t n v e vs bd w hg hv u hu' e1
      rw [if_neg e1]
      by_cases e2 : e = E
      · rw [if_pos e2, ← mx2_max]; exact rlearn_g1_k16b S E U sent term margin f t n v e vs bd w hg hv u hu' (by simpa using e2)
      · rw [if_neg e2]; exact rlearn_g1_k16c S E U sent term margin f t n v e vs bd w hg hv u hu' (by omega)
    rw [if_neg k1]
    by_cases k2 : k = 12
    · subst k2
      rw [if_pos rfl]
      by_cases e1 : E < e
      · rw [if_pos e1]; exact rlearn_g1_k12a S E U sent term margin f t n v e vs bd w hg hv u hu' e1
      · rw [if_neg e1]; exact rlearn_g1_k12b S E U sent term margin f t n v e vs bd w hg hv u hu' e1
    rw [if_neg k2]
    exact rlearn_g1_kno S E U sent term margin k f t n v e vs bd w hg hv u hu' (by simpa using k1) (by simpa using k2)
  · generalize hu : untilS sent term margin v = u
    have hu' := (until_r sent term margin v (by omega) b1 a2 c1).trans hu
    by_cases k1 : k = 16
    · subst k1
      rw [if_pos rfl]
      by_cases e1 : E < e
      · rw [if_pos e1]; exact rlearn_g2_k16a S E U sent term margin f t n v e vs bd w hg (by omega) u hu' e1
      rw [if_neg e1]
      by_cases e2 : e = E
      · rw [if_pos e2, ← mx2_max]; exact rlearn_g2_k16b S E U sent term margin f t n v e vs bd w hg (by omega) u hu' (by simpa using e2)
      · rw [if_neg e2]; exact rlearn_g2_k16c S E U sent term margin f t n v e vs bd w hg (by omega) u hu' (by omega)
    rw [if_neg k1]
    by_cases k2 : k = 12
    · subst k2
      rw [if_pos rfl]
      by_cases e1 : E < e
      · rw [if_pos e1]; exact rlearn_g2_k12a S E U sent term margin f t n v e vs bd w hg (by omega) u hu' e1
      · rw [if_neg e1]; exact rlearn_g2_k12b S E U sent term margin f t n v e vs bd w hg (by omega) u hu' e1
    rw [if_neg k2]
    exact rlearn_g2_kno S E U sent term margin k f t n v e vs bd w hg (by omega) u hu' (by simpa using k1) (by simpa using k2)

end Go.Proofs.Ytmgnpjaemjpamaa
