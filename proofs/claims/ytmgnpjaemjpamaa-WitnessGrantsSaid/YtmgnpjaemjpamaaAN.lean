/- State.step computes what the plain machine computes. -/
import Derived.Test.YtmgnpjaemjpamaaAK0
import Derived.Test.YtmgnpjaemjpamaaAK1
import Derived.Test.YtmgnpjaemjpamaaAK2
import Derived.Test.YtmgnpjaemjpamaaAL
import Derived.Test.YtmgnpjaemjpamaaAM
set_option linter.unusedSimpArgs false
set_option linter.unusedVariables false
namespace Go.Proofs.Ytmgnpjaemjpamaa
open Go.RowKit

theorem w64_byte (n : Nat) (h : n < 256) : wrap64 (n : Int) = n := by unfold wrap64; omega
theorem mod_byte (n : Nat) (h : n < 256) (k : Nat) (hk : 0 < k) : (wrap64 (n : Int)).tmod (k : Int) = ((n % k : Nat) : Int) := by
  rw [w64_byte n h, Int.tmod_eq_emod_of_nonneg (by omega)]
  exact (Int.natCast_emod _ _).symm
theorem site_mod (n : Nat) (h : n < 256) (j : Nat) (hj : n % 3 = j) : (wrap64 (n : Int)).tmod 3 = (j : Int) := by
  have := mod_byte n h 3 (by decide)
  rw [hj] at this
  exact this
theorem now_mod (n : Nat) (h : n < 256) (x : Int) (h0 : 0 ≤ x) (h1 : x ≤ 10000) : wrap64 (x + (wrap64 (n : Int)).tmod 8) = x + ((n % 8 : Nat) : Int) := by
  have := mod_byte n h 8 (by decide)
  rw [show ((8 : Nat) : Int) = 8 from rfl] at this
  rw [this]
  unfold wrap64; omega
theorem mx2_mx (a b : Int) : mx2 a b = max a b := by unfold mx2; split <;> omega
theorem ep_mod (n : Nat) (h : n < 256) (a b : Int) (h0 : 0 ≤ a) (h1 : a ≤ 10000) (h2 : 0 ≤ b) (h3 : b ≤ 10000) : IntKind.i64.wrap (mx2 a b + (IntKind.i64.wrap (n : Int)).tmod 3) = max a b + ((n % 3 : Nat) : Int) := by
  have e : IntKind.i64.wrap (n : Int) = (n : Int) := by rw [IntKind.wrap_i64]; omega
  rw [e, Int.tmod_eq_emod_of_nonneg (by omega), mx2_mx, IntKind.wrap_i64]
  omega

theorem step_c (w : World) (v : Value) (s : SS) (n kind site which : Nat) (hS : StAt w v s) (hI : Inv n s) (hn : n ≤ 100) (h1 : s.sn.length ≤ 1000) (h2 : s.fl.length ≤ 1000) (hk : kind < 256) (hst : site < 256) (hw : which < 256) :
    Calls Try.prog 28 #[v, evV kind site which] w (RetS w v (stepS s kind site which)) := by
  have hi : site % 3 < 3 := Nat.mod_lt _ (by decide)
  obtain ⟨lS, lE0, lEn, lU0, lU⟩ := hI.lz _ hi
  have b1 := hI.now0; have b2 := hI.nowN; have b3 := hI.E0; have b4 := hI.EN
  unfold stepS
  by_cases k0 : kind % 7 = 0
  · rw [if_pos k0]
    have hep := ep_mod which hw (s.l (site % 3)).E s.E lE0 (by omega) b3 (by omega)
    by_cases hA : askE (s.l (site % 3)).S (s.l (site % 3)).E (s.l (site % 3)).U (max (s.l (site % 3)).E s.E + ((which % 3 : Nat) : Int)) = 0
    · rw [if_pos hA]
      rcases (by omega : site % 3 = 0 ∨ site % 3 = 1 ∨ site % 3 = 2) with e | e | e
      · rw [e] at hA hep ⊢; exact step_ask0 w v s kind site which hS h1 h2 (site_mod site hst 0 e) (by omega) _ hep hA
      · rw [e] at hA hep ⊢; exact step_ask1 w v s kind site which hS h1 h2 (site_mod site hst 1 e) (by omega) _ hep hA
      · rw [e] at hA hep ⊢; exact step_ask2 w v s kind site which hS h1 h2 (site_mod site hst 2 e) (by omega) _ hep hA
    · rw [if_neg hA]
      rcases (by omega : site % 3 = 0 ∨ site % 3 = 1 ∨ site % 3 = 2) with e | e | e
      · rw [e] at hA hep; exact step_ask0n w v s kind site which hS h1 h2 (site_mod site hst 0 e) (by omega) _ hep _ hA rfl
      · rw [e] at hA hep; exact step_ask1n w v s kind site which hS h1 h2 (site_mod site hst 1 e) (by omega) _ hep _ hA rfl
      · rw [e] at hA hep; exact step_ask2n w v s kind site which hS h1 h2 (site_mod site hst 2 e) (by omega) _ hep _ hA rfl
  rw [if_neg k0]
  by_cases k1 : kind % 7 = 1
  · rw [if_pos k1]
    by_cases hA : renE (s.l (site % 3)).S (s.l (site % 3)).E (s.l (site % 3)).U = 0
    · rw [if_pos hA]
      rcases (by omega : site % 3 = 0 ∨ site % 3 = 1 ∨ site % 3 = 2) with e | e | e
      · rw [e] at hA ⊢; exact step_ren0 w v s kind site which hS h1 h2 (site_mod site hst 0 e) (by omega) (by omega) hA
      · rw [e] at hA ⊢; exact step_ren1 w v s kind site which hS h1 h2 (site_mod site hst 1 e) (by omega) (by omega) hA
      · rw [e] at hA ⊢; exact step_ren2 w v s kind site which hS h1 h2 (site_mod site hst 2 e) (by omega) (by omega) hA
    · rw [if_neg hA]
      rcases (by omega : site % 3 = 0 ∨ site % 3 = 1 ∨ site % 3 = 2) with e | e | e
      · rw [e] at hA; exact step_ren0n w v s kind site which hS h1 h2 (site_mod site hst 0 e) (by omega) (by omega) _ hA rfl
      · rw [e] at hA; exact step_ren1n w v s kind site which hS h1 h2 (site_mod site hst 1 e) (by omega) (by omega) _ hA rfl
      · rw [e] at hA; exact step_ren2n w v s kind site which hS h1 h2 (site_mod site hst 2 e) (by omega) (by omega) _ hA rfl
  rw [if_neg k1]
  by_cases k2 : kind % 7 = 2
  · rw [if_pos k2]
    have hok : lOk (s.l (site % 3)).S (s.l (site % 3)).E (s.l (site % 3)).U = true := by
      simp only [lOk, btw, Bool.and_eq_true, decide_eq_true_eq]; omega
    rw [if_pos hok]
    rcases (by omega : site % 3 = 0 ∨ site % 3 = 1 ∨ site % 3 = 2) with e | e | e
    · rw [e] at hok ⊢; exact step_give0 w v s kind site which hS h1 h2 (site_mod site hst 0 e) (by omega) (by omega) (by omega) _ rfl hok
    · rw [e] at hok ⊢; exact step_give1 w v s kind site which hS h1 h2 (site_mod site hst 1 e) (by omega) (by omega) (by omega) _ rfl hok
    · rw [e] at hok ⊢; exact step_give2 w v s kind site which hS h1 h2 (site_mod site hst 2 e) (by omega) (by omega) (by omega) _ rfl hok
  rw [if_neg k2]
  by_cases k6 : kind % 7 = 6
  · rw [if_pos k6]
    exact step_time w v s kind site which hS _ (by omega) (by omega) (by omega) (by omega) (now_mod which hw s.now b1 (by omega))
  rw [if_neg k6]
  exact step_fly w v s kind site which hS n hI hn h2 hw (by omega) (by omega) (by omega) (by omega)

theorem own_fl (s : SS) (f : Int) (a : Option (Int × Int × Int)) : (ownS s f a).fl = s.fl ∧ (ownS s f a).sn = s.sn := by
  unfold ownS
  split
  · exact ⟨rfl, rfl⟩
  · split <;> exact ⟨rfl, rfl⟩
theorem ans_len (f n : Int) (a : Option (Int × Int × Int)) : (ansL f n a).length ≤ 1 := by
  unfold ansL
  split <;> simp
theorem rcv_len (s : SS) (m : Ms) : (rcvS s m).fl.length ≤ s.fl.length + 1 ∧ (rcvS s m).sn.length = s.sn.length := by
  unfold rcvS
  split
  · unfold witS
    rw [(own_fl _ _ _).1, (own_fl _ _ _).2]
    have := ans_len m.f m.n (handleS s.E s.H s.U s.now 20 m.k m.f m.e).2
    simp only [List.length_append]
    exact ⟨by omega, trivial⟩
  · split
    · simp
    · simp [SS.setL]
theorem fly_len (s : SS) (kind which : Nat) : (flyS s kind which).fl.length ≤ s.fl.length + 1 ∧ (flyS s kind which).sn.length = s.sn.length := by
  unfold flyS
  split
  · exact ⟨by omega, rfl⟩
  · rename_i m hm
    have hl : ({ s with fl := s.fl.take (which % s.fl.length) ++ s.fl.drop (which % s.fl.length + 1) } : SS).fl.length ≤ s.fl.length := by
      simp only [List.length_append, List.length_take, List.length_drop]; omega
    by_cases k4 : kind % 7 = 4
    · simp only [if_pos k4]
      rw [if_neg (by omega)]
      exact rcv_len s m
    · simp only [if_neg k4]
      split
      · exact ⟨by omega, rfl⟩
      · have := rcv_len { s with fl := s.fl.take (which % s.fl.length) ++ s.fl.drop (which % s.fl.length + 1) } m
        exact ⟨by omega, this.2⟩
theorem step_len (s : SS) (kind site which : Nat) : (stepS s kind site which).fl.length ≤ s.fl.length + 1 ∧ (stepS s kind site which).sn.length ≤ s.sn.length + 1 := by
  unfold stepS
  have hreq : ∀ (s : SS) (m : Ms), (reqS s m).fl.length = s.fl.length + 1 ∧ (reqS s m).sn.length = s.sn.length + 1 := fun s m => ⟨by simp [reqS], by simp [reqS]⟩
  dsimp only
  split
  · split
    · rw [(hreq _ _).1, (hreq _ _).2]; exact ⟨by omega, by omega⟩
    · exact ⟨by omega, by omega⟩
  split
  · split
    · rw [(hreq _ _).1, (hreq _ _).2]; exact ⟨by omega, by omega⟩
    · exact ⟨by omega, by omega⟩
  split
  · split
    · rw [(hreq _ _).1, (hreq _ _).2]; exact ⟨by simp [SS.setL], by simp [SS.setL]⟩
    · rw [(hreq _ _).1, (hreq _ _).2]; exact ⟨by omega, by omega⟩
  split
  · exact ⟨by simp, by simp⟩
  · have := fly_len s kind which
    exact ⟨this.1, by omega⟩

/-- What holds behind k events. -/
structure Good (k : Nat) (s : SS) : Prop where
  inv : Inv k s
  fl : s.fl.length ≤ k
  sn : s.sn.length ≤ k
theorem good_begin : Good 0 beginS := ⟨inv_begin, by simp [beginS], by simp [beginS]⟩
theorem good_step {k : Nat} {s : SS} (h : Good k s) (hk : k < 100) (kind site which : Nat) : Good (k + 1) (stepS s kind site which) :=
  ⟨inv_step h.inv hk kind site which, by have := (step_len s kind site which).1; have := h.fl; omega, by have := (step_len s kind site which).2; have := h.sn; omega⟩

end Go.Proofs.Ytmgnpjaemjpamaa
