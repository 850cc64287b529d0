/- receive computes what the plain machine computes, at a state that keeps the invariant and a message that is in flight there. -/
import Derived.Test.YtmgnpjaemjpamaaAB
import Derived.Test.YtmgnpjaemjpamaaAC
import Derived.Test.YtmgnpjaemjpamaaAD
set_option linter.unusedSimpArgs false
set_option linter.unusedVariables false
namespace Go.Proofs.Ytmgnpjaemjpamaa
open Go.RowKit

def msgV (m : Ms) : Value := .agg #[.int .i64 m.k, .int .i64 m.f, .int .i64 m.t, .int .i64 m.n, .int .i64 m.v, .int .i64 m.e, .slice none 0 0, .slice none 0 0]

theorem hand_ans (E H U now term k f e : Int) : (handleS E H U now term k f e).2 = none ∨ (∃ e2 v2, (handleS E H U now term k f e).2 = some (12, e2, v2)) ∨ (∃ e2 v2, (handleS E H U now term k f e).2 = some (16, e2, v2)) := by
  unfold handleS renewS
  split
  · split
    · split
      · exact .inr (.inr ⟨_, _, rfl⟩)
      · split
        · exact .inr (.inr ⟨_, _, rfl⟩)
        · exact .inr (.inl ⟨_, _, rfl⟩)
    · split
      · split
        · exact .inr (.inr ⟨_, _, rfl⟩)
        · exact .inr (.inl ⟨_, _, rfl⟩)
      · split
        · split
          · exact .inl rfl
          · exact .inl rfl
        · exact .inl rfl
  · exact .inl rfl

theorem RetS.cast {w : World} {v : Value} {s s' : SS} (h : s = s') {r : Ending} {w' : World} (hr : RetS w v s r w') : RetS w v s' r w' := h ▸ hr

theorem rcv_c (w : World) (v : Value) (s : SS) (n : Nat) (m : Ms) (hS : StAt w v s) (hI : Inv n s) (hn : n ≤ 100) (hm : MsgOk n s m) (h2 : s.fl.length ≤ 1000) :
    Calls Try.prog 45 #[v, msgV m] w (RetS w v (rcvS s m)) := by
  have hres := inv_rcv hI hn m hm
  obtain ⟨mk, mf, mt, mn, mv, me⟩ := m
  obtain ⟨hk0, hk, he0, he, hm5⟩ := hm
  simp only at hk0 hk he0 he hm5
  by_cases ht : mt = 4
  · subst ht
    have hf : 0 ≤ mf ∧ mf ≤ 2 := by
      rcases hm5 with ⟨_, a, b, _⟩ | ⟨_, a, _⟩
      · exact ⟨a, b⟩
      · omega
    have hrs : rcvS s ⟨mk, mf, 4, mn, mv, me⟩ = witS s ⟨mk, mf, 4, mn, mv, me⟩ (handleS s.E s.H s.U s.now 20 mk mf me) := by
      unfold rcvS; rw [if_pos rfl]
    rw [hrs] at hres ⊢
    have hans := hand_ans s.E s.H s.U s.now 20 mk mf me
    rcases hg : handleS s.E s.H s.U s.now 20 mk mf me with ⟨⟨E', H', U'⟩, a⟩
    rw [hg] at hres hans
    have hrt := hres.rt
    simp only at hans
    rcases hans with rfl | ⟨e2, v2, rfl⟩ | ⟨e2, v2, rfl⟩
    · have hE : s.E ≤ E' := by
        simp only [witS, ownS, hI.rt, Bool.true_and, decide_eq_true_eq] at hrt; exact hrt
      refine (rcv_none w v s mk mf mn mv me E' H' U' hS h2 hI.rt hE hg).mono (fun r w' hr => hr.cast ?_)
      simp [witS, ownS, ansL, hI.rt, hE]
    · have hE : s.E ≤ E' := by
        simp only [witS, ownS, hI.rt, Bool.true_and] at hrt; simpa using hrt
      refine (rcv_skip w v s mk mf mn mv me E' H' U' e2 v2 hS h2 hI.rt hE hg).mono (fun r w' hr => hr.cast ?_)
      simp [witS, ownS, ansL, hI.rt, hE]
    · have hmem : (⟨16, 4, mf, mn, v2, e2⟩ : Ms) ∈ (witS s ⟨mk, mf, 4, mn, mv, me⟩ ((E', H', U'), some (16, e2, v2))).fl := by
        unfold witS ownS
        simp only [ansL]
        split <;> simp
      have he2 : 0 ≤ e2 := (hres.msgs _ hmem).2.2.1
      by_cases h80 : e2 < 80
      · have hc : True ∧ 0 ≤ e2 ∧ e2 < 80 := ⟨trivial, he2, h80⟩
        have hr2 : s.E ≤ E' ∧ (s.owner e2 = 0 ∨ s.owner e2 = mf + 1) := by
          unfold witS ownS at hrt
          simp only [ansL] at hrt
          rw [if_pos hc] at hrt
          simp only [hI.rt, Bool.true_and, Bool.and_eq_true, decide_eq_true_eq, Bool.or_eq_true, beq_iff_eq] at hrt
          exact hrt
        obtain ⟨hE, how⟩ := hr2
        obtain ⟨j, hj⟩ : ∃ j : Nat, (j : Int) = e2 := ⟨e2.toNat, by omega⟩
        subst hj
        refine (rcv_own w v s mk mf mn mv me E' H' U' j v2 hS h2 hI.rt hE ?_ (by omega) (by omega) h80 (by omega) ?_ hg).mono (fun r w' hr => hr.cast ?_)
        · unfold wrap64; omega
        · simpa [SS.owner] using how
        · unfold witS ownS
          simp only [ansL]
          rw [if_pos hc]
          have : (s.owner (j : Int) == 0 || s.owner (j : Int) == mf + 1) = true := by simpa [SS.owner] using how
          simp [ansL, hI.rt, hE]
          simpa [SS.owner] using how
      · have hc : ¬ (True ∧ 0 ≤ e2 ∧ e2 < 80) := by omega
        have hE : s.E ≤ E' := by
          unfold witS ownS at hrt
          simp only [ansL] at hrt
          rw [if_neg hc] at hrt
          simpa [hI.rt] using hrt
        refine (rcv_big w v s mk mf mn mv me E' H' U' e2 v2 hS h2 hI.rt hE (by omega) he2 hg).mono (fun r w' hr => hr.cast ?_)
        unfold witS ownS
        simp only [ansL]
        rw [if_neg hc]
        simp [ansL, hI.rt, hE]
  · have ht2 : 0 ≤ mt ∧ mt ≤ 2 := by
      rcases hm5 with ⟨a, _⟩ | ⟨a, b, _⟩
      · exact absurd a ht
      · exact ⟨a, b⟩
    obtain ⟨q, hq⟩ : ∃ q : Nat, (q : Int) = mn := ⟨mn.toNat, by omega⟩
    subst hq
    have hrs : rcvS s ⟨mk, mf, mt, q, mv, me⟩ = s.setL mt.toNat ⟨(s.l mt.toNat).S, (learnS (s.l mt.toNat).S (s.l mt.toNat).E (s.l mt.toNat).U (s.sn.getD q 0) 20 1 mk mt mv me).1, (learnS (s.l mt.toNat).S (s.l mt.toNat).E (s.l mt.toNat).U (s.sn.getD q 0) 20 1 mk mt mv me).2⟩ := by
      unfold rcvS
      rw [if_neg ht, if_neg (by simp only; omega)]
      rfl
    rw [hrs]
    rcases (by omega : mt = 0 ∨ mt = 1 ∨ mt = 2) with rfl | rfl | rfl
    · exact rcv_learn0 w v s mk mf mv me q _ hS _ rfl (by omega) rfl
    · exact rcv_learn1 w v s mk mf mv me q _ hS _ rfl (by omega) rfl
    · exact rcv_learn2 w v s mk mf mv me q _ hS _ rfl (by omega) rfl

end Go.Proofs.Ytmgnpjaemjpamaa
