/- The plain law of WitnessGrants: a site that asks when all leases are past, and whose messages arrive, holds the lease. -/
import Derived.Test.YtmgnpjaemjpamaaV
import Derived.Test.YtmgnpjaemjpamaaJ
set_option linter.unusedSimpArgs false
set_option linter.unusedVariables false
namespace Go.Proofs.Ytmgnpjaemjpamaa

/-- Nothing in flight, 30 later. -/
def lateS (s : SS) : SS := { s with fl := [], now := s.now + 30 }
/-- What site i asks for. -/
def epS (s : SS) (i : Nat) : Int := max (s.l i).E s.E + 1
def askMs (s : SS) (i : Nat) : Ms := ⟨15, (s.l i).S, 4, 0, 0, epS s i⟩
def gra1 (s : SS) (i : Nat) : SS := reqS (lateS s) (askMs s i)
def gra2 (s : SS) (i : Nat) : SS := flyS (gra1 s i) 3 0
def gra3 (s : SS) (i : Nat) : SS := flyS (gra2 s i) 3 0

theorem inv_late {n : Nat} {s : SS} (h : Inv n s) : Inv (n + 5) (lateS s) := by
  have h0 := inv_sub h [] (by simp)
  have h1 := inv_time h0 7 (by decide) (by decide)
  have h2 := inv_time h1 7 (by decide) (by decide)
  have h3 := inv_time h2 7 (by decide) (by decide)
  have h4 := inv_time h3 7 (by decide) (by decide)
  have h5 := inv_time h4 2 (by decide) (by decide)
  have e : s.now + 7 + 7 + 7 + 7 + 2 = s.now + 30 := by omega
  simp only [e] at h5
  exact h5

theorem gra_ask {n : Nat} {s : SS} (h : Inv n s) (hn : n ≤ 60) (i : Nat) (hi : i < 3) : askE (s.l i).S (s.l i).E (s.l i).U (epS s i) = 0 := by
  obtain ⟨lS, lE0, lEn, lU0, lU⟩ := h.lz i hi
  have b1 := h.now0; have b2 := h.nowN; have b3 := h.E0; have b4 := h.EN
  have hl : lOk (s.l i).S (s.l i).E (s.l i).U = true := by
    simp only [lOk, btw, Bool.and_eq_true, decide_eq_true_eq]; omega
  have hb : btw (epS s i) 1 1073741824 = true := by
    simp only [btw, Bool.and_eq_true, decide_eq_true_eq]; unfold epS; omega
  unfold askE
  rw [hl, hb, if_pos rfl, if_pos rfl, if_neg (by unfold epS; omega)]

theorem inv_gra1 {n : Nat} {s : SS} (h : Inv n s) (i : Nat) (hi : i < 3) : Inv (n + 6) (gra1 s i) := by
  obtain ⟨lS, lE0, lEn, lU0, lU⟩ := h.lz i hi
  have b3 := h.E0; have b4 := h.EN
  exact inv_req ((inv_late h).mono (by omega)) (by simp [askMs, epS]; omega) (by simp [askMs, epS]; omega) rfl (by simp [askMs]; omega) (by simp [askMs]; omega) (.inl rfl)

theorem fly_one (s : SS) (m : Ms) (h : s.fl = [m]) : flyS s 3 0 = rcvS { s with fl := [] } m := by
  unfold flyS
  rw [h]
  simp

theorem rcv4 (s : SS) (m : Ms) (h : m.t = 4) : rcvS s m = witS s m (handleS s.E s.H s.U s.now 20 m.k m.f m.e) := by
  unfold rcvS; rw [if_pos h]
theorem rcvL (s : SS) (m : Ms) (h : ¬ m.t = 4) (h2 : ¬ (m.t < 0 ∨ 2 < m.t ∨ m.n < 0 ∨ s.sn.length ≤ m.n)) (i : Nat) (hi : m.t.toNat = i) (x : Lz) (hx : s.l i = x) (y : Int) (hy : s.sn.getD m.n.toNat 0 = y) (p : Int × Int) (hp : learnS x.S x.E x.U y 20 1 m.k m.t m.v m.e = p) : rcvS s m = s.setL i ⟨x.S, p.1, p.2⟩ := by
  unfold rcvS; rw [if_neg h, if_neg h2]; simp only [hi, hx, hy, hp]
theorem gra2_eq {n : Nat} {s : SS} (h : Inv n s) (hn : n ≤ 60) (i : Nat) (hi : i < 3) :
    (gra2 s i).l = s.l ∧ (gra2 s i).now = s.now + 30 ∧ (gra2 s i).sn = s.sn ++ [s.now + 30] ∧ (gra2 s i).fl = [⟨16, 4, (s.l i).S, s.sn.length, 20, epS s i⟩] := by
  obtain ⟨lS, lE0, lEn, lU0, lU⟩ := h.lz i hi
  have b1 := h.now0; have b2 := h.nowN; have b3 := h.E0; have b4 := h.EN; have b5 := h.H0; have b6 := h.H2; have b7 := h.U0; have b8 := h.UN
  have hg : goodB s.E s.H s.U (s.now + 30) 20 (s.l i).S (epS s i) = true := by
    simp only [goodB, wOk, btw, Bool.and_eq_true, Bool.or_eq_true, decide_eq_true_eq, beq_iff_eq]; unfold epS; omega
  have ha : acqB s.E s.H s.U (s.now + 30) (s.l i).S (epS s i) = true := by
    have hnh : heldB s.H s.U (s.now + 30) = false := by
      have : ¬ (s.now + 30 < s.U) := by omega
      simp [heldB, this]
    unfold acqB
    rw [hnh, decide_eq_true (by unfold epS; omega)]
    rfl
  have hh : handleS s.E s.H s.U (s.now + 30) 20 15 (s.l i).S (epS s i) = ((epS s i, (s.l i).S, s.now + 30 + 20), some (16, epS s i, 20)) := by
    unfold handleS
    rw [hg, ha]
    simp
  have e1 : gra2 s i = witS { gra1 s i with fl := [] } { askMs s i with n := s.sn.length } ((epS s i, (s.l i).S, s.now + 30 + 20), some (16, epS s i, 20)) :=
    (fly_one _ _ rfl).trans ((rcv4 { gra1 s i with fl := [] } { askMs s i with n := s.sn.length } rfl).trans (congrArg (witS _ _) hh))
  rw [e1]
  unfold witS ownS
  simp only [ansL]
  split <;> exact ⟨rfl, rfl, rfl, rfl⟩

theorem gra3_eq {n : Nat} {s : SS} (h : Inv n s) (hn : n ≤ 60) (i : Nat) (hi : i < 3) :
    ((gra3 s i).l i).S = i ∧ ((gra3 s i).l i).E = epS s i ∧ ((gra3 s i).l i).U = s.now + 30 + 19 ∧ (gra3 s i).now = s.now + 30 := by
  obtain ⟨lS, lE0, lEn, lU0, lU⟩ := h.lz i hi
  have b1 := h.now0; have b2 := h.nowN; have b3 := h.E0; have b4 := h.EN
  obtain ⟨g1, g2, g3, g4⟩ := gra2_eq h hn i hi
  have hlen : (gra2 s i).sn.length = s.sn.length + 1 := by rw [g3]; simp
  have hsn : (gra2 s i).sn.getD s.sn.length 0 = s.now + 30 := by rw [g3]; simp
  have hi2 : ((s.l i).S).toNat = i := by omega
  have hok : learnOk (s.l i).S (s.l i).E (s.l i).U (s.now + 30) 20 1 (s.l i).S (epS s i) = true := by
    simp only [learnOk, lOk, btw, Bool.and_eq_true, decide_eq_true_eq, beq_iff_eq, true_and]; unfold epS; omega
  have hu : untilS (s.now + 30) 20 1 20 = s.now + 30 + 19 := by unfold untilS; omega
  have hlearn : learnS (s.l i).S (s.l i).E (s.l i).U (s.now + 30) 20 1 16 (s.l i).S 20 (epS s i) = (epS s i, s.now + 30 + 19) := by
    unfold learnS
    rw [hok, if_pos rfl, if_pos rfl, hu, if_pos (by unfold epS; omega)]
  have e1 : gra3 s i = ({ gra2 s i with fl := [] } : SS).setL i ⟨(s.l i).S, epS s i, s.now + 30 + 19⟩ :=
    (fly_one _ _ g4).trans (rcvL { gra2 s i with fl := [] } ⟨16, 4, (s.l i).S, s.sn.length, 20, epS s i⟩ (by show ¬ (s.l i).S = 4; omega) (by show ¬ ((s.l i).S < 0 ∨ 2 < (s.l i).S ∨ (s.sn.length : Int) < 0 ∨ ((gra2 s i).sn.length : Int) ≤ (s.sn.length : Int)); omega) i hi2 (s.l i) (by show (gra2 s i).l i = s.l i; rw [g1]) (s.now + 30) (by show (gra2 s i).sn.getD ((s.sn.length : Int)).toNat 0 = s.now + 30; rw [Int.toNat_natCast]; exact hsn) _ hlearn)
  rw [e1]
  refine ⟨?_, ?_, ?_, g2⟩
  · simp [SS.setL, lS]
  · simp [SS.setL]
  · simp [SS.setL]

theorem gra_holds {n : Nat} {s : SS} (h : Inv n s) (hn : n ≤ 60) (i : Nat) (hi : i < 3) :
    holdsB ((gra3 s i).l i).S ((gra3 s i).l i).E ((gra3 s i).l i).U ((gra3 s i).now + 18) = true ∧ holdsB ((gra3 s i).l i).S ((gra3 s i).l i).E ((gra3 s i).l i).U ((gra3 s i).now + 19) = false := by
  obtain ⟨a, b, c, d⟩ := gra3_eq h hn i hi
  obtain ⟨lS, lE0, lEn, lU0, lU⟩ := h.lz i hi
  have b1 := h.now0; have b2 := h.nowN; have b3 := h.E0; have b4 := h.EN
  rw [a, b, c, d]
  have hl : lOk (i : Int) (epS s i) (s.now + 30 + 19) = true := by
    simp only [lOk, btw, Bool.and_eq_true, decide_eq_true_eq]; unfold epS; omega
  unfold holdsB
  rw [hl]
  simp only [Bool.true_and, decide_eq_true_eq, decide_eq_false_iff_not]
  exact ⟨by omega, by omega⟩

end Go.Proofs.Ytmgnpjaemjpamaa
