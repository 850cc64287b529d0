/- What the reading of a slice of events tells of memory. -/
import Derived.Test.YtmgnpjaemjpamaaAO
import Derived.Test.YtmgnpjaemjpamaaR
import Derived.Deep.Slices
import Derived.ChangeArms
set_option linter.unusedSimpArgs false
set_option linter.unusedVariables false
namespace Go.Proofs.Ytmgnpjaemjpamaa
open Go.ChangeShapes Go.WideShapes Go.ChangeAt Go.RowKit Go.Deep

theorem c62 : Try.prog.cellsOf 62 = 3 := by kernel_rfl
theorem c5 : Try.prog.cellsOf 5 = 1 := by kernel_rfl

section
variable {H : Type} {enc : TypeId × Value → H} {w : World} {base : Nat} {spare : Nat → Bool} {held : Bool}

theorem byte1 {fuel : Nat} {cs : List Value} {x : DataW H × List MemPlace} (h : DataW.trod enc Try.prog w base spare held fuel 5 cs = some x) : ∃ n : Nat, n < 256 ∧ cs = [.int .u8 n] := by
  obtain ⟨n, rfl, _, hw⟩ := DataW.trod_int Try.underlying5 h
  have := bounds_u8 hw
  exact ⟨n.toNat, by omega, by rw [Int.toNat_of_nonneg this.1]⟩

theorem byte3 {fuel : Nat} {cs : List Value} {x : DataW H × List MemPlace} (h : DataW.trod enc Try.prog w base spare held fuel 62 cs = some x) :
    ∃ a b c : Nat, a < 256 ∧ b < 256 ∧ c < 256 ∧ cs = [.int .u8 a, .int .u8 b, .int .u8 c] := by
  obtain ⟨xs, n, rfl, _, hl, hx, hf⟩ := DataW.trod_struct Try.underlying62 h
  rw [c62] at hl
  have hx3 : xs.length = 3 := hx
  match cs, hl, xs, hx3 with
  | [a0, a1, a2], _, [x0, x1, x2], _ =>
    have f0 : DataW.trod enc Try.prog w base spare held n 5 (([a0, a1, a2].drop 0).take (Try.prog.cellsOf 5)) = some x0 := hf 0 _ rfl
    have f1 : DataW.trod enc Try.prog w base spare held n 5 (([a0, a1, a2].drop 1).take (Try.prog.cellsOf 5)) = some x1 := hf 1 _ rfl
    have f2 : DataW.trod enc Try.prog w base spare held n 5 (([a0, a1, a2].drop 2).take (Try.prog.cellsOf 5)) = some x2 := hf 2 _ rfl
    rw [c5] at f0 f1 f2
    obtain ⟨b0, h0, e0⟩ := byte1 f0
    obtain ⟨b1, h1, e1⟩ := byte1 f1
    obtain ⟨b2, h2, e2⟩ := byte1 f2
    simp at e0 e1 e2
    subst e0 e1 e2
    exact ⟨b0, b1, b2, h0, h1, h2, rfl⟩

theorem choose_ev {n : Nat} {p : Nat → Nat × Nat × Nat → Prop} (h : ∀ i, i < n → ∃ e, p i e) : ∃ ev : Nat → Nat × Nat × Nat, ∀ i, i < n → p i (ev i) :=
  ⟨fun i => if hi : i < n then Classical.choose (h i hi) else (0, 0, 0), fun i hi => by simp only [dif_pos hi]; exact Classical.choose_spec (h i hi)⟩

theorem open54 {v : Value} {d : DataW H} {p : List MemPlace} (h : DataW.Trod enc Try.prog w base spare held 54 v d p) (hv : ∃ a n c, v = .slice a n c) :
    ∃ Ea n c ev, v = .slice Ea n c ∧ EvAt w Ea n ev := by
  obtain ⟨a0, n0, c0, rfl⟩ := hv
  obtain ⟨fuel, h⟩ := h
  rcases open_slice Try.underlying54 h with ⟨hc, _⟩ | ⟨a, len, cap, m, q, D, Pl, hc, hb, hl, hm, hmm, _, hx⟩
  · simp [Value.cells] at hc
    obtain ⟨rfl, rfl, rfl⟩ := hc
    exact ⟨none, 0, 0, fun _ => (0, 0, 0), rfl, fun h => absurd h (by decide)⟩
  · simp [Value.cells] at hc
    obtain ⟨rfl, rfl, rfl⟩ := hc
    have hlm : n0 ≤ m := by rw [hmm]; split <;> omega
    rw [c62] at hx
    obtain ⟨b, off, spot⟩ := a
    have hall : ∀ i, i < n0 → ∃ e : Nat × Nat × Nat, e.1 < 256 ∧ e.2.1 < 256 ∧ e.2.2 < 256 ∧
        w.cell? ((⟨b, off, spot⟩ : Addr).add (i * 3)) = some (.int .u8 e.1) ∧ w.cell? ((⟨b, off, spot⟩ : Addr).add (i * 3) |>.add 1) = some (.int .u8 e.2.1) ∧ w.cell? ((⟨b, off, spot⟩ : Addr).add (i * 3) |>.add 2) = some (.int .u8 e.2.2) := by
      intro i hi
      obtain ⟨cs', h1, h2⟩ := hx i (by omega)
      obtain ⟨k1, k2, k3, l1, l2, l3, rfl⟩ := byte3 h2
      obtain ⟨_, _, hcell⟩ := World.cells?_some h1
      have g0 := hcell 0 (by decide)
      have g1 := hcell 1 (by decide)
      have g2 := hcell 2 (by decide)
      refine ⟨(k1, k2, k3), l1, l2, l3, ?_, g1, g2⟩
      simpa [Addr.add] using g0
    obtain ⟨ev, hev⟩ := choose_ev hall
    refine ⟨_, n0, c0, ev, rfl, fun hpos => ?_⟩
    have hs : spot = none := by
      have := (hev 0 hpos).2.2.2.1
      simpa [Addr.add] using World.cell?_spot this
    subst hs
    refine ⟨b, off, rfl, ?_, fun j hj => ?_⟩
    · have := (hev 0 hpos).2.2.2.1
      have := World.block_lt_of_cell? w _ this
      simpa [Addr.add] using this
    · obtain ⟨l1, l2, l3, q0, q1, q2⟩ := hev j hj
      refine ⟨l1, l2, l3, ?_, ?_, ?_⟩
      · rw [Go.WideShapes.add_plain] at q0; exact q0
      · rw [Go.WideShapes.add_plain, Go.WideShapes.add_plain] at q1; exact q1
      · rw [Go.WideShapes.add_plain, Go.WideShapes.add_plain] at q2; exact q2
end

end Go.Proofs.Ytmgnpjaemjpamaa
