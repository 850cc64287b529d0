/- What the reading of an argument tells of its value's shape. -/
import Derived.Test.YtmgnpjaemjpamaaProg
import Derived.WalkKit
import Derived.ProofKit
import Derived.OpenShut
import Derived.ChangeOld
import Derived.Below
import Derived.SizedLaws
import Derived.KernelRfl
set_option linter.unusedSimpArgs false
set_option linter.unusedVariables false
namespace Go.Proofs.Ytmgnpjaemjpamaa
open Go.ChangeShapes Go.WideShapes Go.ChangeAt Go.RowKit

theorem agg_cells {P : Program} {w : World} {r : Reach} {base : Nat} {t : TypeId} {fs : Array Field} {ts : List TypeId} {v : Value} (ht : P.underlying t = some (.struct fs)) (hts : P.cellTypes P.depth t = some ts) (h : Value.okWide P w r base t v) :
    ∃ cs, v = .agg cs ∧ cs.size = P.cellsOf t ∧ ∀ i x, cs[i]? = some x → ∃ u, ts[i % ts.length]? = some u ∧ Cell.okWide P w r base u x := by
  simp only [Value.okWide, ht] at h
  obtain ⟨cs, h1, h2, ts', h3, _, h4⟩ := h
  rw [hts] at h3
  obtain rfl := Option.some.inj h3
  exact ⟨cs, h1, h2, h4⟩

theorem u3 : Try.prog.underlying 3 = some (.int .i64) := by kernel_rfl
theorem u24 : Try.prog.underlying 24 = some (.slice 3) := by kernel_rfl
theorem u25 : Try.prog.underlying 25 = some (.slice 5) := by kernel_rfl
theorem cell_int {w : World} {r : Reach} {base : Nat} {v : Value} (h : Cell.okWide Try.prog w r base 3 v) : ∃ n, v = .int .i64 n := by
  simp only [Cell.okWide, u3] at h
  cases v <;> simp_all [Cell.ok, u3]
theorem cell_ints {w : World} {r : Reach} {base : Nat} {v : Value} (h : Cell.okWide Try.prog w r base 24 v) : ∃ a n c, v = .slice a n c := by
  simp only [Cell.okWide, u24] at h
  cases v <;> simp_all [Cell.ok, u24]
theorem cell_bytes {w : World} {r : Reach} {base : Nat} {v : Value} (h : Cell.okWide Try.prog w r base 25 v) : ∃ a n c, v = .slice a n c := by
  simp only [Cell.okWide, u25] at h
  cases v <;> simp_all [Cell.ok, u25]


theorem open23 {w : World} {r : Reach} {base : Nat} {v : Value} (h : Value.okWide Try.prog w r base 23 v) : ∃ (E : Int) (H : Int) (U : Int), v = .agg #[.int .i64 E, .int .i64 H, .int .i64 U] := by
  obtain ⟨cs, rfl, hs, hc⟩ := agg_cells (fs := _) (ts := [3, 3, 3]) (by kernel_rfl : Try.prog.underlying 23 = some (.struct (match Try.prog.underlying 23 with | some (.struct f) => f | _ => #[]))) (by kernel_rfl) h
  have hsn : cs.size = 3 := hs.trans (by kernel_rfl)
  obtain ⟨l⟩ := cs
  match l, hsn with
  | [a0, a1, a2], _ =>
    obtain ⟨u0, hu0, h0⟩ := hc 0 a0 rfl
    simp at hu0
    subst hu0
    obtain ⟨u1, hu1, h1⟩ := hc 1 a1 rfl
    simp at hu1
    subst hu1
    obtain ⟨u2, hu2, h2⟩ := hc 2 a2 rfl
    simp at hu2
    subst hu2
    obtain ⟨E, rfl⟩ := cell_int h0
    obtain ⟨H, rfl⟩ := cell_int h1
    obtain ⟨U, rfl⟩ := cell_int h2
    exact ⟨E, H, U, rfl⟩

theorem open41 {w : World} {r : Reach} {base : Nat} {v : Value} (h : Value.okWide Try.prog w r base 41 v) : ∃ (S : Int) (E : Int) (U : Int), v = .agg #[.int .i64 S, .int .i64 E, .int .i64 U] := by
  obtain ⟨cs, rfl, hs, hc⟩ := agg_cells (fs := _) (ts := [3, 3, 3]) (by kernel_rfl : Try.prog.underlying 41 = some (.struct (match Try.prog.underlying 41 with | some (.struct f) => f | _ => #[]))) (by kernel_rfl) h
  have hsn : cs.size = 3 := hs.trans (by kernel_rfl)
  obtain ⟨l⟩ := cs
  match l, hsn with
  | [a0, a1, a2], _ =>
    obtain ⟨u0, hu0, h0⟩ := hc 0 a0 rfl
    simp at hu0
    subst hu0
    obtain ⟨u1, hu1, h1⟩ := hc 1 a1 rfl
    simp at hu1
    subst hu1
    obtain ⟨u2, hu2, h2⟩ := hc 2 a2 rfl
    simp at hu2
    subst hu2
    obtain ⟨S, rfl⟩ := cell_int h0
    obtain ⟨E, rfl⟩ := cell_int h1
    obtain ⟨U, rfl⟩ := cell_int h2
    exact ⟨S, E, U, rfl⟩

theorem open29 {w : World} {r : Reach} {base : Nat} {v : Value} (h : Value.okWide Try.prog w r base 29 v) : ∃ (k : Int) (f : Int) (t : Int) (n : Int) (v_ : Int) (e : Int) (XA : Option Addr) (Xl Xc : Nat) (YA : Option Addr) (Yl Yc : Nat) (now : Int) (term : Int) (sent : Int) (margin : Int), v = .agg #[.int .i64 k, .int .i64 f, .int .i64 t, .int .i64 n, .int .i64 v_, .int .i64 e, .slice XA Xl Xc, .slice YA Yl Yc, .int .i64 now, .int .i64 term, .int .i64 sent, .int .i64 margin] := by
  obtain ⟨cs, rfl, hs, hc⟩ := agg_cells (fs := _) (ts := [3, 3, 3, 3, 3, 3, 24, 25, 3, 3, 3, 3]) (by kernel_rfl : Try.prog.underlying 29 = some (.struct (match Try.prog.underlying 29 with | some (.struct f) => f | _ => #[]))) (by kernel_rfl) h
  have hsn : cs.size = 12 := hs.trans (by kernel_rfl)
  obtain ⟨l⟩ := cs
  match l, hsn with
  | [a0, a1, a2, a3, a4, a5, a6, a7, a8, a9, a10, a11], _ =>
    obtain ⟨u0, hu0, h0⟩ := hc 0 a0 rfl
    simp at hu0
    subst hu0
    obtain ⟨u1, hu1, h1⟩ := hc 1 a1 rfl
    simp at hu1
    subst hu1
    obtain ⟨u2, hu2, h2⟩ := hc 2 a2 rfl
    simp at hu2
    subst hu2
    obtain ⟨u3, hu3, h3⟩ := hc 3 a3 rfl
    simp at hu3
    subst hu3
    obtain ⟨u4, hu4, h4⟩ := hc 4 a4 rfl
    simp at hu4
    subst hu4
    obtain ⟨u5, hu5, h5⟩ := hc 5 a5 rfl
    simp at hu5
    subst hu5
    obtain ⟨u6, hu6, h6⟩ := hc 6 a6 rfl
    simp at hu6
    subst hu6
    obtain ⟨u7, hu7, h7⟩ := hc 7 a7 rfl
    simp at hu7
    subst hu7
    obtain ⟨u8, hu8, h8⟩ := hc 8 a8 rfl
    simp at hu8
    subst hu8
    obtain ⟨u9, hu9, h9⟩ := hc 9 a9 rfl
    simp at hu9
    subst hu9
    obtain ⟨u10, hu10, h10⟩ := hc 10 a10 rfl
    simp at hu10
    subst hu10
    obtain ⟨u11, hu11, h11⟩ := hc 11 a11 rfl
    simp at hu11
    subst hu11
    obtain ⟨k, rfl⟩ := cell_int h0
    obtain ⟨f, rfl⟩ := cell_int h1
    obtain ⟨t, rfl⟩ := cell_int h2
    obtain ⟨n, rfl⟩ := cell_int h3
    obtain ⟨v_, rfl⟩ := cell_int h4
    obtain ⟨e, rfl⟩ := cell_int h5
    obtain ⟨XA, Xl, Xc, rfl⟩ := cell_ints h6
    obtain ⟨YA, Yl, Yc, rfl⟩ := cell_bytes h7
    obtain ⟨now, rfl⟩ := cell_int h8
    obtain ⟨term, rfl⟩ := cell_int h9
    obtain ⟨sent, rfl⟩ := cell_int h10
    obtain ⟨margin, rfl⟩ := cell_int h11
    exact ⟨k, f, t, n, v_, e, XA, Xl, Xc, YA, Yl, Yc, now, term, sent, margin, rfl⟩

end Go.Proofs.Ytmgnpjaemjpamaa
