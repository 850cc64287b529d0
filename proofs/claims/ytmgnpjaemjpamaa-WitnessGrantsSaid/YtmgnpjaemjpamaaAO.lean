/- What the laws over events share. -/
import Derived.Test.YtmgnpjaemjpamaaAN
import Derived.Test.YtmgnpjaemjpamaaZ
set_option linter.unusedSimpArgs false
set_option linter.unusedVariables false
namespace Go.Proofs.Ytmgnpjaemjpamaa
open Go.RowKit
attribute [local go_sem] st0 st1 st2 st3 st4 st5 st6 st7 st8 st9 st10 st11 st12 st13 st14 st95

theorem hold_c (w : World) (s : SS) (F N : Value) (n : Nat) (hI : Inv n s) : Calls Try.prog 29 #[.agg (stC s F N)] w fun r w' => ∃ c : Int, c ≤ 1 ∧ r = .returned (.tuple #[.int .i64 c, .bool true]) ∧ Below w.heap.size w w' := by
  rcases e0 : holdsB (s.l 0).S (s.l 0).E (s.l 0).U s.now with _ | _
  · rcases e1 : holdsB (s.l 1).S (s.l 1).E (s.l 1).U s.now with _ | _
    · rcases e2 : holdsB (s.l 2).S (s.l 2).E (s.l 2).U s.now with _ | _
      · exact (holders_none w s F N e0 e1 e2).mono fun r w' h => ⟨0, by decide, h.1, h.2⟩
      · obtain ⟨a, b, c⟩ := inv_holds hI 2 (by decide) e2
        exact (holders_2 w s F N e0 e1 e2 (by rw [a]; rfl) b c).mono fun r w' h => ⟨1, by decide, h.1, h.2⟩
    · obtain ⟨a, b, c⟩ := inv_holds hI 1 (by decide) e1
      have e2 : holdsB (s.l 2).S (s.l 2).E (s.l 2).U s.now = false := by
        rcases e : holdsB (s.l 2).S (s.l 2).E (s.l 2).U s.now with _ | _
        · rfl
        · have := (inv_holds hI 2 (by decide) e).1; omega
      exact (holders_1 w s F N e0 e1 e2 (by rw [a]; rfl) b c).mono fun r w' h => ⟨1, by decide, h.1, h.2⟩
  · obtain ⟨a, b, c⟩ := inv_holds hI 0 (by decide) e0
    have e1 : holdsB (s.l 1).S (s.l 1).E (s.l 1).U s.now = false := by
      rcases e : holdsB (s.l 1).S (s.l 1).E (s.l 1).U s.now with _ | _
      · rfl
      · have := (inv_holds hI 1 (by decide) e).1; omega
    have e2 : holdsB (s.l 2).S (s.l 2).E (s.l 2).U s.now = false := by
      rcases e : holdsB (s.l 2).S (s.l 2).E (s.l 2).U s.now with _ | _
      · rfl
      · have := (inv_holds hI 2 (by decide) e).1; omega
    exact (holders_0 w s F N e0 e1 e2 (by rw [a]; rfl) b c).mono fun r w' h => ⟨1, by decide, h.1, h.2⟩

theorem st_load_k {ops : Array Oper} {o : Oper} {a : Act} {w : World} {K : Act → World → Prop} {Q : Exit → Act → World → Prop} {E : Prop} (hgd : o.guard = none) (x : Operand) (ho : o.op = .load 58 x)
    (g : Nat) (hx : a.eval x = .pointer (some ⟨g, 0, none⟩)) (s : SS) (F N : Value) (hg : Blk w g (stC s F N)) (h80 : s.ow.length = 80)
    (h : K (a.put o.dst (.agg (stC s F N))) w) : if Region.wanted o (yielded ops a.tmps) = true then Oper.wp Try.prog o a w K Q else E := by
  have hw : Region.wanted o (yielded ops a.tmps) = true := by simp [Region.wanted, hgd]
  rw [if_pos hw]
  obtain ⟨t, hg⟩ := hg
  obtain ⟨fs, hu⟩ := u58
  exact wp_load_row 58 x ho g hx t _ (0, 0) _ hg hu rfl (st_info s F N h80) h
theorem st_store_k {ops : Array Oper} {op : Oper} {a : Act} {w : World} {K : Act → World → Prop} {Q : Exit → Act → World → Prop} {E : Prop} (hgd : op.guard = none) (x y : Operand) (ho : op.op = .store 58 x y)
    (b : Nat) (s : SS) (Fa : Option Addr) (Fn Fc : Nat) (Na : Option Addr) (Nn Nc : Nat) (hx : a.eval x = .pointer (some ⟨b, 0, none⟩)) (hy : a.eval y = .agg (stC s (.slice Fa Fn Fc) (.slice Na Nn Nc))) (cs : Array Value) (hb : Blk w b cs) (hsz : cs.size = 96) (h80 : s.ow.length = 80)
    (h : K (a.put op.dst undef) (w.setCells b 0 (stC s (.slice Fa Fn Fc) (.slice Na Nn Nc)).toList)) : if Region.wanted op (yielded ops a.tmps) = true then Oper.wp Try.prog op a w K Q else E := by
  have hw : Region.wanted op (yielded ops a.tmps) = true := by simp [Region.wanted, hgd]
  rw [if_pos hw]
  exact wp_store_mid 58 x y ho b 0 _ hx hy (hb.there _ (by rw [stC_size _ _ _ h80]; omega)) (st_info s _ _ h80) (st_one _ _ _ _ _ _ _) h

/-- The events that a slice holds. -/
def EvAt (w : World) (Ea : Option Addr) (n : Nat) (ev : Nat → Nat × Nat × Nat) : Prop :=
  0 < n → ∃ b o, Ea = some ⟨b, o, none⟩ ∧ b < w.heap.size ∧ ∀ j, j < n → (ev j).1 < 256 ∧ (ev j).2.1 < 256 ∧ (ev j).2.2 < 256 ∧
    w.cell? ⟨b, o + j * 3, none⟩ = some (.int .u8 (ev j).1) ∧ w.cell? ⟨b, o + j * 3 + 1, none⟩ = some (.int .u8 (ev j).2.1) ∧ w.cell? ⟨b, o + j * 3 + 2, none⟩ = some (.int .u8 (ev j).2.2)
/-- Where a round of the laws begins: k events are carried out. -/
def LawRel (w : World) (sb n : Nat) (i : Value) (wr : World) : Prop :=
  ∃ (k : Nat) (s : SS) (F N : Value), i = .int .i64 k ∧ k ≤ n ∧ Good k s ∧ Blk wr sb (stC s F N) ∧ StAt wr (.agg (stC s F N)) s ∧ (∀ b, rowsOf (.agg (stC s F N)) b → b ≠ sb) ∧ Below w.heap.size w wr ∧ w.heap.size ≤ sb

end Go.Proofs.Ytmgnpjaemjpamaa
