/- The state of the sites and the witness in memory; laws of blocks, rows and appends. -/
import Derived.Test.YtmgnpjaemjpamaaP
import Derived.Test.YtmgnpjaemjpamaaV
import Derived.Deep.AppendLies
import Derived.Deep.RegionHeldLaw
import Derived.Deep.RegionHeld3
import Derived.Deep.MidRow
set_option linter.unusedSimpArgs false
set_option linter.unusedVariables false
namespace Go.Proofs.Ytmgnpjaemjpamaa
open Go.RowKit

def stL (s : SS) (F N : Value) : List Value :=
  .int .i64 s.E :: .int .i64 s.H :: .int .i64 s.U :: .int .i64 (s.l 0).S :: .int .i64 (s.l 0).E :: .int .i64 (s.l 0).U :: .int .i64 (s.l 1).S :: .int .i64 (s.l 1).E :: .int .i64 (s.l 1).U :: .int .i64 (s.l 2).S :: .int .i64 (s.l 2).E :: .int .i64 (s.l 2).U ::
    F :: N :: .int .i64 s.now :: (s.ow.map (Value.int .i64) ++ [.bool s.rt])
def stC (s : SS) (F N : Value) : Array Value := (stL s F N).toArray
theorem stC_at (s : SS) (F N : Value) (k : Nat) : (stC s F N)[k]? = (stL s F N)[k]? := by simp [stC]
theorem st0 (s : SS) (F N : Value) : (stC s F N)[0]? = some (.int .i64 s.E) := by rw [stC_at]; rfl
theorem st1 (s : SS) (F N : Value) : (stC s F N)[1]? = some (.int .i64 s.H) := by rw [stC_at]; rfl
theorem st2 (s : SS) (F N : Value) : (stC s F N)[2]? = some (.int .i64 s.U) := by rw [stC_at]; rfl
theorem st3 (s : SS) (F N : Value) : (stC s F N)[3]? = some (.int .i64 (s.l 0).S) := by rw [stC_at]; rfl
theorem st4 (s : SS) (F N : Value) : (stC s F N)[4]? = some (.int .i64 (s.l 0).E) := by rw [stC_at]; rfl
theorem st5 (s : SS) (F N : Value) : (stC s F N)[5]? = some (.int .i64 (s.l 0).U) := by rw [stC_at]; rfl
theorem st6 (s : SS) (F N : Value) : (stC s F N)[6]? = some (.int .i64 (s.l 1).S) := by rw [stC_at]; rfl
theorem st7 (s : SS) (F N : Value) : (stC s F N)[7]? = some (.int .i64 (s.l 1).E) := by rw [stC_at]; rfl
theorem st8 (s : SS) (F N : Value) : (stC s F N)[8]? = some (.int .i64 (s.l 1).U) := by rw [stC_at]; rfl
theorem st9 (s : SS) (F N : Value) : (stC s F N)[9]? = some (.int .i64 (s.l 2).S) := by rw [stC_at]; rfl
theorem st10 (s : SS) (F N : Value) : (stC s F N)[10]? = some (.int .i64 (s.l 2).E) := by rw [stC_at]; rfl
theorem st11 (s : SS) (F N : Value) : (stC s F N)[11]? = some (.int .i64 (s.l 2).U) := by rw [stC_at]; rfl
theorem st12 (s : SS) (F N : Value) : (stC s F N)[12]? = some F := by rw [stC_at]; rfl
theorem st13 (s : SS) (F N : Value) : (stC s F N)[13]? = some N := by rw [stC_at]; rfl
theorem st14 (s : SS) (F N : Value) : (stC s F N)[14]? = some (.int .i64 s.now) := by rw [stC_at]; rfl
theorem st_own (s : SS) (F N : Value) (k : Nat) (hk : k < s.ow.length) : (stC s F N)[15 + k]? = some (.int .i64 (s.ow.getD k 0)) := by
  rw [stC_at]
  show (stL s F N)[15 + k]? = _
  rw [Nat.add_comm]
  simp only [stL, List.getElem?_cons_succ]
  rw [List.getElem?_append_left (by simpa using hk)]
  simp [List.getElem?_map, List.getD_eq_getElem?_getD, List.getElem?_eq_getElem hk]
theorem st95 (s : SS) (F N : Value) (h : s.ow.length = 80) : (stC s F N)[95]? = some (.bool s.rt) := by
  rw [stC_at]
  show (s.ow.map (Value.int .i64) ++ [.bool s.rt])[80]? = _
  rw [List.getElem?_append_right (by simp [h])]
  simp [h]
theorem stC_size (s : SS) (F N : Value) (h : s.ow.length = 80) : (stC s F N).size = 96 := by simp [stC, stL, h]

theorem set_F (s : SS) (F N F' : Value) : (stC s F N).setIfInBounds 12 F' = stC s F' N := by simp [stC, stL]
theorem set_N (s : SS) (F N N' : Value) : (stC s F N).setIfInBounds 13 N' = stC s F N' := by simp [stC, stL]
theorem set_now (s : SS) (F N : Value) (x : Int) : (stC s F N).setIfInBounds 14 (.int .i64 x) = stC { s with now := x } F N := by simp [stC, stL]

theorem u58 : ∃ f, Try.prog.underlying 58 = some (.struct f) := ⟨_, (by kernel_rfl : Try.prog.underlying 58 = some (.struct (match Try.prog.underlying 58 with | some (.struct f) => f | _ => #[])))⟩
theorem info58 : (Try.prog.info? 58).map (·.size) = some 96 := by kernel_rfl

/-- A slice over the head of a block, of n elements whose cells are xs. -/
def RowAt (w : World) (x : Value) (n : Nat) (xs : List Value) : Prop :=
  (n = 0 ∧ xs = [] ∧ ∃ a c, x = .slice a 0 c ∧ a = none) ∨ ∃ b c, x = .slice (some ⟨b, 0, none⟩) n c ∧ b < w.heap.size ∧ (∀ j u, xs[j]? = some u → w.cell? ⟨b, j, none⟩ = some u) ∧ n ≤ c
theorem RowAt.below {w w' : World} {x : Value} {n : Nat} {xs : List Value} (h : RowAt w x n xs) (hb : Below w.heap.size w w') : RowAt w' x n xs := by
  rcases h with h | ⟨b, c, h1, h2, h3⟩
  · exact .inl h
  · exact .inr ⟨b, c, h1, Nat.lt_of_lt_of_le h2 hb.size, fun j u hu => by rw [hb.cell (p := ⟨b, j, none⟩) h2]; exact h3.1 j u hu, h3.2⟩
theorem RowAt.form {w : World} {x : Value} {n : Nat} {xs : List Value} (h : RowAt w x n xs) : ∃ a c, x = .slice a n c := by
  rcases h with ⟨rfl, _, a, c, rfl, _⟩ | ⟨b, c, rfl, _⟩
  · exact ⟨a, c, rfl⟩
  · exact ⟨_, _, rfl⟩

theorem RowAt.own {w : World} {x : Value} {n b : Nat} {xs : List Value} (h : RowAt w x n xs) (hb : x.ownBlock = some b) : b < w.heap.size := by
  rcases h with ⟨_, _, a, c, rfl, rfl⟩ | ⟨b', c, rfl, h2, _⟩
  · simp [Value.ownBlock] at hb
  · simp [Value.ownBlock] at hb; omega

def mC (m : Ms) : List Value := [.int .i64 m.k, .int .i64 m.f, .int .i64 m.t, .int .i64 m.n, .int .i64 m.v, .int .i64 m.e, .slice none 0 0, .slice none 0 0]
def StAt (w : World) (v : Value) (s : SS) : Prop := ∃ F N, v = .agg (stC s F N) ∧ s.ow.length = 80 ∧ RowAt w F s.fl.length (s.fl.flatMap mC) ∧ RowAt w N s.sn.length (s.sn.map (Value.int .i64))

end Go.Proofs.Ytmgnpjaemjpamaa
