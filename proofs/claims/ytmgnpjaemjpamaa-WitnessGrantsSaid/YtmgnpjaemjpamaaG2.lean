/- Laws on the three blocks of a call of the reference's Handle. -/
import Derived.Test.YtmgnpjaemjpamaaG
set_option linter.unusedSimpArgs false
set_option linter.unusedVariables false
namespace Go.Proofs.Ytmgnpjaemjpamaa
open Go.RowKit

theorem Tri.drew {w w1 : World} {cs ms rs : Array Value} (h : Tri w w1 cs ms rs) : Tri w w1.drew cs ms rs := ⟨h.1, h.2.1, h.2.2.1, h.2.2.2.1, h.2.2.2.2.1, h.2.2.2.2.2.1, h.2.2.2.2.2.2.1.drew, h.2.2.2.2.2.2.2⟩
theorem two_set {w w1 : World} {cs ms rs : Array Value} (h : Tri w w1 cs ms rs) (i j k : Nat) (x y z : Value) :
    (∀ o, (((w1.setCell ⟨w.heap.size + 1 + 1, i, none⟩ x).setCell ⟨w.heap.size + 1 + 1, j, none⟩ y).setCell ⟨w.heap.size + 1 + 1, k, none⟩ z).cell? ⟨w.heap.size, o, none⟩ = cs[o]?) ∧ (∀ o, (((w1.setCell ⟨w.heap.size + 1 + 1, i, none⟩ x).setCell ⟨w.heap.size + 1 + 1, j, none⟩ y).setCell ⟨w.heap.size + 1 + 1, k, none⟩ z).cell? ⟨w.heap.size + 1, o, none⟩ = ms[o]?) := by
  refine ⟨fun o => ?_, fun o => ?_⟩
  · rw [← h.1 o]; unfold World.cell?; rw [Below.heap_setCell _ _ _ _ (by simp; omega), Below.heap_setCell _ _ _ _ (by simp; omega), Below.heap_setCell _ _ _ _ (by simp; omega)]
  · rw [← h.2.1 o]; unfold World.cell?; rw [Below.heap_setCell _ _ _ _ (by simp), Below.heap_setCell _ _ _ _ (by simp), Below.heap_setCell _ _ _ _ (by simp)]

/-- The witness's Until is written. -/
theorem Tri.setU {w w1 : World} {a b c : Value} {ms rs : Array Value} (h : Tri w w1 #[a, b, c] ms rs) (x : Value) : Tri w (w1.setCell ⟨w.heap.size, 2, none⟩ x) #[a, b, x] ms rs := by
  obtain ⟨q0, q1, q2, f0, f1, f2, g, z⟩ := h
  have fz : ∀ p : Addr, (w1.setCell ⟨w.heap.size, 2, none⟩ x).frozen? p = w1.frozen? p := fun p => World.frozen?_setCell _ _ _ _
  refine ⟨fun o => ?_, fun o => ?_, fun o => ?_, fun o => by rw [fz]; exact f0 o, fun o => by rw [fz]; exact f1 o, fun o => by rw [fz]; exact f2 o, bl_set g (Nat.le_refl _) _ _, by simpa [World.setCell] using z⟩
  · have h2 : w1.cell? ⟨w.heap.size, 2, none⟩ = some c := q0 2
    by_cases ho : o = 2
    · subst ho; rw [World.cell?_setCell_same _ _ _ h2]; rfl
    · have hne : (⟨w.heap.size, 2, none⟩ : Addr) ≠ ⟨w.heap.size, o, none⟩ := by
        intro h
        injection h with _ h2 _
        exact ho h2.symm
      rw [World.cell?_setCell_other _ _ _ _ hne, q0 o]
      match o, ho with
      | 0, _ => rfl
      | 1, _ => rfl
      | o + 3, _ => rfl
  · rw [← q1 o]; unfold World.cell?; rw [Below.heap_setCell _ _ _ _ (by simp)]
  · rw [← q2 o]; unfold World.cell?; rw [Below.heap_setCell _ _ _ _ (by simp; omega)]

theorem ans_set {w w1 w4 w5 : World} {f n : Int} {x : Value} {o : Option (Int × Int × Int)} (ha : AnsIs w1.heap.size x w4 f n o) (hz : w.heap.size + 1 + 1 < w1.heap.size) (i j k : Nat) (y1 y2 y3 : Value)
    (h5 : w5 = ((w4.setCell ⟨w.heap.size + 1 + 1, i, none⟩ y1).setCell ⟨w.heap.size + 1 + 1, j, none⟩ y2).setCell ⟨w.heap.size + 1 + 1, k, none⟩ y3) : AnsIs w.heap.size x w5 f n o := by
  subst h5
  refine (ha.step (fun k hk => ?_)).mono (by omega)
  rw [Below.heap_setCell _ _ _ _ (by simp; omega), Below.heap_setCell _ _ _ _ (by simp; omega), Below.heap_setCell _ _ _ _ (by simp; omega)]

end Go.Proofs.Ytmgnpjaemjpamaa
