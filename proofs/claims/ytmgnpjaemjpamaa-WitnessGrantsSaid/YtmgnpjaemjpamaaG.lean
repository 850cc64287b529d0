/- The contract of the reference's Handle. -/
import Derived.Test.YtmgnpjaemjpamaaF
import Derived.Deep.RegionHeld3
import Derived.Deep.RegionWith
set_option linter.unusedSimpArgs false
set_option linter.unusedVariables false
namespace Go.Proofs.Ytmgnpjaemjpamaa
open Go.RowKit

/-- The three blocks that a call of Handle begins with: the witness, the message, the result; and that nothing older has turned. -/
def Tri (w w1 : World) (cs ms rs : Array Value) : Prop :=
  (∀ o, w1.cell? ⟨w.heap.size, o, none⟩ = cs[o]?) ∧ (∀ o, w1.cell? ⟨w.heap.size + 1, o, none⟩ = ms[o]?) ∧ (∀ o, w1.cell? ⟨w.heap.size + 1 + 1, o, none⟩ = rs[o]?) ∧
  (∀ o, w1.frozen? ⟨w.heap.size, o, none⟩ = false) ∧ (∀ o, w1.frozen? ⟨w.heap.size + 1, o, none⟩ = false) ∧ (∀ o, w1.frozen? ⟨w.heap.size + 1 + 1, o, none⟩ = false) ∧ Below w.heap.size w w1 ∧ w.heap.size + 1 + 1 < w1.heap.size

theorem cell_of {w : World} {b : Nat} {cs : Array Value} {t : TypeId} (h : w.heap[b]? = some (.cells cs t (0, 0))) : ∀ o, w.cell? ⟨b, o, none⟩ = cs[o]? := fun o => blk_cell h o
theorem tri_of {w w1 : World} {cs ms rs : Array Value} {t1 t2 t3 : TypeId} (h : Below (((w.alloc (.cells cs t1)).alloc (.cells ms t2)).alloc (.cells rs t3)).heap.size (((w.alloc (.cells cs t1)).alloc (.cells ms t2)).alloc (.cells rs t3)) w1) : Tri w w1 cs ms rs := by
  have hz := h.size
  simp at hz
  have b0 : w1.heap[w.heap.size]? = some (.cells cs t1 (0, 0)) := by
    rw [h.block _ (by simp; omega), alloc_lt _ _ (by simp; omega), alloc_lt _ _ (by simp), alloc_at]
  have b1 : w1.heap[w.heap.size + 1]? = some (.cells ms t2 (0, 0)) := by
    rw [h.block _ (by simp), alloc_lt _ _ (by simp)]; exact map_at _ _ _
  have b2 : w1.heap[w.heap.size + 1 + 1]? = some (.cells rs t3 (0, 0)) := by
    rw [h.block _ (by simp)]
    have := alloc_at ((w.alloc (.cells cs t1)).alloc (.cells ms t2)) (.cells rs t3)
    simpa using this
  exact ⟨fun o => blk_cell b0 o, fun o => blk_cell b1 o, fun o => blk_cell b2 o, fun o => blk_frozen b0 o, fun o => blk_frozen b1 o, fun o => blk_frozen b2 o, below3 h, by omega⟩
theorem Tri.on {w w1 w2 : World} {cs ms rs : Array Value} (h : Tri w w1 cs ms rs) (hb : Below w1.heap.size w1 w2) : Tri w w2 cs ms rs := by
  obtain ⟨a, b, c, d, e, f, g, z⟩ := h
  have hz := hb.size
  exact ⟨fun o => by rw [hb.cell (p := ⟨_, o, none⟩) (by simp; omega)]; exact a o, fun o => by rw [hb.cell (p := ⟨_, o, none⟩) (by simp; omega)]; exact b o, fun o => by rw [hb.cell (p := ⟨_, o, none⟩) (by simp; omega)]; exact c o,
    fun o => by rw [hb.frozen (p := ⟨_, o, none⟩) (by simp; omega)]; exact d o, fun o => by rw [hb.frozen (p := ⟨_, o, none⟩) (by simp; omega)]; exact e o, fun o => by rw [hb.frozen (p := ⟨_, o, none⟩) (by simp; omega)]; exact f o, g.trans (hb.mono g.size), by omega⟩

theorem rhandle_bad (E H U now term k f t n v e : Int) (vs bd : Value) (w : World) (hg : goodB E H U now term f e = false) :
    Calls Try.prog 13 #[.agg #[.int .i64 E, .int .i64 H, .int .i64 U], .int .i64 now, .int .i64 term, .agg (Msg8 k f t n v e vs bd)] w (HRet w f n ((E, H, U), none)) := by
  unfold Msg8
  rcases hw : wOk E H U with _ | _
  · clear hg
    have hok : (okN false != 0) = true := rfl
    go_enter Try.func13, Try.ntmps13
    go_wp2_with (first | (go_at_call 16; refine (rcheck_c _ _ _ _).mono ?_; rw [hw]; rintro r w1 ⟨rfl, hb⟩; have hz := hb.size; simp at hz; have HB := Lib.hid (tri_of hb); clear hb; have q0 := HB.out.1; have q1 := HB.out.2.1; have q2 := HB.out.2.2.1; have f0 := HB.out.2.2.2.1; have f1 := HB.out.2.2.2.2.1; have f2 := HB.out.2.2.2.2.2.1) | (go_at_call 38; refine (in_c _ _).mono ?_; rintro r w2 ⟨rfl, rfl⟩) | (go_at_call 39; refine (rsite_c _ _).mono ?_; rintro r w2 ⟨rfl, rfl⟩))
    exact bodyPost_ret (v := .tuple #[.agg #[.int .i64 E, .int .i64 H, .int .i64 U], .slice none 0 0]) (by simp [results, Try.results13, go_sem, q2]) rfl ⟨_, rfl, rfl, bl_set (bl_set (bl_set HB.out.2.2.2.2.2.2.1 (by omega) _ _) (by omega) _ _) (by omega) _ _⟩
  have hok : (okN true != 0) = false := rfl
  rcases hn : btw now 0 1073741824 with _ | _
  · clear hg
    go_enter Try.func13, Try.ntmps13
    go_wp2_with (first | (go_at_call 16; refine (rcheck_c _ _ _ _).mono ?_; rw [hw]; rintro r w1 ⟨rfl, hb⟩; have hz := hb.size; simp at hz; have HB := Lib.hid (tri_of hb); clear hb; have q0 := HB.out.1; have q1 := HB.out.2.1; have q2 := HB.out.2.2.1; have f0 := HB.out.2.2.2.1; have f1 := HB.out.2.2.2.2.1; have f2 := HB.out.2.2.2.2.2.1) | (go_at_call 38; refine (in_c _ _).mono ?_; rintro r w2 ⟨rfl, rfl⟩) | (go_at_call 39; refine (rsite_c _ _).mono ?_; rintro r w2 ⟨rfl, rfl⟩))
    exact bodyPost_ret (v := .tuple #[.agg #[.int .i64 E, .int .i64 H, .int .i64 U], .slice none 0 0]) (by simp [results, Try.results13, go_sem, q2]) rfl ⟨_, rfl, rfl, bl_set (bl_set (bl_set HB.out.2.2.2.2.2.2.1 (by omega) _ _) (by omega) _ _) (by omega) _ _⟩
  obtain ⟨hn1, hn2⟩ := bw0 _ _ hn
  rcases ht1 : decide (term < 1) with _ | _
  case true =>
    clear hg
    have ht1' : term < 1 := of_decide_eq_true ht1
    clear ht1
    go_enter Try.func13, Try.ntmps13
    go_wp2_with (first | (go_at_call 16; refine (rcheck_c _ _ _ _).mono ?_; rw [hw]; rintro r w1 ⟨rfl, hb⟩; have hz := hb.size; simp at hz; have HB := Lib.hid (tri_of hb); clear hb; have q0 := HB.out.1; have q1 := HB.out.2.1; have q2 := HB.out.2.2.1; have f0 := HB.out.2.2.2.1; have f1 := HB.out.2.2.2.2.1; have f2 := HB.out.2.2.2.2.2.1) | (go_at_call 38; refine (in_c _ _).mono ?_; rintro r w2 ⟨rfl, rfl⟩) | (go_at_call 39; refine (rsite_c _ _).mono ?_; rintro r w2 ⟨rfl, rfl⟩))
    exact bodyPost_ret (v := .tuple #[.agg #[.int .i64 E, .int .i64 H, .int .i64 U], .slice none 0 0]) (by simp [results, Try.results13, go_sem, q2]) rfl ⟨_, rfl, rfl, bl_set (bl_set (bl_set HB.out.2.2.2.2.2.2.1 (by omega) _ _) (by omega) _ _) (by omega) _ _⟩
  have ht1' : 1 ≤ term := by have := of_decide_eq_false ht1; omega
  clear ht1
  rcases ht2 : decide (1073741824 - now < term) with _ | _
  case true =>
    clear hg
    have ht2' : 1073741824 - now < term := of_decide_eq_true ht2
    clear ht2
    go_enter Try.func13, Try.ntmps13
    go_wp2_with (first | (go_at_call 16; refine (rcheck_c _ _ _ _).mono ?_; rw [hw]; rintro r w1 ⟨rfl, hb⟩; have hz := hb.size; simp at hz; have HB := Lib.hid (tri_of hb); clear hb; have q0 := HB.out.1; have q1 := HB.out.2.1; have q2 := HB.out.2.2.1; have f0 := HB.out.2.2.2.1; have f1 := HB.out.2.2.2.2.1; have f2 := HB.out.2.2.2.2.2.1) | (go_at_call 38; refine (in_c _ _).mono ?_; rintro r w2 ⟨rfl, rfl⟩) | (go_at_call 39; refine (rsite_c _ _).mono ?_; rintro r w2 ⟨rfl, rfl⟩))
    exact bodyPost_ret (v := .tuple #[.agg #[.int .i64 E, .int .i64 H, .int .i64 U], .slice none 0 0]) (by simp [results, Try.results13, go_sem, q2]) rfl ⟨_, rfl, rfl, bl_set (bl_set (bl_set HB.out.2.2.2.2.2.2.1 (by omega) _ _) (by omega) _ _) (by omega) _ _⟩
  have ht2' : term ≤ 1073741824 - now := by have := of_decide_eq_false ht2; omega
  clear ht2
  have ht : btw term 1 (1073741824 - now) = true := by simp [btw]; omega
  have HT := Lib.hid ht
  clear ht
  rcases hf : btw f 0 3 with _ | _
  · clear hg
    go_enter Try.func13, Try.ntmps13
    go_wp2_with (first | (go_at_call 16; refine (rcheck_c _ _ _ _).mono ?_; rw [hw]; rintro r w1 ⟨rfl, hb⟩; have hz := hb.size; simp at hz; have HB := Lib.hid (tri_of hb); clear hb; have q0 := HB.out.1; have q1 := HB.out.2.1; have q2 := HB.out.2.2.1; have f0 := HB.out.2.2.2.1; have f1 := HB.out.2.2.2.2.1; have f2 := HB.out.2.2.2.2.2.1) | (go_at_call 38; refine (in_c _ _).mono ?_; rintro r w2 ⟨rfl, rfl⟩) | (go_at_call 39; refine (rsite_c _ _).mono ?_; rintro r w2 ⟨rfl, rfl⟩))
    exact bodyPost_ret (v := .tuple #[.agg #[.int .i64 E, .int .i64 H, .int .i64 U], .slice none 0 0]) (by simp [results, Try.results13, go_sem, q2]) rfl ⟨_, rfl, rfl, bl_set (bl_set (bl_set HB.out.2.2.2.2.2.2.1 (by omega) _ _) (by omega) _ _) (by omega) _ _⟩
  · have he : btw e 0 1073741824 = false := by simpa [goodB, hw, hn, HT.out, hf] using hg
    clear hg
    go_enter Try.func13, Try.ntmps13
    go_wp2_with (first | (go_at_call 16; refine (rcheck_c _ _ _ _).mono ?_; rw [hw]; rintro r w1 ⟨rfl, hb⟩; have hz := hb.size; simp at hz; have HB := Lib.hid (tri_of hb); clear hb; have q0 := HB.out.1; have q1 := HB.out.2.1; have q2 := HB.out.2.2.1; have f0 := HB.out.2.2.2.1; have f1 := HB.out.2.2.2.2.1; have f2 := HB.out.2.2.2.2.2.1) | (go_at_call 38; refine (in_c _ _).mono ?_; rintro r w2 ⟨rfl, rfl⟩) | (go_at_call 39; refine (rsite_c _ _).mono ?_; rintro r w2 ⟨rfl, rfl⟩))
    exact bodyPost_ret (v := .tuple #[.agg #[.int .i64 E, .int .i64 H, .int .i64 U], .slice none 0 0]) (by simp [results, Try.results13, go_sem, q2]) rfl ⟨_, rfl, rfl, bl_set (bl_set (bl_set HB.out.2.2.2.2.2.2.1 (by omega) _ _) (by omega) _ _) (by omega) _ _⟩

end Go.Proofs.Ytmgnpjaemjpamaa
