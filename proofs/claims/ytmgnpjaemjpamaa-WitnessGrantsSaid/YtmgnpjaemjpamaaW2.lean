/- A whole state stored into a block, and loaded. -/
import Derived.Test.YtmgnpjaemjpamaaW1
set_option linter.unusedSimpArgs false
set_option linter.unusedVariables false
namespace Go.Proofs.Ytmgnpjaemjpamaa
open Go.RowKit

theorem setCells_heap (b : Nat) (t : TypeId) : ∀ (vs : List Value) (o : Nat) (w : World) (cs : Array Value), w.heap[b]? = some (.cells cs t (0, 0)) → o + vs.length ≤ cs.size →
    ∃ cs', (w.setCells b o vs).heap[b]? = some (.cells cs' t (0, 0)) ∧ cs'.size = cs.size ∧ ∀ i, cs'[i]? = if o ≤ i ∧ i < o + vs.length then vs[i - o]? else cs[i]? := by
  intro vs
  induction vs with
  | nil => intro o w cs h _; exact ⟨cs, h, rfl, fun i => by rw [if_neg (by simp only [List.length_nil]; omega)]⟩
  | cons v r ih =>
    intro o w cs h hl
    simp only [List.length_cons] at hl
    obtain ⟨cs', h1, h2, h3⟩ := ih (o + 1) (w.setCell ⟨b, o, none⟩ v) (cs.setIfInBounds o v) (blk_set h o v) (by simp; omega)
    refine ⟨cs', h1, by simpa using h2, fun i => ?_⟩
    rw [h3 i]
    simp only [List.length_cons]
    by_cases hi : i = o
    · subst hi
      have hlt : i < cs.size := by omega
      rw [if_neg (by omega), if_pos (by omega), Nat.sub_self, Array.getElem?_setIfInBounds, if_pos rfl, if_pos hlt]
      rfl
    · by_cases hi2 : o ≤ i ∧ i < o + (r.length + 1)
      · rw [if_pos (by omega), if_pos hi2]
        obtain ⟨k, rfl⟩ : ∃ k, i = o + 1 + k := ⟨i - (o + 1), by omega⟩
        rw [show o + 1 + k - o = k + 1 from by omega, show o + 1 + k - (o + 1) = k from by omega]
        rfl
      · rw [if_neg (by omega), if_neg hi2, Array.getElem?_setIfInBounds, if_neg (by omega)]

theorem Blk.setAll {w : World} {b : Nat} {cs : Array Value} (h : Blk w b cs) (cs' : Array Value) (hsz : cs'.size = cs.size) : Blk (w.setCells b 0 cs'.toList) b cs' := by
  obtain ⟨t, h⟩ := h
  obtain ⟨c2, h1, h2, h3⟩ := setCells_heap b t cs'.toList 0 w cs h (by simp [hsz])
  refine ⟨t, ?_⟩
  have : c2 = cs' := by
    apply Array.ext_getElem?
    intro i
    rw [h3 i]
    by_cases hi : i < cs'.size
    · rw [if_pos (by simp; omega)]; simp
    · rw [if_neg (by simp; omega), Array.getElem?_eq_none (by omega), Array.getElem?_eq_none (by omega)]
  rw [h1, this]
theorem setCells_other (b b' : Nat) (hne : b' ≠ b) : ∀ (vs : List Value) (o : Nat) (w : World), (w.setCells b o vs).heap[b']? = w.heap[b']? := by
  intro vs
  induction vs with
  | nil => intro o w; rfl
  | cons v r ih => intro o w; show ((w.setCell ⟨b, o, none⟩ v).setCells b (o + 1) r).heap[b']? = _; rw [ih, Below.heap_setCell _ _ _ _ hne]
theorem Blk.setAllOther {w : World} {b b' : Nat} {cs : Array Value} (h : Blk w b' cs) (hne : b' ≠ b) (o : Nat) (vs : List Value) : Blk (w.setCells b o vs) b' cs := by
  obtain ⟨t, h⟩ := h; exact ⟨t, by rw [setCells_other b b' hne]; exact h⟩
theorem bl_sets {B b : Nat} {a : World} (hB : B ≤ b) : ∀ (vs : List Value) (o : Nat) (w : World), Below B a w → Below B a (w.setCells b o vs) := by
  intro vs
  induction vs with
  | nil => intro o w h; exact h
  | cons v r ih => intro o w h; exact ih (o + 1) _ (bl_set h hB o v)
theorem RowAt.setAllOther {w : World} {x : Value} {n b' : Nat} {xs : List Value} (h : RowAt w x n xs) (hne : ∀ b, x.ownBlock = some b → b ≠ b') (o : Nat) (vs : List Value) : RowAt (w.setCells b' o vs) x n xs := by
  rcases h with h | ⟨b, c, rfl, h2, h3⟩
  · exact .inl h
  · have hb : b ≠ b' := hne b rfl
    have hz : w.heap.size ≤ (w.setCells b' o vs).heap.size := (bl_sets (B := 0) (Nat.zero_le _) vs o w (Below.refl 0 w)).size
    exact .inr ⟨b, c, rfl, Nat.lt_of_lt_of_le h2 hz, fun j u hu => by rw [World.cell?_of_block (w := w) (setCells_other b' b hb vs o w)]; exact h3.1 j u hu, h3.2⟩
theorem Blk.there {w : World} {b : Nat} {cs : Array Value} (h : Blk w b cs) (n : Nat) (hn : n ≤ cs.size) : w.there b 0 n := by
  intro j hj
  rw [Nat.zero_add, h.cell j, h.frozen j, Array.getElem?_eq_getElem (by omega)]
  exact ⟨rfl, rfl⟩

theorem st_one (s : SS) (Fa : Option Addr) (Fn Fc : Nat) (Na : Option Addr) (Nn Nc : Nat) : (stC s (.slice Fa Fn Fc) (.slice Na Nn Nc)).all (·.oneCell') = true := by
  refine all_oneCell_toArray (fun v hv => ?_)
  simp only [stL, List.mem_cons, List.mem_append, List.mem_map, List.not_mem_nil, or_false] at hv
  rcases hv with h | h | h | h | h | h | h | h | h | h | h | h | h | h | h | ⟨x, _, h⟩ | h <;> subst h <;> rfl
theorem st_info (s : SS) (F N : Value) (h : s.ow.length = 80) : (Try.prog.info? 58).map (·.size) = some (stC s F N).size := by rw [stC_size _ _ _ h]; exact info58

/-- A state is loaded; stored; a function's result. -/
theorem st_load {ops : Array Oper} {rest : List Oper} {o : Oper} {a : Act} {w : World} {Q : Exit → Act → World → Prop} (hgd : o.guard = none) (x : Operand) (ho : o.op = .load 58 x)
    (g : Nat) (hx : a.eval x = .pointer (some ⟨g, 0, none⟩)) (s : SS) (F N : Value) (hg : Blk w g (stC s F N)) (h80 : s.ow.length = 80)
    (h : wpList Try.prog ops Q rest (a.put o.dst (.agg (stC s F N))) w) : wpList Try.prog ops Q (o :: rest) a w := by
  obtain ⟨t, hg⟩ := hg
  obtain ⟨fs, hu⟩ := u58
  exact wpList_load_row hgd 58 x ho g hx t _ (0, 0) _ hg hu rfl (st_info s F N h80) h
theorem st_store {ops : Array Oper} {rest : List Oper} {op : Oper} {a : Act} {w : World} {Q : Exit → Act → World → Prop} (hgd : op.guard = none) (x y : Operand) (ho : op.op = .store 58 x y)
    (b : Nat) (s : SS) (Fa : Option Addr) (Fn Fc : Nat) (Na : Option Addr) (Nn Nc : Nat) (hx : a.eval x = .pointer (some ⟨b, 0, none⟩)) (hy : a.eval y = .agg (stC s (.slice Fa Fn Fc) (.slice Na Nn Nc))) (cs : Array Value) (hb : Blk w b cs) (hsz : cs.size = 96) (h80 : s.ow.length = 80)
    (h : wpList Try.prog ops Q rest (a.put op.dst undef) (w.setCells b 0 (stC s (.slice Fa Fn Fc) (.slice Na Nn Nc)).toList)) : wpList Try.prog ops Q (op :: rest) a w :=
  wpList_store_mid hgd 58 x y ho b 0 _ hx hy (hb.there _ (by rw [stC_size _ _ _ h80]; omega)) (st_info s _ _ h80) (st_one _ _ _ _ _ _ _) h
theorem st_result {fn : Func} {p : Tmp} (h : fn.results = #[.cell p 58]) (tmps : Array Value) (w : World) (g : Nat) (s : SS) (F N : Value) (hp : tmps.getD p undef = .pointer (some ⟨g, 0, none⟩)) (hg : Blk w g (stC s F N)) (h80 : s.ow.length = 80) :
    (results fn tmps).run Try.prog w = .ok (.agg (stC s F N)) w := by
  obtain ⟨t, hg⟩ := hg
  obtain ⟨fs, hu⟩ := u58
  exact results_cell_row h tmps w g t _ (0, 0) _ hp hg hu rfl (st_info s F N h80)

end Go.Proofs.Ytmgnpjaemjpamaa
