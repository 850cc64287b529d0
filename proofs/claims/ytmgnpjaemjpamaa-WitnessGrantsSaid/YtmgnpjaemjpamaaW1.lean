/- append of any number of elements, none included, as a step of a region; what stays of a block behind it. -/
import Derived.Test.YtmgnpjaemjpamaaW0
set_option linter.unusedSimpArgs false
set_option linter.unusedVariables false
namespace Go.Proofs.Ytmgnpjaemjpamaa
open Go.RowKit

/-- What may be appended: nothing, or cells that can be read. -/
def SrcAt (w : World) (X : Value) (m size : Nat) (news : List Value) : Prop :=
  (m = 0 ∧ news = [] ∧ ∃ a c, X = .slice a 0 c) ∨ (0 < m ∧ ∃ ad c, X = .slice (some ad) m c ∧ news.length = m * size ∧ (∀ j u, news[j]? = some u → w.cell? (ad.add j) = some u) ∧ ∀ u ∈ news, u.oneCell' = true)

theorem run_append_none {P : Program} (w : World) (t ty e : TypeId) (i : TypeInfo) (ht : P.underlying t = some (.slice e)) (hi : P.info? e = some i) (g n c : Nat) (hn : n ≤ c) (a : Option Addr) (c' : Nat) :
    (Builtin.append_ #[t, t] ty #[.slice (some ⟨g, 0, none⟩) n c, .slice a 0 c']).run P w = .ok (.slice (some ⟨g, 0, none⟩) n c) w := by
  cases a with
  | none => simp [Builtin.append_, run_underlying ht, sizeOf, typeInfo, hi, Builtin.lenOf, hn, Builtin.firstCells, storeCells]
  | some a => simp [Builtin.append_, run_underlying ht, sizeOf, typeInfo, hi, Builtin.lenOf, hn, Builtin.firstCells, storeCells, loadCells, loadCellsFrom]

theorem run_append_any {P : Program} (w : World) (t ty : TypeId) (base : Nat) (e : TypeId) (i : TypeInfo) (z : Value) (size bytes : Nat) (ht : P.underlying t = some (.slice e)) (hi : P.info? e = some i) (hz : i.zero = some z)
    (hsize : i.size = size) (hby : i.bytes = bytes) (hzs : z.cells.size = size) (hsz : 0 < size)
    (g0 c0 n : Nat) (xs : List Value) (hown : w.ownsRow base e size (.slice (some ⟨g0, 0, none⟩) n c0) n xs)
    (X : Value) (m : Nat) (news : List Value) (hX : SrcAt w X m size news)
    (h63 : n + m ≤ maxLen) (hbytes : (n + m) * bytes ≤ 140737488355328) (hbase : base ≤ w.heap.size) (hlt0 : g0 < w.heap.size) :
    ∃ g cap w', (Builtin.append_ #[t, t] ty #[.slice (some ⟨g0, 0, none⟩) n c0, X]).run P w = .ok (.slice (some ⟨g, 0, none⟩) (n + m) cap) w' ∧
      w'.ownsRow base e size (.slice (some ⟨g, 0, none⟩) (n + m) cap) (n + m) (xs ++ news) ∧ w.grownBy w' (some g0) ∧ (g = g0 ∨ g = w.heap.size) ∧ g < w'.heap.size := by
  rcases hX with ⟨rfl, rfl, a, c, rfl⟩ | ⟨hm, ad, c, rfl, hl, hnews, h1⟩
  · have hn : n ≤ c0 := by
      rcases hown.2 with ⟨h, _⟩ | ⟨g, cap, cur, h, _, _, h2, _⟩
      · cases h
      · cases h; exact h2
    refine ⟨g0, c0, w, ?_, by simpa using hown, ⟨rfl, rfl, rfl, Nat.le_refl _, fun _ _ _ => rfl⟩, .inl rfl, hlt0⟩
    exact run_append_none w t ty e i ht hi g0 n c0 hn a c
  · obtain ⟨g, cap, w', hr, h2, h3, h4, h5⟩ := run_append_lies (P := P) w t ty base e i z size bytes ht hi hz hsize hby hzs hsz _ n xs hown ad m c news hl hnews h1 hm h63 hbytes hbase w.heap.size rfl
    refine ⟨g, cap, w', hr, h2, h3, ?_, h5⟩
    rcases h4 with h4 | h4
    · left; simp [Value.ownBlock] at h4; exact h4.symm
    · exact .inr h4

theorem step_append_any {P : Program} {w : World} {ops : Array Oper} {o : Oper} {a : Act} {K : Act → World → Prop} {Q : Exit → Act → World → Prop} {E : Prop} (hgd : o.guard = none) (s x : Operand) (t : TypeId)
    (ho : o.op = .call { callee := .builtin .append, args := #[s, x], argTypes := #[t, t] })
    (base : Nat) (e : TypeId) (i : TypeInfo) (z : Value) (size bytes : Nat) (ht : P.underlying t = some (.slice e)) (hi : P.info? e = some i) (hz : i.zero = some z)
    (hsize : i.size = size) (hby : i.bytes = bytes) (hzs : z.cells.size = size) (hsz : 0 < size)
    (g0 c0 n : Nat) (xs : List Value) (hs : a.eval s = .slice (some ⟨g0, 0, none⟩) n c0) (hown : w.ownsRow base e size (.slice (some ⟨g0, 0, none⟩) n c0) n xs)
    (X : Value) (m : Nat) (news : List Value) (hx : a.eval x = X) (hX : SrcAt w X m size news)
    (h63 : n + m ≤ maxLen) (hbytes : (n + m) * bytes ≤ 140737488355328) (hbase : base ≤ w.heap.size) (hlt0 : g0 < w.heap.size)
    (h : ∀ g cap w', w'.ownsRow base e size (.slice (some ⟨g, 0, none⟩) (n + m) cap) (n + m) (xs ++ news) → w.grownBy w' (some g0) → (g = g0 ∨ g = w.heap.size) → g < w'.heap.size → K (a.put o.dst (.slice (some ⟨g, 0, none⟩) (n + m) cap)) w') :
    if Region.wanted o (yielded ops a.tmps) = true then Oper.wp P o a w K Q else E := by
  have hw : Region.wanted o (yielded ops a.tmps) = true := by simp [Region.wanted, hgd]
  rw [if_pos hw]
  obtain ⟨g, cap, w', hr, h2, h3, h4, h5⟩ := run_append_any (P := P) w t o.type base e i z size bytes ht hi hz hsize hby hzs hsz g0 c0 n xs hown X m news hX h63 hbytes hbase hlt0
  unfold Oper.wp execOp
  simp only [ho, resolve, invoke, builtin, Sem.run_bind, Sem.run_pure, Result.andThen_ok, List.map_toArray, List.map_cons, List.map_nil, hs, hx, hr]
  exact h g cap w' h2 h3 h4 h5

theorem Blk.grown {w w' : World} {b g : Nat} {cs : Array Value} (h : Blk w b cs) (hg : w.grownBy w' (some g)) (hne : b ≠ g) : Blk w' b cs := by
  have := h.lt
  obtain ⟨t, h⟩ := h
  exact ⟨t, by rw [hg.block _ this (by simpa using hne)]; exact h⟩
theorem bl_grown {w W W' : World} {g : Nat} (h : Below w.heap.size w W) (hg : W.grownBy W' (some g)) (hge : w.heap.size ≤ g) : Below w.heap.size w W' :=
  h.grown hg h.size (fun k hk => by cases hk; exact hge)

theorem i3 : (Try.prog.info? 3).map (fun i => (i.zero, i.size, i.bytes)) = some (some (.int .i64 0), 1, 8) := by kernel_rfl
theorem i27 : (Try.prog.info? 27).map (fun i => (i.zero, i.size, i.bytes)) = some (some (.agg #[.int .i64 0, .int .i64 0, .int .i64 0, .int .i64 0, .int .i64 0, .int .i64 0, .slice none 0 0, .slice none 0 0]), 8, 96) := by kernel_rfl
theorem v24 : Try.prog.underlying 24 = some (.slice 3) := by kernel_rfl
theorem v32 : Try.prog.underlying 32 = some (.slice 27) := by kernel_rfl

/-- append at []int and at []Message. -/
theorem app_ints {w : World} {ops : Array Oper} {o : Oper} {a : Act} {K : Act → World → Prop} {Q : Exit → Act → World → Prop} {E : Prop} (hgd : o.guard = none) (s x : Operand)
    (ho : o.op = .call { callee := .builtin .append, args := #[s, x], argTypes := #[24, 24] })
    (base g0 c0 n : Nat) (xs : List Value) (hs : a.eval s = .slice (some ⟨g0, 0, none⟩) n c0) (hown : w.ownsRow base 3 1 (.slice (some ⟨g0, 0, none⟩) n c0) n xs)
    (X : Value) (m : Nat) (news : List Value) (hx : a.eval x = X) (hX : SrcAt w X m 1 news) (hb : n + m ≤ 10000) (hbase : base ≤ w.heap.size) (hlt0 : g0 < w.heap.size)
    (h : ∀ g cap w', w'.ownsRow base 3 1 (.slice (some ⟨g, 0, none⟩) (n + m) cap) (n + m) (xs ++ news) → w.grownBy w' (some g0) → (g = g0 ∨ g = w.heap.size) → g < w'.heap.size → K (a.put o.dst (.slice (some ⟨g, 0, none⟩) (n + m) cap)) w') :
    if Region.wanted o (yielded ops a.tmps) = true then Oper.wp Try.prog o a w K Q else E := by
  obtain ⟨i0, hi, hz0, hz1, hz2⟩ := info_parts i3
  exact step_append_any hgd s x 24 ho base 3 i0 _ 1 8 v24 hi hz0 hz1 hz2 rfl (by decide) g0 c0 n xs hs hown X m news hx hX (by unfold maxLen; omega) (by omega) hbase hlt0 h
theorem app_msgs {w : World} {ops : Array Oper} {o : Oper} {a : Act} {K : Act → World → Prop} {Q : Exit → Act → World → Prop} {E : Prop} (hgd : o.guard = none) (s x : Operand)
    (ho : o.op = .call { callee := .builtin .append, args := #[s, x], argTypes := #[32, 32] })
    (base g0 c0 n : Nat) (xs : List Value) (hs : a.eval s = .slice (some ⟨g0, 0, none⟩) n c0) (hown : w.ownsRow base 27 8 (.slice (some ⟨g0, 0, none⟩) n c0) n xs)
    (X : Value) (m : Nat) (news : List Value) (hx : a.eval x = X) (hX : SrcAt w X m 8 news) (hb : n + m ≤ 10000) (hbase : base ≤ w.heap.size) (hlt0 : g0 < w.heap.size)
    (h : ∀ g cap w', w'.ownsRow base 27 8 (.slice (some ⟨g, 0, none⟩) (n + m) cap) (n + m) (xs ++ news) → w.grownBy w' (some g0) → (g = g0 ∨ g = w.heap.size) → g < w'.heap.size → K (a.put o.dst (.slice (some ⟨g, 0, none⟩) (n + m) cap)) w') :
    if Region.wanted o (yielded ops a.tmps) = true then Oper.wp Try.prog o a w K Q else E := by
  obtain ⟨i0, hi, hz0, hz1, hz2⟩ := info_parts i27
  exact step_append_any hgd s x 32 ho base 27 i0 _ 8 96 v32 hi hz0 hz1 hz2 rfl (by decide) g0 c0 n xs hs hown X m news hx hX (by unfold maxLen; omega) (by omega) hbase hlt0 h

/-- A row as a source; an owned row read. -/
theorem RowAt.src {w : World} {X : Value} {n size : Nat} {xs : List Value} (h : RowAt w X n xs) (hl : xs.length = n * size) (h1 : ∀ u ∈ xs, u.oneCell' = true) : SrcAt w X n size xs := by
  rcases h with ⟨rfl, rfl, a, c, rfl, _⟩ | ⟨b, c, rfl, _, hc, _⟩
  · exact .inl ⟨rfl, rfl, a, c, rfl⟩
  · rcases Nat.eq_zero_or_pos n with rfl | hn
    · have : xs = [] := by simpa using hl
      exact .inl ⟨rfl, this, _, _, rfl⟩
    · exact .inr ⟨hn, _, _, rfl, hl, fun j u hu => by rw [Addr.add_mid, Nat.zero_add]; exact hc j u hu, h1⟩
theorem own_row {w : World} {base : Nat} {e : TypeId} {size n : Nat} {v : Value} {xs : List Value} (h : w.ownsRow base e size v n xs) : RowAt w v n xs := by
  rcases h with ⟨hl, ⟨rfl, rfl⟩ | ⟨g, cap, cur, rfl, hb, hh, hn, hm, hs, ht⟩⟩
  · exact .inl ⟨rfl, by simpa using hl, _, _, rfl, rfl⟩
  · refine .inr ⟨g, cap, rfl, blk_lt hh, fun j u hu => ?_, hn⟩
    rw [blk_cell hh j]
    rw [← ht] at hu
    rw [List.getElem?_take] at hu
    split at hu
    · rw [← Array.getElem?_toList]; exact hu
    · cases hu
theorem own_new (w : World) (e : TypeId) (cs : Array Value) (base size n : Nat) (hs : cs.size = n * size) (hb : base ≤ w.heap.size) (hn : n ≤ maxLen) : (w.alloc (.cells cs e)).ownsRow base e size (.slice (some ⟨w.heap.size, 0, none⟩) n n) n cs.toList :=
  ⟨by simpa using hs, .inr ⟨w.heap.size, n, cs, rfl, hb, alloc_at _ _, Nat.le_refl _, hn, hs, by rw [← hs, ← Array.length_toList]; exact List.take_length⟩⟩

end Go.Proofs.Ytmgnpjaemjpamaa
