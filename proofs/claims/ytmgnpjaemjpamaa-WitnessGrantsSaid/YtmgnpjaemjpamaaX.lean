/- The contract of State.request. -/
import Derived.Test.YtmgnpjaemjpamaaW2
import Derived.Deep.DeepCutAuto
import Derived.Deep.RegionLaw
set_option linter.unusedSimpArgs false
set_option linter.unusedVariables false
namespace Go.Proofs.Ytmgnpjaemjpamaa
open Go.RowKit
attribute [local go_sem] st0 st1 st2 st3 st4 st5 st6 st7 st8 st9 st10 st11 st12 st13 st14

def zeroSt : SS := { E := 0, H := 0, U := 0, l := fun _ => ⟨0, 0, 0⟩, fl := [], sn := [], now := 0, ow := List.replicate 80 0, rt := false }
def zeroC : Array Value := stC zeroSt (.slice none 0 0) (.slice none 0 0)
theorem z58 (w : World) : (zeroValue 58).run Try.prog w = .ok (.agg zeroC) w := by kernel_rfl

/-- A block that holds one of the two rows of a state. -/
def rowsOf (v : Value) (b : Nat) : Prop := ∃ cs : Array Value, v = .agg cs ∧ ∃ x, (cs[12]? = some x ∨ cs[13]? = some x) ∧ x.ownBlock = some b
theorem rows_of {s : SS} {F N : Value} {b : Nat} (h : rowsOf (.agg (stC s F N)) b) : F.ownBlock = some b ∨ N.ownBlock = some b := by
  obtain ⟨cs, hc, x, h1, h2⟩ := h
  injection hc with hc
  subst hc
  rcases h1 with h1 | h1
  · rw [st12] at h1; injection h1 with h1; subst h1; exact .inl h2
  · rw [st13] at h1; injection h1 with h1; subst h1; exact .inr h2
theorem rows_F {s : SS} {F N : Value} {b : Nat} (h : F.ownBlock = some b) : rowsOf (.agg (stC s F N)) b := ⟨_, rfl, F, .inl (st12 _ _ _), h⟩
theorem rows_N {s : SS} {F N : Value} {b : Nat} (h : N.ownBlock = some b) : rowsOf (.agg (stC s F N)) b := ⟨_, rfl, N, .inr (st13 _ _ _), h⟩
/-- The state s is returned; its rows lie in new blocks or in those of v. -/
def RetS (w : World) (v : Value) (s : SS) (r : Ending) (w' : World) : Prop := ∃ v', r = .returned v' ∧ StAt w' v' s ∧ Below w.heap.size w w' ∧ ∀ b, rowsOf v' b → w.heap.size ≤ b ∨ rowsOf v b
theorem StAt.own {w : World} {v : Value} {s : SS} {b : Nat} (h : StAt w v s) (hb : rowsOf v b) : b < w.heap.size := by
  obtain ⟨F, N, rfl, _, hF, hN⟩ := h
  rcases rows_of hb with h | h
  · exact hF.own h
  · exact hN.own h
theorem own_gen {B : Nat} {s s2 : SS} {F N F' N' : Value} (hF : ∀ b, F'.ownBlock = some b → B ≤ b ∨ rowsOf (.agg (stC s F N)) b) (hN : ∀ b, N'.ownBlock = some b → B ≤ b ∨ rowsOf (.agg (stC s F N)) b) :
    ∀ b, rowsOf (.agg (stC s2 F' N')) b → B ≤ b ∨ rowsOf (.agg (stC s F N)) b := fun b h => by
  rcases rows_of h with h | h
  · exact hF b h
  · exact hN b h
theorem own_fresh {B g n c : Nat} {v : Value} (h : B ≤ g) : ∀ b, (Value.slice (some ⟨g, 0, none⟩) n c).ownBlock = some b → B ≤ b ∨ rowsOf v b := fun b hb => by
  simp [Value.ownBlock] at hb; left; omega
theorem own_F {B : Nat} {s : SS} {F N : Value} : ∀ b, F.ownBlock = some b → B ≤ b ∨ rowsOf (.agg (stC s F N)) b := fun b hb => .inr (rows_F hb)
theorem own_N {B : Nat} {s : SS} {F N : Value} : ∀ b, N.ownBlock = some b → B ≤ b ∨ rowsOf (.agg (stC s F N)) b := fun b hb => .inr (rows_N hb)

theorem RowAt.alloc {w : World} {x : Value} {n : Nat} {xs : List Value} (h : RowAt w x n xs) (o : Obj) : RowAt (w.alloc o) x n xs :=
  h.below ((Below.refl _ _).alloc (Nat.le_refl _) _)
theorem RowAt.drew {w : World} {x : Value} {n : Nat} {xs : List Value} (h : RowAt w x n xs) : RowAt w.drew x n xs := h
theorem RowAt.grownOld {w w' : World} {x : Value} {n g : Nat} {xs : List Value} (h : RowAt w x n xs) (hg : w.grownBy w' (some g)) (hne : ∀ b, x.ownBlock = some b → b ≠ g) : RowAt w' x n xs := by
  rcases h with h | ⟨b, c, rfl, h2, h3⟩
  · exact .inl h
  · have hb : b ≠ g := hne b rfl
    exact .inr ⟨b, c, rfl, Nat.lt_of_lt_of_le h2 hg.size, fun j u hu => by rw [World.cell?_of_block (w := w) (hg.block b h2 (by simpa using hb))]; exact h3.1 j u hu, h3.2⟩
theorem RowAt.setOther {w : World} {x : Value} {n b' i : Nat} {v : Value} {xs : List Value} (h : RowAt w x n xs) (hne : ∀ b, x.ownBlock = some b → b ≠ b') : RowAt (w.setCell ⟨b', i, none⟩ v) x n xs := by
  rcases h with h | ⟨b, c, rfl, h2, h3⟩
  · exact .inl h
  · have hb : b ≠ b' := hne b rfl
    exact .inr ⟨b, c, rfl, by simpa [World.setCell] using h2, fun j u hu => by rw [World.cell?_of_block (w := w) (Below.heap_setCell w ⟨b', i, none⟩ v b hb)]; exact h3.1 j u hu, h3.2⟩
theorem own_lit {w : World} {base g : Nat} {e : TypeId} {size n : Nat} {cs : Array Value} (h : w.heap[g]? = some (.cells cs e (0, 0))) (hs : cs.size = n * size) (hb : base ≤ g) (hn : n ≤ maxLen) : w.ownsRow base e size (.slice (some ⟨g, 0, none⟩) n n) n cs.toList :=
  ⟨by simpa using hs, .inr ⟨g, n, cs, rfl, hb, h, Nat.le_refl _, hn, hs, by rw [← hs, ← Array.length_toList]; exact List.take_length⟩⟩
theorem src_lit {w : World} {b m c size : Nat} {cs : Array Value} (h : Blk w b cs) (hm : 0 < m) (hs : cs.size = m * size) (h1 : ∀ u ∈ cs.toList, u.oneCell' = true) : SrcAt w (.slice (some ⟨b, 0, none⟩) m c) m size cs.toList :=
  .inr ⟨hm, _, _, rfl, by simpa using hs, fun j u hu => by rw [Addr.add_mid, Nat.zero_add, h.cell j, ← Array.getElem?_toList]; exact hu, h1⟩
theorem src_int1 {w : World} {b c : Nat} {x : Int} (h : Blk w b #[.int .i64 x]) : SrcAt w (.slice (some ⟨b, 0, none⟩) 1 c) 1 1 [.int .i64 x] :=
  src_lit (cs := #[.int .i64 x]) h (by decide) rfl (by intro u hu; simp at hu; subst hu; rfl)
theorem src_msg1 {w : World} {b c' : Nat} {k f t n v e : Int} (h : Blk w b #[.int .i64 k, .int .i64 f, .int .i64 t, .int .i64 n, .int .i64 v, .int .i64 e, .slice none 0 0, .slice none 0 0]) :
    SrcAt w (.slice (some ⟨b, 0, none⟩) 1 c') 1 8 [.int .i64 k, .int .i64 f, .int .i64 t, .int .i64 n, .int .i64 v, .int .i64 e, .slice none 0 0, .slice none 0 0] :=
  src_lit (cs := #[.int .i64 k, .int .i64 f, .int .i64 t, .int .i64 n, .int .i64 v, .int .i64 e, .slice none 0 0, .slice none 0 0]) h (by decide) rfl (by
    intro u hu; simp at hu; rcases hu with h | h | h | h | h | h | h <;> subst h <;> rfl)
theorem ints_one (l : List Int) : ∀ u ∈ l.map (Value.int .i64), u.oneCell' = true := by
  intro u hu
  obtain ⟨x, _, rfl⟩ := List.mem_map.mp hu
  rfl
theorem below_size {B : Nat} {w w' : World} (h : Below B w w') : w.heap.size ≤ w'.heap.size := h.size

theorem flat_len (l : List Ms) : (l.flatMap mC).length = l.length * 8 := by
  induction l with
  | nil => rfl
  | cons m r ih => rw [List.flatMap_cons, List.length_append, ih]; simp [mC]; omega
theorem flat_one (l : List Ms) : ∀ u ∈ l.flatMap mC, u.oneCell' = true := by
  intro u hu
  obtain ⟨m, _, h⟩ := List.mem_flatMap.mp hu
  simp [mC] at h
  rcases h with h | h | h | h | h | h | h <;> subst h <;> rfl
/-- Behind the second append of request. -/
def ReqEnd (w : World) (s : SS) (N : Value) (cm : List Value) (w' : World) : Prop :=
  ∃ g c, Blk w' w.heap.size (stC s (.slice (some ⟨g, 0, none⟩) (s.fl.length + 1) c) N) ∧ Blk w' (w.heap.size + 1 + 1) zeroC ∧ Below w.heap.size w w' ∧ w.heap.size + 1 + 1 < g ∧
    RowAt w' (.slice (some ⟨g, 0, none⟩) (s.fl.length + 1) c) (s.fl.length + 1) (s.fl.flatMap mC ++ cm) ∧ RowAt w' N (s.sn.length + 1) (s.sn.map (Value.int .i64) ++ [.int .i64 s.now])
/-- Behind the first append of request. -/
def ReqMid (w : World) (s : SS) (F : Value) (cm : Array Value) (w' : World) : Prop :=
  ∃ g c, Blk w' w.heap.size (stC s F (.slice (some ⟨g, 0, none⟩) (s.sn.length + 1) c)) ∧ Blk w' (w.heap.size + 1) cm ∧ Blk w' (w.heap.size + 1 + 1) zeroC ∧ Below w.heap.size w w' ∧
    RowAt w' (.slice (some ⟨g, 0, none⟩) (s.sn.length + 1) c) (s.sn.length + 1) (s.sn.map (Value.int .i64) ++ [.int .i64 s.now]) ∧ w.heap.size + 1 + 1 < g ∧ RowAt w' F s.fl.length (s.fl.flatMap mC)

set_option maxRecDepth 100000 in
set_option maxHeartbeats 8000000 in
theorem req_c (w : World) (v : Value) (s : SS) (k f t n v_ e : Int) (hS : StAt w v s) (h1 : s.sn.length ≤ 1000) (h2 : s.fl.length ≤ 1000) :
    Calls Try.prog 30 #[v, .agg #[.int .i64 k, .int .i64 f, .int .i64 t, .int .i64 n, .int .i64 v_, .int .i64 e, .slice none 0 0, .slice none 0 0]] w (RetS w v (reqS s ⟨k, f, t, n, v_, e⟩)) := by
  obtain ⟨F, N, rfl, h80, hF, hN⟩ := hS
  obtain ⟨Fa, Fc, rfl⟩ := hF.form
  obtain ⟨Na, Nc, rfl⟩ := hN.form
  have HF := Lib.hid hF
  have HN := Lib.hid hN
  clear hF hN
  have hz58 := z58
  go_enter Try.func30, Try.ntmps30
  go_wp2
  obtain ⟨W0, hW⟩ : ∃ W0, W0 = (((w.alloc (Obj.cells (stC s (Value.slice Fa s.fl.length Fc) (Value.slice Na s.sn.length Nc)) 58)).alloc (Obj.cells #[Value.int IntKind.i64 k, Value.int IntKind.i64 f, Value.int IntKind.i64 t, Value.int IntKind.i64 ↑s.sn.length, Value.int IntKind.i64 v_, Value.int IntKind.i64 e, Value.slice none 0 0, Value.slice none 0 0] 27)).alloc (Obj.cells zeroC 58)) := ⟨_, rfl⟩
  rw [← hW]
  have BS : Blk W0 w.heap.size (stC s (Value.slice Fa s.fl.length Fc) (Value.slice Na s.sn.length Nc)) := by rw [hW]; exact ((Blk.new _ _ _).alloc _).alloc _
  have BM : Blk W0 (w.heap.size + 1) #[Value.int IntKind.i64 k, Value.int IntKind.i64 f, Value.int IntKind.i64 t, Value.int IntKind.i64 ↑s.sn.length, Value.int IntKind.i64 v_, Value.int IntKind.i64 e, Value.slice none 0 0, Value.slice none 0 0] := by rw [hW]; exact (Blk.new1 _ _ _ _).alloc _
  have BZ : Blk W0 (w.heap.size + 1 + 1) zeroC := by rw [hW]; exact Blk.new2 _ _ _ _ _
  have HB : Below w.heap.size w W0 := by rw [hW]; exact bl_alloc (bl_alloc (bl_alloc (Below.refl _ _) _) _) _
  have RF := HF.out.below HB
  have RN := HN.out.below HB
  clear hW
  have cS := BS.cell
  have zS := BS.lt
  have KS := Lib.hid BS
  have KM := Lib.hid BM
  have KZ := Lib.hid BZ
  have KB := Lib.hid HB
  have KRF := Lib.hid RF
  have KRN := Lib.hid RN
  have zB := HB.size
  have zM := BM.lt
  have zZ := BZ.lt
  clear BS BM BZ HB RF RN
  go_upto_region 2 with (fail)
  go_cut [] (fun w' => ReqMid w s (Value.slice Fa s.fl.length Fc) #[Value.int IntKind.i64 k, Value.int IntKind.i64 f, Value.int IntKind.i64 t, Value.int IntKind.i64 ↑s.sn.length, Value.int IntKind.i64 v_, Value.int IntKind.i64 e, Value.slice none 0 0, Value.slice none 0 0] w')
  case first =>
    go_region_law (first | (refine app_ints rfl _ _ rfl w.heap.size _ _ 0 [] rfl (own_lit (cs := #[]) ?_ rfl ?_ (by decide)) (Value.slice Na s.sn.length Nc) s.sn.length (s.sn.map (Value.int .i64)) rfl (RowAt.src ?_ (by simp) (ints_one _)) (by omega) ?_ ?_ ?_; (first | exact alloc_at _ _ | exact alloc2_at _ _ _ | exact map_at _ _ _); (focus (first | omega | (simp; done) | (simp; omega))); (focus (repeat (with_reducible first | exact KRN.out | exact KRF.out | apply RowAt.drew | apply RowAt.alloc))); (focus (first | omega | (simp; done) | (simp; omega))); (focus (first | omega | (simp; done) | (simp; omega))); intro g1 cap1 w1 own1 grw1 at1 lt1; simp only [Nat.zero_add, List.nil_append] at own1; (try simp at at1); have zg1 := grw1.size; (try simp at zg1); have BS1 : Blk w1 w.heap.size (stC s (Value.slice Fa s.fl.length Fc) (Value.slice Na s.sn.length Nc)) := (by focus (repeat (with_reducible first | exact KS.out | exact KM.out | exact KZ.out | exact Blk.new _ _ _ | exact Blk.new1 _ _ _ _ | apply Blk.drew | apply Blk.alloc | refine Blk.grown ?_ grw1 ?_ | refine Blk.grown ?_ grw2 ?_ | omega))); have cS1 := BS1.cell; have fS1 := BS1.frozen; have zS1 := BS1.lt; clear BS1) | go_loud (refine app_ints rfl _ _ rfl w.heap.size _ _ _ (s.sn.map (Value.int .i64)) rfl ?_ _ 1 [.int .i64 s.now] rfl (src_int1 (c := 1) ?_) (by omega) ?_ ?_ ?_; (first | exact own1 | exact own1.alloc _); (focus (repeat (with_reducible first | exact KS.out | exact KM.out | exact KZ.out | exact Blk.new _ _ _ | exact Blk.new1 _ _ _ _ | apply Blk.drew | apply Blk.alloc | refine Blk.grown ?_ grw1 ?_ | refine Blk.grown ?_ grw2 ?_ | omega))); (focus (first | omega | (simp; done) | (simp; omega))); (focus (first | omega | (simp; done) | (simp; omega))); intro g2 cap2 w2 own2 grw2 at2 lt2; (try simp at at2); have BS2 : Blk w2 w.heap.size (stC s (Value.slice Fa s.fl.length Fc) (Value.slice Na s.sn.length Nc)) := (by focus (repeat (with_reducible first | exact KS.out | exact KM.out | exact KZ.out | exact Blk.new _ _ _ | exact Blk.new1 _ _ _ _ | apply Blk.drew | apply Blk.alloc | refine Blk.grown ?_ grw1 ?_ | refine Blk.grown ?_ grw2 ?_ | omega))); have cS2 := BS2.cell; have fS2 := BS2.frozen; have zS2 := BS2.lt; have KS2 := Lib.hid BS2; clear BS2))
    all_goals
      have HB2 : Below w.heap.size w w2 := by repeat (with_reducible first | exact KB.out | apply Below.drew | apply bl_alloc | refine bl_grown ?_ grw1 ?_ | refine bl_grown ?_ grw2 ?_ | omega)
      have BM2 : Blk w2 (w.heap.size + 1) #[Value.int IntKind.i64 k, Value.int IntKind.i64 f, Value.int IntKind.i64 t, Value.int IntKind.i64 ↑s.sn.length, Value.int IntKind.i64 v_, Value.int IntKind.i64 e, Value.slice none 0 0, Value.slice none 0 0] := by repeat (with_reducible first | exact KS.out | exact KM.out | exact KZ.out | exact Blk.new _ _ _ | exact Blk.new1 _ _ _ _ | apply Blk.drew | apply Blk.alloc | refine Blk.grown ?_ grw1 ?_ | refine Blk.grown ?_ grw2 ?_ | omega)
      have BZ2 : Blk w2 (w.heap.size + 1 + 1) zeroC := by repeat (with_reducible first | exact KS.out | exact KM.out | exact KZ.out | exact Blk.new _ _ _ | exact Blk.new1 _ _ _ _ | apply Blk.drew | apply Blk.alloc | refine Blk.grown ?_ grw1 ?_ | refine Blk.grown ?_ grw2 ?_ | omega)
      have hg2 : w.heap.size + 1 + 1 < g2 := by omega
      have HB3 := bl_set HB2 (Nat.le_refl _) 13 (Value.slice (some ⟨g2, 0, none⟩) (s.sn.length + 1) cap2)
      have RG := own_row own2
      go_wp2_with fail
      go_meet
      exact ⟨g2, cap2, Blk.cast (KS2.out.set 13 _) (set_N _ _ _ _), BM2.other (by omega) _ _, BZ2.other (by omega) _ _, HB3, RG.setOther (fun b hb => by simp [Value.ownBlock] at hb; omega), hg2, HF.out.below HB3⟩
  case rest =>
    obtain ⟨gN, cN, BS, BM, BZ, HB, RN, hgN, RF⟩ := hcut
    have cS := BS.cell
    have cM := BM.cell
    have zS := BS.lt
    have zM := BM.lt
    have zZ := BZ.lt
    have zB := HB.size
    have zN : gN < wc.heap.size := by
      rcases RN with ⟨h, _⟩ | ⟨b, c, h, h2, _⟩
      · omega
      · injection h with h _ _; injection h with h; injection h with h; omega
    have KS := Lib.hid BS
    have KM := Lib.hid BM
    have KZ := Lib.hid BZ
    have KB := Lib.hid HB
    have KRF := Lib.hid RF
    have KRN := Lib.hid RN
    clear BS BM BZ HB RF RN
    go_wp2_with (fail)
    go_upto_region 3 with (fail)
    go_cut [] (fun w' => ReqEnd w s (.slice (some ⟨gN, 0, none⟩) (s.sn.length + 1) cN) [.int .i64 k, .int .i64 f, .int .i64 t, .int .i64 s.sn.length, .int .i64 v_, .int .i64 e, .slice none 0 0, .slice none 0 0] w')
    case first =>
      go_region_law (first | (refine app_msgs rfl _ _ rfl w.heap.size _ _ 0 [] rfl (own_lit (cs := #[]) ?_ rfl ?_ (by decide)) (Value.slice Fa s.fl.length Fc) s.fl.length (s.fl.flatMap mC) rfl (RowAt.src ?_ (flat_len _) (flat_one _)) (by omega) ?_ ?_ ?_; (first | exact alloc_at _ _ | exact alloc2_at _ _ _ | exact map_at _ _ _); (focus (first | omega | (simp; done) | (simp; omega))); (focus (repeat (with_reducible first | exact KRN.out | exact KRF.out | apply RowAt.drew | apply RowAt.alloc))); (focus (first | omega | (simp; done) | (simp; omega))); (focus (first | omega | (simp; done) | (simp; omega))); intro g1 cap1 w1 own1 grw1 at1 lt1; simp only [Nat.zero_add, List.nil_append] at own1; (try simp at at1); have zg1 := grw1.size; (try simp at zg1); have BS1 : Blk w1 w.heap.size (stC s (Value.slice Fa s.fl.length Fc) (Value.slice (some ⟨gN, 0, none⟩) (s.sn.length + 1) cN)) := (by (focus (repeat (with_reducible first | exact KS.out | exact KM.out | exact KZ.out | exact Blk.new _ _ _ | exact Blk.new1 _ _ _ _ | apply Blk.drew | apply Blk.alloc | refine Blk.grown ?_ grw1 ?_ | refine Blk.grown ?_ grw2 ?_ | omega)))); have BM1 : Blk w1 (w.heap.size + 1) #[Value.int IntKind.i64 k, Value.int IntKind.i64 f, Value.int IntKind.i64 t, Value.int IntKind.i64 ↑s.sn.length, Value.int IntKind.i64 v_, Value.int IntKind.i64 e, Value.slice none 0 0, Value.slice none 0 0] := (by (focus (repeat (with_reducible first | exact KS.out | exact KM.out | exact KZ.out | exact Blk.new _ _ _ | exact Blk.new1 _ _ _ _ | apply Blk.drew | apply Blk.alloc | refine Blk.grown ?_ grw1 ?_ | refine Blk.grown ?_ grw2 ?_ | omega)))); have cS1 := BS1.cell; have cM1 := BM1.cell; have fS1 := BS1.frozen; have zS1 := BS1.lt; have zM1 := BM1.lt; clear BS1 BM1) | (refine app_msgs rfl _ _ rfl w.heap.size _ _ _ (s.fl.flatMap mC) rfl ?_ _ 1 [.int .i64 k, .int .i64 f, .int .i64 t, .int .i64 s.sn.length, .int .i64 v_, .int .i64 e, .slice none 0 0, .slice none 0 0] rfl (src_msg1 (c' := 1) ?_) (by omega) ?_ ?_ ?_; (first | exact own1 | exact own1.alloc _); (focus (repeat (with_reducible first | exact KS.out | exact KM.out | exact KZ.out | exact Blk.new _ _ _ | exact Blk.new1 _ _ _ _ | apply Blk.drew | apply Blk.alloc | refine Blk.grown ?_ grw1 ?_ | refine Blk.grown ?_ grw2 ?_ | omega))); (focus (first | omega | (simp; done) | (simp; omega))); (focus (first | omega | (simp; done) | (simp; omega))); intro g2 cap2 w2 own2 grw2 at2 lt2; (try simp at at2); have BS2 : Blk w2 w.heap.size (stC s (Value.slice Fa s.fl.length Fc) (Value.slice (some ⟨gN, 0, none⟩) (s.sn.length + 1) cN)) := (by (focus (repeat (with_reducible first | exact KS.out | exact KM.out | exact KZ.out | exact Blk.new _ _ _ | exact Blk.new1 _ _ _ _ | apply Blk.drew | apply Blk.alloc | refine Blk.grown ?_ grw1 ?_ | refine Blk.grown ?_ grw2 ?_ | omega)))); have cS2 := BS2.cell; have fS2 := BS2.frozen; have zS2 := BS2.lt; have KS2 := Lib.hid BS2; clear BS2))
      all_goals
        have HB2 : Below w.heap.size w w2 := by (focus (repeat (with_reducible first | exact KB.out | apply Below.drew | apply bl_alloc | refine bl_grown ?_ grw1 ?_ | refine bl_grown ?_ grw2 ?_ | omega)))
        have BZ2 : Blk w2 (w.heap.size + 1 + 1) zeroC := by (focus (repeat (with_reducible first | exact KS.out | exact KM.out | exact KZ.out | exact Blk.new _ _ _ | exact Blk.new1 _ _ _ _ | apply Blk.drew | apply Blk.alloc | refine Blk.grown ?_ grw1 ?_ | refine Blk.grown ?_ grw2 ?_ | omega)))
        have HB3 := bl_set HB2 (Nat.le_refl _) 12 (Value.slice (some ⟨g2, 0, none⟩) (s.fl.length + 1) cap2)
        have RG := own_row own2
        have RN2 : RowAt w2 (Value.slice (some ⟨gN, 0, none⟩) (s.sn.length + 1) cN) (s.sn.length + 1) (s.sn.map (Value.int .i64) ++ [.int .i64 s.now]) := by
          focus (repeat (with_reducible first | exact KRN.out | apply RowAt.drew | apply RowAt.alloc | refine RowAt.grownOld ?_ grw1 ?_ | refine RowAt.grownOld ?_ grw2 ?_))
          all_goals (intro b hb; simp [Value.ownBlock] at hb; omega)
        go_wp2_with fail
        go_meet
        exact ⟨g2, cap2, Blk.cast (KS2.out.set 12 _) (set_F _ _ _ _), BZ2.other (by omega) _ _, HB3, by omega, RG.setOther (fun b hb => by simp [Value.ownBlock] at hb; omega), RN2.setOther (fun b hb => by simp [Value.ownBlock] at hb; omega)⟩
    case rest =>
      obtain ⟨gF, cF, BS, BZ, HB, hgF, RF, RN⟩ := hcut
      have hz0 : zeroC.size = 96 := stC_size zeroSt _ _ rfl
      go_wp2_with (first | (refine st_load rfl _ rfl w.heap.size rfl s _ _ BS h80 ?_) | (refine st_store rfl _ _ rfl (w.heap.size + 1 + 1) s _ _ _ _ _ _ rfl rfl zeroC BZ hz0 h80 ?_))
      have hsz : (stC s (Value.slice (some ⟨gF, 0, none⟩) (s.fl.length + 1) cF) (Value.slice (some ⟨gN, 0, none⟩) (s.sn.length + 1) cN)).size = zeroC.size := by rw [stC_size _ _ _ h80, hz0]
      refine bodyPost_ret (st_result rfl _ _ (w.heap.size + 1 + 1) s _ _ rfl (BZ.setAll _ hsz) h80) rfl ⟨_, rfl, ⟨_, _, rfl, h80, ?_, ?_⟩, bl_sets (by omega) _ _ _ HB, own_gen (own_fresh (by omega)) (own_fresh (by omega))⟩
      · have := RF.setAllOther (b' := w.heap.size + 1 + 1) (fun b hb => by simp [Value.ownBlock] at hb; omega) 0 (stC s (Value.slice (some ⟨gF, 0, none⟩) (s.fl.length + 1) cF) (Value.slice (some ⟨gN, 0, none⟩) (s.sn.length + 1) cN)).toList
        simpa [reqS, mC] using this
      · have := RN.setAllOther (b' := w.heap.size + 1 + 1) (fun b hb => by simp [Value.ownBlock] at hb; omega) 0 (stC s (Value.slice (some ⟨gF, 0, none⟩) (s.fl.length + 1) cF) (Value.slice (some ⟨gN, 0, none⟩) (s.sn.length + 1) cN)).toList
        simpa [reqS] using this

end Go.Proofs.Ytmgnpjaemjpamaa
