/- The contract of State.flight. -/
import Derived.Test.YtmgnpjaemjpamaaX2
set_option linter.unusedSimpArgs false
set_option linter.unusedVariables false
namespace Go.Proofs.Ytmgnpjaemjpamaa
open Go.RowKit
attribute [local go_sem] st0 st1 st2 st3 st4 st5 st6 st7 st8 st9 st10 st11 st12 st13 st14 st95

def evV (kind site which : Nat) : Value := .agg #[.int .u8 kind, .int .u8 site, .int .u8 which]

theorem flat_at (l : List Ms) : ∀ (k : Nat) (m : Ms), l[k]? = some m → ∀ i, i < 8 → (l.flatMap mC)[k * 8 + i]? = (mC m)[i]? := by
  induction l with
  | nil => intro k m h; simp at h
  | cons a r ih =>
    intro k m h i hi
    rw [List.flatMap_cons]
    cases k with
    | zero =>
      simp at h; subst h
      rw [List.getElem?_append_left (by simp [mC]; omega), Nat.zero_mul, Nat.zero_add]
    | succ k =>
      simp at h
      rw [List.getElem?_append_right (by simp [mC]; omega), ← ih k m h i hi]
      congr 1
      simp [mC]; omega
theorem flat_take (l : List Ms) : ∀ (k : Nat), (l.take k).flatMap mC = (l.flatMap mC).take (k * 8) := by
  induction l with
  | nil => intro k; simp
  | cons a r ih =>
    intro k
    cases k with
    | zero => simp
    | succ k =>
      have h8 : (mC a).length = 8 := rfl
      rw [List.take_succ_cons, List.flatMap_cons, List.flatMap_cons, ih k, List.take_append, h8, List.take_of_length_le (l := mC a) (by rw [h8]; omega), show (k + 1) * 8 - 8 = k * 8 from by omega]
theorem flat_drop (l : List Ms) : ∀ (k : Nat), (l.drop k).flatMap mC = (l.flatMap mC).drop (k * 8) := by
  induction l with
  | nil => intro k; simp
  | cons a r ih =>
    intro k
    cases k with
    | zero => simp
    | succ k =>
      have h8 : (mC a).length = 8 := rfl
      rw [List.drop_succ_cons, List.flatMap_cons, ih k, List.drop_append, h8, List.drop_of_length_le (l := mC a) (by rw [h8]; omega), show (k + 1) * 8 - 8 = k * 8 from by omega, List.nil_append]

theorem src_take {w : World} {b : Nat} {l : List Ms} (hc : ∀ j u, (l.flatMap mC)[j]? = some u → w.cell? ⟨b, j, none⟩ = some u) (k : Nat) (hk : k ≤ l.length) (c : Nat) :
    SrcAt w (.slice (some ⟨b, 0, none⟩) k c) k 8 ((l.take k).flatMap mC) := by
  rcases Nat.eq_zero_or_pos k with rfl | h0
  · exact .inl ⟨rfl, by simp, _, _, rfl⟩
  · refine .inr ⟨h0, _, _, rfl, ?_, fun j u hu => ?_, flat_one _⟩
    · rw [flat_len, List.length_take]; congr 1; omega
    · rw [Addr.add_mid, Nat.zero_add]
      refine hc j u ?_
      rw [flat_take, List.getElem?_take] at hu
      split at hu
      · exact hu
      · cases hu
theorem src_drop {w : World} {b : Nat} {l : List Ms} (hc : ∀ j u, (l.flatMap mC)[j]? = some u → w.cell? ⟨b, j, none⟩ = some u) (k n : Nat) (hn : k + n = l.length) (c o : Nat) (ho : 0 < n → o = k * 8) (a : Option Addr) (ha : a = some ⟨b, o, none⟩) :
    SrcAt w (.slice a n c) n 8 ((l.drop k).flatMap mC) := by
  subst ha
  rcases Nat.eq_zero_or_pos n with rfl | h0
  · exact .inl ⟨rfl, by rw [List.drop_of_length_le (by omega)]; rfl, _, _, rfl⟩
  · refine .inr ⟨h0, _, _, rfl, ?_, fun j u hu => ?_, flat_one _⟩
    · rw [flat_len, List.length_drop]; congr 1; omega
    · rw [Addr.add_mid, ho h0]
      refine hc (k * 8 + j) u ?_
      rw [flat_drop, List.getElem?_drop] at hu
      exact hu

/-- Behind the statement of flight that takes the message out. -/
def FlyMid (w : World) (s : SS) (ev mc : Array Value) (mb : Nat) (N : Value) (n' : Nat) (cs : List Value) (w' : World) : Prop :=
  ∃ g c, Blk w' w.heap.size (stC s (.slice (some ⟨g, 0, none⟩) n' c) N) ∧ Blk w' (w.heap.size + 1) ev ∧ Blk w' (w.heap.size + 1 + 1) zeroC ∧ Blk w' mb mc ∧ Below w.heap.size w w' ∧ w.heap.size + 1 + 1 < g ∧
    RowAt w' (.slice (some ⟨g, 0, none⟩) n' c) n' cs ∧ RowAt w' N s.sn.length (s.sn.map (Value.int .i64))

theorem rem_le {w : World} {v : Value} {n n' : Nat} {xs : List Value} (h : RowAt w v n xs) (e : n = n') : RowAt w v n' xs := e ▸ h
theorem stC_fl (s : SS) (F N : Value) (l : List Ms) : stC s F N = stC { s with fl := l } F N := rfl
theorem src_drop2 {w : World} {b : Nat} {l : List Ms} (hc : ∀ j u, (l.flatMap mC)[j]? = some u → w.cell? ⟨b, j, none⟩ = some u) (k n C : Nat) (hn : k + 1 + n = l.length) (hC : l.length ≤ C) (c : Nat) :
    SrcAt w (.slice (if C = k + 1 then some ⟨b, 0, none⟩ else some ⟨b, (k + 1) * 8, none⟩) n c) n 8 ((l.drop (k + 1)).flatMap mC) := by
  split
  · exact src_drop hc (k + 1) n hn c 0 (fun h => by omega) _ rfl
  · exact src_drop hc (k + 1) n hn c _ (fun _ => rfl) _ rfl
theorem alloc_drew_at (w : World) (o : Obj) : (w.alloc o).drew.heap[w.heap.size]? = some o := alloc_at w o
theorem alloc_drew2_at (w : World) (o : Obj) : (w.drew.alloc o).heap[w.heap.size]? = some o := alloc_at w.drew o
theorem row_cells {w : World} {b n c : Nat} {xs : List Value} (h : RowAt w (.slice (some ⟨b, 0, none⟩) n c) n xs) (hn : 0 < n) : ∀ j u, xs[j]? = some u → w.cell? ⟨b, j, none⟩ = some u := by
  rcases h with ⟨h, _⟩ | ⟨b', c', h, _, h3, _⟩
  · omega
  · injection h with h _ _; injection h with h; injection h with h; subst h; exact h3
theorem rows_grown {w w' : World} {b g : Nat} {xs : List Value} (h : ∀ j u, xs[j]? = some u → w.cell? ⟨b, j, none⟩ = some u) (hb : b < w.heap.size) (hg : w.grownBy w' (some g)) (hne : b ≠ g) : ∀ j u, xs[j]? = some u → w'.cell? ⟨b, j, none⟩ = some u :=
  fun j u hu => by rw [World.cell?_of_block (w := w) (hg.block b hb (by simpa using hne))]; exact h j u hu
set_option maxRecDepth 100000 in
set_option maxHeartbeats 8000000 in
theorem fly_nil (w : World) (v : Value) (s : SS) (kind site which : Nat) (hS : StAt w v s) (h0 : s.fl.length = 0) :
    Calls Try.prog 31 #[v, evV kind site which] w (RetS w v s) := by
  unfold evV
  obtain ⟨F, N, rfl, h80, hF, hN⟩ := hS
  obtain ⟨Fa, Fc, rfl⟩ := hF.form
  obtain ⟨Na, Nc, rfl⟩ := hN.form
  rw [h0] at hF ⊢
  have HF := Lib.hid hF
  have HN := Lib.hid hN
  clear hF hN
  have hz58 := z58
  go_enter Try.func31, Try.ntmps31
  go_upto_region 1 with (fail)
  obtain ⟨W0, hW⟩ : ∃ W0, W0 = (((w.alloc (Obj.cells (stC s (Value.slice Fa 0 Fc) (Value.slice Na s.sn.length Nc)) 58)).alloc (Obj.cells #[.int .u8 kind, .int .u8 site, .int .u8 which] 62)).alloc (Obj.cells zeroC 58)) := ⟨_, rfl⟩
  rw [← hW]
  have BS : Blk W0 w.heap.size (stC s (Value.slice Fa 0 Fc) (Value.slice Na s.sn.length Nc)) := by rw [hW]; exact ((Blk.new _ _ _).alloc _).alloc _
  have BZ : Blk W0 (w.heap.size + 1 + 1) zeroC := by rw [hW]; exact Blk.new2 _ _ _ _ _
  have HB : Below w.heap.size w W0 := by rw [hW]; exact bl_alloc (bl_alloc (bl_alloc (Below.refl _ _) _) _) _
  clear hW
  have cS := BS.cell
  have zS := BS.lt
  have KS := Lib.hid BS
  have KZ := Lib.hid BZ
  have KB := Lib.hid HB
  clear BS BZ HB
  have hz0 : zeroC.size = 96 := stC_size zeroSt _ _ rfl
  go_wp2_with (first | (refine st_load rfl _ rfl w.heap.size rfl s _ _ KS.out h80 ?_) | (refine st_store rfl _ _ rfl (w.heap.size + 1 + 1) s _ _ _ _ _ _ rfl rfl zeroC KZ.out hz0 h80 ?_))
  have hsz : (stC s (Value.slice Fa 0 Fc) (Value.slice Na s.sn.length Nc)).size = zeroC.size := by rw [stC_size _ _ _ h80, hz0]
  have HB3 := bl_sets (B := w.heap.size) (b := w.heap.size + 1 + 1) (a := w) (by omega) (stC s (Value.slice Fa 0 Fc) (Value.slice Na s.sn.length Nc)).toList 0 W0 KB.out
  have HF3 := HF.out.below HB3
  have HN3 := HN.out.below HB3
  have BZ3 := KZ.out.setAll _ hsz
  exact bodyPost_ret (st_result rfl _ _ (w.heap.size + 1 + 1) s _ _ rfl BZ3 h80) rfl ⟨_, rfl, ⟨_, _, rfl, h80, by rw [h0]; exact HF3, HN3⟩, HB3, own_gen own_F own_N⟩

end Go.Proofs.Ytmgnpjaemjpamaa
