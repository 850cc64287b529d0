/- flight, the message taken out. -/
import Derived.Test.YtmgnpjaemjpamaaAF
import Derived.Test.YtmgnpjaemjpamaaAE
set_option linter.unusedSimpArgs false
set_option linter.unusedVariables false
namespace Go.Proofs.Ytmgnpjaemjpamaa
open Go.RowKit
attribute [local go_sem] st0 st1 st2 st3 st4 st5 st6 st7 st8 st9 st10 st11 st12 st13 st14 st95


set_option maxRecDepth 100000 in
set_option maxHeartbeats 8000000 in
theorem fly_go (w : World) (v : Value) (s : SS) (n kind site which : Nat) (hS : StAt w v s) (hI : Inv n s) (hn : n ≤ 100) (h2 : s.fl.length ≤ 1000) (h0 : ¬ (s.fl.length : Int) = 0) (k : Nat) (m : Ms) (hm : s.fl[k]? = some m)
    (hwk : (wrap64 (which : Int)).tmod (s.fl.length : Int) = (k : Int)) (hk4 : ¬ (kind : Int) % 7 = 4) (hk5 : ¬ (kind : Int) % 7 = 5) :
    Calls Try.prog 31 #[v, evV kind site which] w (RetS w v (rcvS { s with fl := s.fl.take k ++ s.fl.drop (k + 1) } m)) := by
  unfold evV
  obtain ⟨F, N, rfl, h80, hF, hN⟩ := hS
  obtain ⟨Na, Nc, rfl⟩ := hN.form
  obtain ⟨bF, Fc, rfl, hbF, hcF, hFc⟩ : ∃ b c, F = .slice (some ⟨b, 0, none⟩) s.fl.length c ∧ b < w.heap.size ∧ (∀ j u, (s.fl.flatMap mC)[j]? = some u → w.cell? ⟨b, j, none⟩ = some u) ∧ s.fl.length ≤ c := by
    rcases hF with ⟨h, _⟩ | h
    · exact absurd (by omega) h0
    · exact h
  have hkl : k < s.fl.length := by
    rcases Nat.lt_or_ge k s.fl.length with h | h
    · exact h
    · rw [List.getElem?_eq_none h] at hm; cases hm
  have hk1 : ¬ (s.fl.length : Int) ≤ (k : Int) := by omega
  have hk2 : ¬ s.fl.length ≤ k := by omega
  have hk3 : ¬ (k : Int) < 0 := by omega
  have HF := Lib.hid hF
  have HN := Lib.hid hN
  clear hF hN
  have hz58 := z58
  go_enter Try.func31, Try.ntmps31
  go_upto_region 4 with (fail)
  obtain ⟨W0, hW⟩ : ∃ W0, W0 = (((w.alloc (Obj.cells (stC s (Value.slice (some ⟨bF, 0, none⟩) s.fl.length Fc) (Value.slice Na s.sn.length Nc)) 58)).alloc (Obj.cells #[Value.int IntKind.u8 kind, Value.int IntKind.u8 site, Value.int IntKind.u8 which] 62)).alloc (Obj.cells zeroC 58)) := ⟨_, rfl⟩
  rw [← hW]
  have BS : Blk W0 w.heap.size (stC s (Value.slice (some ⟨bF, 0, none⟩) s.fl.length Fc) (Value.slice Na s.sn.length Nc)) := by rw [hW]; exact ((Blk.new _ _ _).alloc _).alloc _
  have BX : Blk W0 (w.heap.size + 1) #[Value.int IntKind.u8 kind, Value.int IntKind.u8 site, Value.int IntKind.u8 which] := by rw [hW]; exact (Blk.new1 _ _ _ _).alloc _
  have BZ : Blk W0 (w.heap.size + 1 + 1) zeroC := by rw [hW]; exact Blk.new2 _ _ _ _ _
  have HB : Below w.heap.size w W0 := by rw [hW]; exact bl_alloc (bl_alloc (bl_alloc (Below.refl _ _) _) _) _
  have hcW : ∀ j u, (s.fl.flatMap mC)[j]? = some u → W0.cell? ⟨bF, j, none⟩ = some u := fun j u hu => by rw [HB.cell (p := ⟨bF, j, none⟩) hbF]; exact hcF j u hu
  clear hW
  have m0 : _ = some (Value.int .i64 m.k) := hcW (k * 8 + 0) _ (flat_at _ k m hm 0 (by decide))
  have m1 : _ = some (Value.int .i64 m.f) := hcW (k * 8 + 1) _ (flat_at _ k m hm 1 (by decide))
  have m2 : _ = some (Value.int .i64 m.t) := hcW (k * 8 + 2) _ (flat_at _ k m hm 2 (by decide))
  have m3 : _ = some (Value.int .i64 m.n) := hcW (k * 8 + 3) _ (flat_at _ k m hm 3 (by decide))
  have m4 : _ = some (Value.int .i64 m.v) := hcW (k * 8 + 4) _ (flat_at _ k m hm 4 (by decide))
  have m5 : _ = some (Value.int .i64 m.e) := hcW (k * 8 + 5) _ (flat_at _ k m hm 5 (by decide))
  have m6 : _ = some (Value.slice none 0 0) := hcW (k * 8 + 6) _ (flat_at _ k m hm 6 (by decide))
  have m7 : _ = some (Value.slice none 0 0) := hcW (k * 8 + 7) _ (flat_at _ k m hm 7 (by decide))
  rw [Nat.add_zero] at m0
  have cS := BS.cell
  have cX := BX.cell
  have zS := BS.lt
  have zX := BX.lt
  have zZ := BZ.lt
  have zB := HB.size
  have KS := Lib.hid BS
  have KX := Lib.hid BX
  have KZ := Lib.hid BZ
  have KB := Lib.hid HB
  have KC := Lib.hid hcW
  have hok : MsgOk n s m := hI.msgs m (List.mem_of_getElem? hm)
  clear BS BX BZ HB hcW hcF
  go_upto_region 6 with (fail)
  obtain ⟨W1, hW1⟩ : ∃ W1, W1 = W0.alloc (Obj.cells #[.int .i64 m.k, .int .i64 m.f, .int .i64 m.t, .int .i64 m.n, .int .i64 m.v, .int .i64 m.e, .slice none 0 0, .slice none 0 0] 27) := ⟨_, rfl⟩
  rw [← hW1]
  have BM1 : Blk W1 W0.heap.size #[.int .i64 m.k, .int .i64 m.f, .int .i64 m.t, .int .i64 m.n, .int .i64 m.v, .int .i64 m.e, .slice none 0 0, .slice none 0 0] := by rw [hW1]; exact Blk.new _ _ _
  have BS1 : Blk W1 w.heap.size (stC s (Value.slice (some ⟨bF, 0, none⟩) s.fl.length Fc) (Value.slice Na s.sn.length Nc)) := by rw [hW1]; exact KS.out.alloc _
  have BX1 : Blk W1 (w.heap.size + 1) #[.int .u8 kind, .int .u8 site, .int .u8 which] := by rw [hW1]; exact KX.out.alloc _
  have BZ1 : Blk W1 (w.heap.size + 1 + 1) zeroC := by rw [hW1]; exact KZ.out.alloc _
  have HB1 : Below w.heap.size w W1 := by rw [hW1]; exact bl_alloc KB.out _
  have KRF := Lib.hid (HF.out.below HB1)
  clear hwk hW1 cS cX m0 m1 m2 m3 m4 m5 m6 m7 KS KX KZ KB KC
  generalize W0.heap.size = mb at *
  have cS := BS1.cell
  have zS1 := BS1.lt
  have zM := BM1.lt
  have zZ1 := BZ1.lt
  have KS := Lib.hid BS1
  have KX := Lib.hid BX1
  have KZ := Lib.hid BZ1
  have KM := Lib.hid BM1
  have KB := Lib.hid HB1
  have hbF1 : bF < W1.heap.size := by omega
  clear BM1 BS1 BX1 BZ1 HB1
  have hc1 : ¬ (Fc : Int) < (k : Int) := by omega
  have hc2 : (k : Int) ≤ (Fc : Int) := by omega
  have hc3 : (0 : Int) ≤ (k : Int) := by omega
  have hc4 : (k : Int) + 1 ≤ (s.fl.length : Int) := by omega
  have hc5 : (0 : Int) ≤ (k : Int) + 1 := by omega
  have hc6 : (s.fl.length : Int) ≤ (Fc : Int) := by omega
  have hc8 : IntKind.i64.wrap ((k : Int) + 1) = (k : Int) + 1 := by rw [IntKind.wrap_i64]; omega
  refine wp_region_noPanic ?_
  refine wz_region (fun w' => w'.cell? ⟨w.heap.size, 12, none⟩ = some (Value.slice (some ⟨bF, 0, none⟩) s.fl.length Fc)) 13 (by kernel_rfl) ?_
  have hHeld : W1.drew.cell? ⟨w.heap.size, 12, none⟩ = some (Value.slice (some ⟨bF, 0, none⟩) s.fl.length Fc) := (cS 12).trans rfl
  refine wz_take (i := 1) (v := ?_) rfl (by kernel_rfl) (by kernel_rfl) (by kernel_rfl) (by kernel_rfl) (by decide) (fun _ _ _ h => h) (Or.inl ⟨by rfl, ?hy⟩) (by assumption) ?_
  case hy => (intro w hSw; (try dsimp only at hSw); go_simp; all_goals (with_reducible rfl))
  try simp only [Act.put, List.setIfInBounds_toArray, List.set_cons_zero, List.set_cons_succ]
  refine wz_take (i := 2) (v := ?_) rfl (by kernel_rfl) (by kernel_rfl) (by kernel_rfl) (by kernel_rfl) (by decide) (fun _ _ _ h => h) (Or.inl ⟨by rfl, ?hy⟩) (by assumption) ?_
  case hy => (intro w hSw; (try dsimp only at hSw); go_simp; all_goals (with_reducible rfl))
  try simp only [Act.put, List.setIfInBounds_toArray, List.set_cons_zero, List.set_cons_succ]
  refine wz_take (i := 3) (v := ?_) rfl (by kernel_rfl) (by kernel_rfl) (by kernel_rfl) (by kernel_rfl) (by decide) (fun _ _ _ h => h) (Or.inl ⟨by rfl, ?hy⟩) (by assumption) ?_
  case hy => (intro w hSw; (try dsimp only at hSw); go_simp; all_goals (with_reducible rfl))
  try simp only [Act.put, List.setIfInBounds_toArray, List.set_cons_zero, List.set_cons_succ]
  refine wz_take (i := 4) (v := ?_) rfl (by kernel_rfl) (by kernel_rfl) (by kernel_rfl) (by kernel_rfl) (by decide) (fun _ _ _ h => h) (Or.inl ⟨by rfl, ?hy⟩) (by assumption) ?_
  case hy => (intro w hSw; (try dsimp only at hSw); go_simp; all_goals (with_reducible rfl))
  try simp only [Act.put, List.setIfInBounds_toArray, List.set_cons_zero, List.set_cons_succ]
  refine wz_take (i := 6) (v := ?_) rfl (by kernel_rfl) (by kernel_rfl) (by kernel_rfl) (by kernel_rfl) (by decide) (fun _ _ _ h => h) (Or.inl ⟨by rfl, ?hy⟩) (by assumption) ?_
  case hy => (intro w hSw; (try dsimp only at hSw); go_simp; all_goals (with_reducible rfl))
  try simp only [Act.put, List.setIfInBounds_toArray, List.set_cons_zero, List.set_cons_succ]
  refine wz_take (i := 7) (v := ?_) rfl (by kernel_rfl) (by kernel_rfl) (by kernel_rfl) (by kernel_rfl) (by decide) (fun _ _ _ h => h) (Or.inl ⟨by rfl, ?hy⟩) (by assumption) ?_
  case hy => (intro w hSw; (try dsimp only at hSw); go_simp; all_goals (with_reducible rfl))
  try simp only [Act.put, List.setIfInBounds_toArray, List.set_cons_zero, List.set_cons_succ]
  refine wz_take (i := 8) (v := ?_) rfl (by kernel_rfl) (by kernel_rfl) (by kernel_rfl) (by kernel_rfl) (by decide) (fun _ _ _ h => h) (Or.inl ⟨by rfl, ?hy⟩) (by assumption) ?_
  case hy => (intro w hSw; (try dsimp only at hSw); go_simp; all_goals (with_reducible rfl))
  try simp only [Act.put, List.setIfInBounds_toArray, List.set_cons_zero, List.set_cons_succ]
  refine wz_take (i := 9) (v := ?_) rfl (by kernel_rfl) (by kernel_rfl) (by kernel_rfl) (by kernel_rfl) (by decide) (fun _ _ _ h => h) (Or.inl ⟨by rfl, ?hy⟩) (by assumption) ?_
  case hy => (intro w hSw; (try dsimp only at hSw); go_simp; all_goals (with_reducible rfl))
  try simp only [Act.put, List.setIfInBounds_toArray, List.set_cons_zero, List.set_cons_succ]
  refine wz_take (i := 10) (v := ?_) rfl (by kernel_rfl) (by kernel_rfl) (by kernel_rfl) (by kernel_rfl) (by decide) (fun _ _ _ h => h) (Or.inl ⟨by rfl, ?hy⟩) (by assumption) ?_
  case hy => (intro w hSw; (try dsimp only at hSw); go_simp; all_goals (with_reducible rfl))
  try simp only [Act.put, List.setIfInBounds_toArray, List.set_cons_zero, List.set_cons_succ]
  clear hc8
  refine wz_one (i := 0) (by kernel_rfl) rfl (fun K hK => ?_)
  go_simp
  refine hK.out _ _ (fun hz => (Blk.cell (b := w.heap.size) (cs := (stC s (Value.slice (some ⟨bF, 0, none⟩) s.fl.length Fc) (Value.slice Na s.sn.length Nc))) (by (focus (repeat (with_reducible first | exact KS.out | exact KX.out | exact KZ.out | exact KM.out | exact Blk.new _ _ _ | apply Blk.drew | apply Blk.alloc | refine Blk.grown ?_ grw1 ?_ | refine Blk.grown ?_ grw2 ?_ | omega)))) 12).trans rfl) ?_
  clear hK K
  try simp only [Act.put, List.setIfInBounds_toArray, List.set_cons_zero, List.set_cons_succ]
  refine wz_one (i := 5) (by kernel_rfl) rfl (fun K hK => ?_)
  (refine app_msgs rfl _ _ rfl w.heap.size _ _ 0 [] rfl (own_lit (cs := #[]) ?_ rfl ?_ (by decide)) (Value.slice (some ⟨bF, 0, none⟩) k Fc) k ((s.fl.take k).flatMap mC) rfl (src_take (row_cells (n := s.fl.length) (c := Fc) ?_ (by omega)) k (by omega) _) (by omega) ?_ ?_ ?_; (with_reducible first | exact alloc_drew_at _ _ | exact alloc_at _ _ | exact alloc_drew2_at _ _); (focus (first | omega | (simp; done) | (simp; omega))); (focus (repeat (with_reducible first | exact KRF.out | apply RowAt.drew | apply RowAt.alloc | refine RowAt.grownOld ?_ grw1 ?_ | (intro b hb; simp [Value.ownBlock] at hb; omega)))); (focus (first | omega | (simp; done) | (simp; omega))); (focus (first | omega | (simp; done) | (simp; omega))); intro g1 cap1 w1 own1 grw1 at1 lt1; simp only [Nat.zero_add, List.nil_append] at own1; (try simp at at1); have zg1 := grw1.size; (try simp at zg1); have BS1 : Blk w1 w.heap.size (stC s (Value.slice (some ⟨bF, 0, none⟩) s.fl.length Fc) (Value.slice Na s.sn.length Nc)) := (by (focus (repeat (with_reducible first | exact KS.out | exact KX.out | exact KZ.out | exact KM.out | exact Blk.new _ _ _ | apply Blk.drew | apply Blk.alloc | refine Blk.grown ?_ grw1 ?_ | refine Blk.grown ?_ grw2 ?_ | omega)))); have cS1 := BS1.cell; have fS1 := BS1.frozen; have zS1 := BS1.lt; clear BS1)
  refine hK.out _ _ (fun hz => (cS1 12).trans rfl) ?_
  clear hK K
  try simp only [Act.put, List.setIfInBounds_toArray, List.set_cons_zero, List.set_cons_succ, Nat.zero_add]
  refine wz_one (i := 11) (by kernel_rfl) rfl (fun K hK => ?_)
  (refine app_msgs rfl _ _ rfl w.heap.size _ _ _ ((s.fl.take k).flatMap mC) rfl ?_ (Value.slice (if Fc = k + 1 then some ⟨bF, 0, none⟩ else some ⟨bF, (k + 1) * 8, none⟩) (s.fl.length - (k + 1)) (Fc - (k + 1))) (s.fl.length - (k + 1)) ((s.fl.drop (k + 1)).flatMap mC) rfl (src_drop2 (row_cells (n := s.fl.length) (c := Fc) ?_ (by omega)) k (s.fl.length - (k + 1)) Fc (by omega) hFc _) (by omega) ?_ ?_ ?_; (with_reducible first | exact own1 | exact own1.alloc _); (focus (repeat (with_reducible first | exact KRF.out | apply RowAt.drew | apply RowAt.alloc | refine RowAt.grownOld ?_ grw1 ?_ | (intro b hb; simp [Value.ownBlock] at hb; omega)))); (focus (first | omega | (simp; done) | (simp; omega))); (focus (first | omega | (simp; done) | (simp; omega))); intro g2 cap2 w2 own2 grw2 at2 lt2; (try simp at at2); have BS2 : Blk w2 w.heap.size (stC s (Value.slice (some ⟨bF, 0, none⟩) s.fl.length Fc) (Value.slice Na s.sn.length Nc)) := (by (focus (repeat (with_reducible first | exact KS.out | exact KX.out | exact KZ.out | exact KM.out | exact Blk.new _ _ _ | apply Blk.drew | apply Blk.alloc | refine Blk.grown ?_ grw1 ?_ | refine Blk.grown ?_ grw2 ?_ | omega)))); have cS2 := BS2.cell; have fS2 := BS2.frozen; have zS2 := BS2.lt; have KS2 := Lib.hid BS2; clear BS2)
  refine hK.out _ _ (fun hz => (cS2 12).trans rfl) ?_
  clear hK K
  try simp only [Act.put, List.setIfInBounds_toArray, List.set_cons_zero, List.set_cons_succ]
  have hHeld : w2.cell? ⟨w.heap.size, 12, none⟩ = some (Value.slice (some ⟨bF, 0, none⟩) s.fl.length Fc) := (cS2 12).trans rfl
  refine wz_take (i := 12) (v := ?_) rfl (by kernel_rfl) (by kernel_rfl) (by kernel_rfl) (by kernel_rfl) (by decide) (fun _ _ _ h => h) (Or.inl ⟨by rfl, ?hy⟩) (by assumption) ?_
  case hy => (intro w hSw; (try dsimp only at hSw); go_simp; all_goals (with_reducible rfl))
  try simp only [Act.put, List.setIfInBounds_toArray, List.set_cons_zero, List.set_cons_succ]
  refine wz_one (i := 13) (by kernel_rfl) rfl (fun K hK => ?_)
  go_simp
  refine hK.out _ _ (fun hz => absurd rfl hz) ?_
  clear hK K
  try simp only [Act.put, List.setIfInBounds_toArray, List.set_cons_zero, List.set_cons_succ]
  refine wz_done (by kernel_rfl) ?_ _
  refine NoPanic.normal ?_
  generalize (if Fc = k + 1 then some (⟨bF, 0, none⟩ : Addr) else some ⟨bF, (k + 1) * 8, none⟩) = pp
  have HB2 : Below w.heap.size w w2 := by (focus (repeat (with_reducible first | exact KB.out | apply Below.drew | apply bl_alloc | refine bl_grown ?_ grw1 ?_ | refine bl_grown ?_ grw2 ?_ | omega)))
  have BX2 : Blk w2 (w.heap.size + 1) #[.int .u8 kind, .int .u8 site, .int .u8 which] := by (focus (repeat (with_reducible first | exact KS.out | exact KX.out | exact KZ.out | exact KM.out | exact Blk.new _ _ _ | apply Blk.drew | apply Blk.alloc | refine Blk.grown ?_ grw1 ?_ | refine Blk.grown ?_ grw2 ?_ | omega)))
  have BZ2 : Blk w2 (w.heap.size + 1 + 1) zeroC := by (focus (repeat (with_reducible first | exact KS.out | exact KX.out | exact KZ.out | exact KM.out | exact Blk.new _ _ _ | apply Blk.drew | apply Blk.alloc | refine Blk.grown ?_ grw1 ?_ | refine Blk.grown ?_ grw2 ?_ | omega)))
  have BM2 : Blk w2 mb #[.int .i64 m.k, .int .i64 m.f, .int .i64 m.t, .int .i64 m.n, .int .i64 m.v, .int .i64 m.e, .slice none 0 0, .slice none 0 0] := by (focus (repeat (with_reducible first | exact KS.out | exact KX.out | exact KZ.out | exact KM.out | exact Blk.new _ _ _ | apply Blk.drew | apply Blk.alloc | refine Blk.grown ?_ grw1 ?_ | refine Blk.grown ?_ grw2 ?_ | omega)))
  have hg2 : w.heap.size + 1 + 1 < g2 := by omega
  have RG := own_row own2
  have BS := Blk.cast (KS2.out.set 12 (Value.slice (some ⟨g2, 0, none⟩) (k + (s.fl.length - (k + 1))) cap2)) (set_F _ _ _ _)
  have BX := BX2.other (show w.heap.size + 1 ≠ w.heap.size by omega) 12 (Value.slice (some ⟨g2, 0, none⟩) (k + (s.fl.length - (k + 1))) cap2)
  have BZ := BZ2.other (show w.heap.size + 1 + 1 ≠ w.heap.size by omega) 12 (Value.slice (some ⟨g2, 0, none⟩) (k + (s.fl.length - (k + 1))) cap2)
  have BM := BM2.other (show mb ≠ w.heap.size by omega) 12 (Value.slice (some ⟨g2, 0, none⟩) (k + (s.fl.length - (k + 1))) cap2)
  have HB := bl_set HB2 (Nat.le_refl _) 12 (Value.slice (some ⟨g2, 0, none⟩) (k + (s.fl.length - (k + 1))) cap2)
  have RF := RG.setOther (b' := w.heap.size) (i := 12) (v := (Value.slice (some ⟨g2, 0, none⟩) (k + (s.fl.length - (k + 1))) cap2)) (fun b hb => by simp [Value.ownBlock] at hb; omega)
  have RN := HN.out.below HB
  clear at1 at2 lt1 lt2 zg1 hHeld cS1 fS1 zS1 hm hc1 hc2 hc3 hc4 hc5 hc6 HB2 BX2 BZ2 BM2 RG KS2 cS2 fS2 zS2 own2 grw2 own1 grw1
  generalize w2.setCell ⟨w.heap.size, 12, none⟩ (Value.slice (some ⟨g2, 0, none⟩) (k + (s.fl.length - (k + 1))) cap2) = wc at BS BX BZ BM HB RF RN ⊢
  have hz0 : zeroC.size = 96 := stC_size zeroSt _ _ rfl
  have cS := BS.cell
  have cX := BX.cell
  have cM := BM.cell
  have zS2 := BS.lt
  have zM2 := BM.lt
  have zZ2 := BZ.lt
  have zB2 := HB.size
  have KS := Lib.hid BS
  have KX := Lib.hid BX
  have KZ := Lib.hid BZ
  have KM := Lib.hid BM
  have KB := Lib.hid HB
  have hnl : Hid (k + (s.fl.length - (k + 1)) = (s.fl.take k ++ s.fl.drop (k + 1)).length) := Lib.hid (by rw [List.length_append, List.length_take, List.length_drop]; omega)
  have RF' : RowAt wc (Value.slice (some ⟨g2, 0, none⟩) (k + (s.fl.length - (k + 1))) cap2) (s.fl.take k ++ s.fl.drop (k + 1)).length ((s.fl.take k ++ s.fl.drop (k + 1)).flatMap mC) := by rw [List.flatMap_append, ← hnl.out]; exact RF
  have KRF := Lib.hid RF'
  have KRN := Lib.hid RN
  clear BS BX BZ BM HB RF RN RF'
  have hI1 : Inv n { s with fl := s.fl.take k ++ s.fl.drop (k + 1) } := inv_sub hI _ (fun x hx => by
    rcases List.mem_append.mp hx with hx | hx
    · exact List.mem_of_mem_take hx
    · exact List.mem_of_mem_drop hx)
  have hok1 : MsgOk n { s with fl := s.fl.take k ++ s.fl.drop (k + 1) } m := hok.on (Nat.le_refl _) ⟨[], by simp⟩ (fun _ _ o => o) (fun _ _ _ _ b _ => .inr b) (fun x hx => (hI.sent x hx).2)
  have hl1 : (s.fl.take k ++ s.fl.drop (k + 1)).length ≤ 1000 := by rw [← hnl.out]; omega
  have hst1 : Hid (StAt wc (.agg (stC s (Value.slice (some ⟨g2, 0, none⟩) (k + (s.fl.length - (k + 1))) cap2) (Value.slice Na s.sn.length Nc))) { s with fl := s.fl.take k ++ s.fl.drop (k + 1) }) := Lib.hid ⟨_, _, congrArg Value.agg (stC_fl s _ _ _), h80, KRF.out, KRN.out⟩
  have hcall : Hid (Calls Try.prog 45 #[.agg (stC s (Value.slice (some ⟨g2, 0, none⟩) (k + (s.fl.length - (k + 1))) cap2) (Value.slice Na s.sn.length Nc)), .agg #[.int .i64 m.k, .int .i64 m.f, .int .i64 m.t, .int .i64 m.n, .int .i64 m.v, .int .i64 m.e, .slice none 0 0, .slice none 0 0]] wc (RetS wc (.agg (stC s (Value.slice (some ⟨g2, 0, none⟩) (k + (s.fl.length - (k + 1))) cap2) (Value.slice Na s.sn.length Nc))) (rcvS { s with fl := s.fl.take k ++ s.fl.drop (k + 1) } m))) := Lib.hid (rcv_c wc _ _ n m hst1.out hI1 hn hok1 hl1)
  have hg2n : ∀ b, rowsOf (.agg (stC s (Value.slice (some ⟨g2, 0, none⟩) (k + (s.fl.length - (k + 1))) cap2) (Value.slice Na s.sn.length Nc))) b → b ≠ w.heap.size + 1 + 1 ∧ (w.heap.size ≤ b ∨ rowsOf (.agg (stC s (Value.slice (some ⟨bF, 0, none⟩) s.fl.length Fc) (Value.slice Na s.sn.length Nc))) b) := fun b hb => by
    rcases rows_of hb with h | h
    · simp [Value.ownBlock] at h; exact ⟨by omega, .inl (by omega)⟩
    · have := HN.out.own h; exact ⟨by omega, .inr (rows_N h)⟩
  have hG2 := Lib.hid hg2n
  clear hg2n hI1 hok1 hl1 hok hI
  generalize rcvS { s with fl := s.fl.take k ++ s.fl.drop (k + 1) } m = s9 at *
  go_upto_region 9 with (fail)
  go_wp2_with (first | (refine st_load rfl _ rfl w.heap.size rfl s _ _ KS.out h80 ?_) | (go_at_call 45; refine hcall.out.mono ?_; rintro r w1 ⟨v1, rfl, ⟨F1, N1, rfl, h81, hF1, hN1⟩, hb, hown⟩; obtain ⟨Fa1, Fc1, rfl⟩ := hF1.form; obtain ⟨Na1, Nc1, rfl⟩ := hN1.form; have HF1 := Lib.hid hF1; have HN1 := Lib.hid hN1; have HO1 := Lib.hid hown; have HB1 := Lib.hid (bl_trans KB.out hb); have BZ1 := Blk.below KZ.out hb; have zZ1 := BZ1.lt; have KZ1 := Lib.hid BZ1; clear hF1 hN1 hb hown BZ1) | (refine st_store rfl _ _ rfl (w.heap.size + 1 + 1) s9 _ _ _ _ _ _ rfl rfl zeroC KZ1.out hz0 h81 ?_))
  have hsz : (stC s9 (Value.slice Fa1 s9.fl.length Fc1) (Value.slice Na1 s9.sn.length Nc1)).size = zeroC.size := by rw [stC_size _ _ _ h81, hz0]
  have HB3 := bl_sets (B := w.heap.size) (b := w.heap.size + 1 + 1) (a := w) (by omega) (stC s9 (Value.slice Fa1 s9.fl.length Fc1) (Value.slice Na1 s9.sn.length Nc1)).toList 0 w1 HB1.out
  have hO2 : ∀ b, rowsOf (.agg (stC s9 (Value.slice Fa1 s9.fl.length Fc1) (Value.slice Na1 s9.sn.length Nc1))) b → b ≠ w.heap.size + 1 + 1 ∧ (w.heap.size ≤ b ∨ rowsOf (.agg (stC s (Value.slice (some ⟨bF, 0, none⟩) s.fl.length Fc) (Value.slice Na s.sn.length Nc))) b) := fun b hb => by
    rcases HO1.out b hb with h | h
    · exact ⟨by omega, .inl (by omega)⟩
    · exact hG2.out b h
  have HF3 := HF1.out.setAllOther (b' := w.heap.size + 1 + 1) (fun b hb => (hO2 b (rows_F hb)).1) 0 (stC s9 (Value.slice Fa1 s9.fl.length Fc1) (Value.slice Na1 s9.sn.length Nc1)).toList
  have HN3 := HN1.out.setAllOther (b' := w.heap.size + 1 + 1) (fun b hb => (hO2 b (rows_N hb)).1) 0 (stC s9 (Value.slice Fa1 s9.fl.length Fc1) (Value.slice Na1 s9.sn.length Nc1)).toList
  have BZ3 := KZ1.out.setAll _ hsz
  exact bodyPost_ret (st_result rfl _ _ (w.heap.size + 1 + 1) s9 _ _ rfl BZ3 h81) rfl ⟨_, rfl, ⟨_, _, rfl, h81, HF3, HN3⟩, HB3, fun b hb => (hO2 b hb).2⟩


end Go.Proofs.Ytmgnpjaemjpamaa
