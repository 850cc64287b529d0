/- The contract of State.receive: a message for the witness. -/
import Derived.Test.YtmgnpjaemjpamaaAA
set_option linter.unusedSimpArgs false
set_option linter.unusedVariables false
namespace Go.Proofs.Ytmgnpjaemjpamaa
open Go.RowKit
attribute [local go_sem] st95 st0 st1 st2 st3 st4 st5 st6 st7 st8 st9 st10 st11 st12 st13 st14

set_option maxRecDepth 10000 in
theorem set_own (s : SS) (F N : Value) (j : Nat) (hj : j < s.ow.length) (x : Int) : (stC s F N).setIfInBounds (15 + j) (.int .i64 x) = stC { s with ow := s.ow.set j x } F N := by
  rw [Nat.add_comm]
  simp only [stC, stL, List.setIfInBounds_toArray, List.set_cons_succ]
  rw [List.set_append_left _ _ (by simpa using hj), List.map_set]
set_option maxRecDepth 100000 in
set_option maxHeartbeats 8000000 in
theorem rcv_own (w : World) (v : Value) (s : SS) (k f n v_ e : Int) (E' H' U' : Int) (j : Nat) (v2 : Int) (hS : StAt w v s) (h2 : s.fl.length ≤ 1000) (hrt : s.rt = true) (hE : s.E ≤ E') (hf1 : wrap64 (f + 1) = f + 1) (hf2 : ¬ f + 1 = 0) (hj : j < 80) (hj1 : (j : Int) < 80) (hj0 : 0 ≤ (j : Int)) (ho : s.ow.getD j 0 = 0 ∨ s.ow.getD j 0 = f + 1) (hh : handleS s.E s.H s.U s.now 20 k f e = ((E', H', U'), some (16, (j : Int), v2))) :
    Calls Try.prog 45 #[v, .agg #[.int .i64 k, .int .i64 f, .int .i64 4, .int .i64 n, .int .i64 v_, .int .i64 e, .slice none 0 0, .slice none 0 0]] w (RetS w v { s with E := E', H := H', U := U', fl := s.fl ++ [⟨16, 4, f, n, v2, (j : Int)⟩], rt := true, ow := s.ow.set j (f + 1) }) := by
  obtain ⟨F, N, rfl, h80, hF, hN⟩ := hS
  obtain ⟨Fa, Fc, rfl⟩ := hF.form
  obtain ⟨Na, Nc, rfl⟩ := hN.form
  have HF := Lib.hid hF
  have HN := Lib.hid hN
  have HH := Lib.hid hh
  clear hF hN hh
  have hz58 := z58
  go_enter Try.func45, Try.ntmps45
  go_wp2_with (fail)
  obtain ⟨W0, hW⟩ : ∃ W0, W0 = (((w.alloc (Obj.cells (stC s (Value.slice Fa s.fl.length Fc) (Value.slice Na s.sn.length Nc)) 58)).alloc (Obj.cells #[.int .i64 k, .int .i64 f, .int .i64 4, .int .i64 n, .int .i64 v_, .int .i64 e, .slice none 0 0, .slice none 0 0] 27)).alloc (Obj.cells zeroC 58)) := ⟨_, rfl⟩
  rw [← hW]
  have BS : Blk W0 w.heap.size (stC s (Value.slice Fa s.fl.length Fc) (Value.slice Na s.sn.length Nc)) := by rw [hW]; exact ((Blk.new _ _ _).alloc _).alloc _
  have BM : Blk W0 (w.heap.size + 1) #[.int .i64 k, .int .i64 f, .int .i64 4, .int .i64 n, .int .i64 v_, .int .i64 e, .slice none 0 0, .slice none 0 0] := by rw [hW]; exact (Blk.new1 _ _ _ _).alloc _
  have BZ : Blk W0 (w.heap.size + 1 + 1) zeroC := by rw [hW]; exact Blk.new2 _ _ _ _ _
  have HB : Below w.heap.size w W0 := by rw [hW]; exact bl_alloc (bl_alloc (bl_alloc (Below.refl _ _) _) _) _
  have RF := HF.out.below HB
  have RN := HN.out.below HB
  clear hW
  have cS := BS.cell
  have cM := BM.cell
  have zS := BS.lt
  have KS := Lib.hid BS
  have KM := Lib.hid BM
  have KZ := Lib.hid BZ
  have KB := Lib.hid HB
  have KRF := Lib.hid RF
  have KRN := Lib.hid RN
  have zB := HB.size
  have zM := BM.lt
  have zZ := BZ.lt
  clear BS BM BZ HB RF RN
  go_upto_region 5 with (go_at_call 12; refine (hand_v s.E s.H s.U s.now 20 k f 4 n v_ e (.slice none 0 0) (.slice none 0 0) _ _ HH.out).mono ?_; rintro r w1 ⟨x, rfl, hx, hb⟩; have BS1 := KS.out.below hb; have KZ1 := Lib.hid (KZ.out.below hb); have cS1 := BS1.cell; have fS1 := BS1.frozen; have zS1 := BS1.lt; have zZ1 := KZ1.out.lt; have zH1 := hb.size; have KS1 := Lib.hid BS1; have KB1 := Lib.hid (bl_trans KB.out hb); have KRF1 := Lib.hid (KRF.out.below hb); have KRN1 := Lib.hid (KRN.out.below hb); obtain ⟨m6, hm6, hx1, hM⟩ := hx; subst hx1; have BA1 : Blk w1 m6 #[.int .i64 16, .int .i64 4, .int .i64 f, .int .i64 n, .int .i64 v2, .int .i64 (j : Int), .slice none 0 0, .slice none 0 0] := ⟨_, hM⟩; have zA1 := BA1.lt; have KA1 := Lib.hid BA1; clear BS1 BA1 hb hM)
  obtain ⟨W2, hW2⟩ : ∃ W2, W2 = ((((w1.setCell { block := w.heap.size, off := 0 } (Value.int IntKind.i64 E')).setCell { block := w.heap.size, off := 1 } (Value.int IntKind.i64 H')).setCell { block := w.heap.size, off := 2 } (Value.int IntKind.i64 U')).alloc (Obj.cells #[Value.int IntKind.i64 E', Value.int IntKind.i64 H', Value.int IntKind.i64 U'] 23)) := ⟨_, rfl⟩
  rw [← hW2]
  have BS2 : Blk W2 w.heap.size (stC { s with E := E', H := H', U := U' } (Value.slice Fa s.fl.length Fc) (Value.slice Na s.sn.length Nc)) := by rw [hW2]; exact Blk.cast ((((KS1.out.set 0 _).set 1 _).set 2 _).alloc _) (set_W _ _ _ _ _ _)
  have B62 : Blk W2 w1.heap.size #[.int .i64 E', .int .i64 H', .int .i64 U'] := by rw [hW2]; have := wit3 (((w1.setCell { block := w.heap.size, off := 0 } (Value.int IntKind.i64 E')).setCell { block := w.heap.size, off := 1 } (Value.int IntKind.i64 H')).setCell { block := w.heap.size, off := 2 } (Value.int IntKind.i64 U')) E' H' U'; simpa [World.setCell] using this
  have BZ2 : Blk W2 (w.heap.size + 1 + 1) zeroC := by rw [hW2]; exact (((KZ1.out.other (by omega) _ _).other (by omega) _ _).other (by omega) _ _).alloc _
  have HB2 : Below w.heap.size w W2 := by rw [hW2]; exact bl_alloc (bl_set (bl_set (bl_set KB1.out (Nat.le_refl _) _ _) (Nat.le_refl _) _ _) (Nat.le_refl _) _ _) _
  have RF2 := HF.out.below HB2
  have RN2 := HN.out.below HB2
  have z12 : w1.heap.size < W2.heap.size := B62.lt
  have BA2 : Blk W2 m6 #[.int .i64 16, .int .i64 4, .int .i64 f, .int .i64 n, .int .i64 v2, .int .i64 (j : Int), .slice none 0 0, .slice none 0 0] := by rw [hW2]; exact (((KA1.out.other (by omega) _ _).other (by omega) _ _).other (by omega) _ _).alloc _
  have zA2 := BA2.lt
  have KA2 := Lib.hid BA2
  clear BA2 KA1
  clear hW2 cS1 fS1 zS1 KRF1 KRN1 KS1 KZ1 KB1
  have cS2 := BS2.cell
  have fS2 := BS2.frozen
  have zS2 := BS2.lt
  have zZ2 := BZ2.lt
  have zB2 := HB2.size
  have KS2 := Lib.hid BS2
  have K62 := Lib.hid B62
  have KZ2 := Lib.hid BZ2
  have KB2 := Lib.hid HB2
  have KRF2 := Lib.hid RF2
  have KRN2 := Lib.hid RN2
  clear BS2 B62 BZ2 HB2 RF2 RN2
  go_cut [] (fun w' => RcvMid w w1.heap.size { s with E := E', H := H', U := U' } 1 (Value.slice Na s.sn.length Nc) [.int .i64 16, .int .i64 4, .int .i64 f, .int .i64 n, .int .i64 v2, .int .i64 (j : Int), .slice none 0 0, .slice none 0 0] E' H' U' w' ∧ Blk w' m6 #[.int .i64 16, .int .i64 4, .int .i64 f, .int .i64 n, .int .i64 v2, .int .i64 (j : Int), .slice none 0 0, .slice none 0 0])
  case first =>
    go_wp2_with (first | (refine app_msgs_l rfl _ _ rfl w.heap.size _ _ 0 [] rfl (own_lit (cs := #[]) ?_ rfl ?_ (by decide)) (Value.slice Fa s.fl.length Fc) s.fl.length (s.fl.flatMap mC) rfl (RowAt.src ?_ (flat_len _) (flat_one _)) (by omega) ?_ ?_ ?_; (first | exact alloc_at _ _ | exact alloc2_at _ _ _ | exact map_at _ _ _); (focus (first | omega | (simp; done) | (simp; omega))); (focus (repeat (with_reducible first | exact KRF2.out | apply RowAt.drew | apply RowAt.alloc))); (focus (first | omega | (simp; done) | (simp; omega))); (focus (first | omega | (simp; done) | (simp; omega))); intro g1 cap1 w1' own1 grw1 at1 lt1; simp only [Nat.zero_add, List.nil_append] at own1; (try simp at at1); have zg1 := grw1.size; (try simp at zg1); have BS1 : Blk w1' w.heap.size (stC { s with E := E', H := H', U := U' } (Value.slice Fa s.fl.length Fc) (Value.slice Na s.sn.length Nc)) := (by (focus (repeat (with_reducible first | exact KS2.out | exact KA2.out | exact K62.out | exact KZ2.out | exact Blk.new _ _ _ | exact Blk.new1 _ _ _ _ | apply Blk.drew | apply Blk.alloc | refine Blk.grown ?_ grw1 ?_ | refine Blk.grown ?_ grw2 ?_ | omega)))); have cS3 := BS1.cell; have fS3 := BS1.frozen; have zS3 := BS1.lt; clear BS1) | (refine app_msgs_l rfl _ _ rfl w.heap.size _ _ _ (s.fl.flatMap mC) rfl ?_ _ 1 [.int .i64 16, .int .i64 4, .int .i64 f, .int .i64 n, .int .i64 v2, .int .i64 (j : Int), .slice none 0 0, .slice none 0 0] rfl (src_msg1 (c' := 1) ?_) (by omega) ?_ ?_ ?_; (first | exact own1 | exact own1.alloc _); (focus (repeat (with_reducible first | exact KS2.out | exact KA2.out | exact K62.out | exact KZ2.out | exact Blk.new _ _ _ | exact Blk.new1 _ _ _ _ | apply Blk.drew | apply Blk.alloc | refine Blk.grown ?_ grw1 ?_ | refine Blk.grown ?_ grw2 ?_ | omega))); (focus (first | omega | (simp; done) | (simp; omega))); (focus (first | omega | (simp; done) | (simp; omega))); intro g2 cap2 w2' own2 grw2 at2 lt2; (try simp at at2); have BS2 : Blk w2' w.heap.size (stC { s with E := E', H := H', U := U' } (Value.slice Fa s.fl.length Fc) (Value.slice Na s.sn.length Nc)) := (by (focus (repeat (with_reducible first | exact KS2.out | exact KA2.out | exact K62.out | exact KZ2.out | exact Blk.new _ _ _ | exact Blk.new1 _ _ _ _ | apply Blk.drew | apply Blk.alloc | refine Blk.grown ?_ grw1 ?_ | refine Blk.grown ?_ grw2 ?_ | omega)))); have cS4 := BS2.cell; have fS4 := BS2.frozen; have zS4 := BS2.lt; have KS4 := Lib.hid BS2; clear BS2))
    all_goals
      have HB3 : Below w.heap.size w w2' := by (focus (repeat (with_reducible first | exact KB2.out | apply Below.drew | apply bl_alloc | refine bl_grown ?_ grw1 ?_ | refine bl_grown ?_ grw2 ?_ | omega)))
      have BZ3 : Blk w2' (w.heap.size + 1 + 1) zeroC := by (focus (repeat (with_reducible first | exact KS2.out | exact KA2.out | exact K62.out | exact KZ2.out | exact Blk.new _ _ _ | exact Blk.new1 _ _ _ _ | apply Blk.drew | apply Blk.alloc | refine Blk.grown ?_ grw1 ?_ | refine Blk.grown ?_ grw2 ?_ | omega)))
      have B63 : Blk w2' w1.heap.size #[.int .i64 E', .int .i64 H', .int .i64 U'] := by (focus (repeat (with_reducible first | exact KS2.out | exact KA2.out | exact K62.out | exact KZ2.out | exact Blk.new _ _ _ | exact Blk.new1 _ _ _ _ | apply Blk.drew | apply Blk.alloc | refine Blk.grown ?_ grw1 ?_ | refine Blk.grown ?_ grw2 ?_ | omega)))
      have HB4 := bl_set HB3 (Nat.le_refl _) 12 (Value.slice (some ⟨g2, 0, none⟩) (s.fl.length + 1) cap2)
      have RG := own_row own2
      have BA3 : Blk w2' m6 #[.int .i64 16, .int .i64 4, .int .i64 f, .int .i64 n, .int .i64 v2, .int .i64 (j : Int), .slice none 0 0, .slice none 0 0] := by (focus (repeat (with_reducible first | exact KS2.out | exact KA2.out | exact K62.out | exact KZ2.out | exact Blk.new _ _ _ | exact Blk.new1 _ _ _ _ | apply Blk.drew | apply Blk.alloc | refine Blk.grown ?_ grw1 ?_ | refine Blk.grown ?_ grw2 ?_ | omega)))
      go_meet
      exact ⟨⟨g2, cap2, Blk.cast (KS4.out.set 12 _) (set_F _ _ _ _), B63.other (by omega) _ _, BZ3.other (by omega) _ _, HB4, by omega, RG.setOther (fun b hb => by simp [Value.ownBlock] at hb; omega), HN.out.below HB4⟩, BA3.other (by omega) _ _⟩
  case rest =>
    obtain ⟨⟨gF, cF, BS, B6, BZ, HB, hgF, RF, RN⟩, BA⟩ := hcut
    have cS := BS.cell
    have fS := BS.frozen
    have zS := BS.lt
    have c6 := B6.cell
    have h95 := st95 { s with E := E', H := H', U := U' } (.slice (some ⟨gF, 0, none⟩) (s.fl.length + 1) cF) (Value.slice Na s.sn.length Nc) h80
    have KS := Lib.hid BS
    have KZ := Lib.hid BZ
    have KB := Lib.hid HB
    have KRF := Lib.hid RF
    have KRN := Lib.hid RN
    clear BS BZ HB RF RN B6
    have zN := KB.out.size
    have hz0 : zeroC.size = 96 := stC_size zeroSt _ _ rfl
    have KA := Lib.hid BA
    have zA := BA.lt
    clear BA
    go_wp2_with (fail)
    have B4 := Blk.cast (KS.out.set 95 (.bool true)) (set_rt _ _ _ (by exact h80) _)
    have BZ4 := KZ.out.other (show w.heap.size + 1 + 1 ≠ w.heap.size by omega) 95 (.bool true)
    have BA4 := KA.out.other (show m6 ≠ w.heap.size by omega) 95 (.bool true)
    have HB4 := bl_set KB.out (Nat.le_refl _) 95 (.bool true)
    have RF4 := KRF.out.setOther (i := 95) (v := .bool true) (fun b hb => by simp [Value.ownBlock] at hb; omega : ∀ b, _ → b ≠ w.heap.size)
    clear cS fS zS h95 KS KZ KB KRF KRN KA
    generalize wc.setCell ⟨w.heap.size, 95, none⟩ (.bool true) = W4 at B4 BZ4 BA4 HB4 RF4 ⊢
    have cS4 := B4.cell
    have fS4 := B4.frozen
    have zS4 := B4.lt
    have cA4 := BA4.cell
    have zA4 := BA4.lt
    have zZ4 := BZ4.lt
    have K4 := Lib.hid B4
    have KZ4 := Lib.hid BZ4
    have KA4 := Lib.hid BA4
    have KB4 := Lib.hid HB4
    have KRF4 := Lib.hid RF4
    clear B4 BZ4 BA4 HB4 RF4
    refine wp_loop_rounds 2 ?_
    rw [rounds_succ]
    have hO : ∀ F N, (stC { s with E := E', H := H', U := U', rt := true } F N)[15 + j]? = some (.int .i64 (s.ow.getD j 0)) := fun F N => st_own _ F N j (by show j < s.ow.length; omega)
    rcases ho with ho | ho <;> rw [ho] at hO
    all_goals (go_wp2_with (fail))
    all_goals
      have B5 := Blk.cast (K4.out.set 95 (.bool true)) (set_rt _ _ _ (by exact h80) _)
      have BZ5 := KZ4.out.other (show w.heap.size + 1 + 1 ≠ w.heap.size by omega) 95 (.bool true)
      have BA5 := KA4.out.other (show m6 ≠ w.heap.size by omega) 95 (.bool true)
      have HB5 := bl_set KB4.out (Nat.le_refl _) 95 (.bool true)
      have RF5 := KRF4.out.setOther (i := 95) (v := .bool true) (fun b hb => by simp [Value.ownBlock] at hb; omega : ∀ b, _ → b ≠ w.heap.size)
      clear cS4 fS4 zS4 zA4 zZ4 cA4 K4 KZ4 KB4 KRF4 KA4
      generalize W4.setCell ⟨w.heap.size, 95, none⟩ (.bool true) = W5 at B5 BZ5 BA5 HB5 RF5 ⊢
      have fS5 := B5.frozen
      have cS5 := B5.cell
      have zS5 := B5.lt
      have cA5 := BA5.cell
      have zA5 := BA5.lt
      have zZ5 := BZ5.lt
      have K5 := Lib.hid B5
      have KZ5 := Lib.hid BZ5
      have KA5 := Lib.hid BA5
      have KB5 := Lib.hid HB5
      have KRF5 := Lib.hid RF5
      clear B5 BZ5 BA5 HB5 RF5
      go_region_held3 (fun w' => ∀ o, w'.cell? ⟨m6, o, none⟩ = (#[.int .i64 16, .int .i64 4, .int .i64 f, .int .i64 n, .int .i64 v2, .int .i64 (j : Int), .slice none 0 0, .slice none 0 0] : Array Value)[o]?) (first | exact cA5 | (refine Blk.cell ?_; (focus (repeat (with_reducible first | exact KA5.out | exact Blk.new _ _ _ | apply Blk.drew | refine Blk.other ?_ ?_ _ _ | omega))); done)) (fail)
      go_wp2_with (fail)
      rw [rounds_succ]
      have B6 : Blk (W5.setCell ⟨w.heap.size, 15 + j, none⟩ (.int .i64 (f + 1))).drew w.heap.size (stC { s with E := E', H := H', U := U', fl := s.fl ++ [⟨16, 4, f, n, v2, (j : Int)⟩], rt := true, ow := s.ow.set j (f + 1) } (Value.slice (some ⟨gF, 0, none⟩) (s.fl.length + 1) cF) (Value.slice Na s.sn.length Nc)) := (Blk.cast (K5.out.set (15 + j) (.int .i64 (f + 1))) (set_own _ _ _ j (by show j < s.ow.length; omega) _)).drew
      have BZ6 : Blk (W5.setCell ⟨w.heap.size, 15 + j, none⟩ (.int .i64 (f + 1))).drew (w.heap.size + 1 + 1) zeroC := (KZ5.out.other (show w.heap.size + 1 + 1 ≠ w.heap.size by omega) (15 + j) (.int .i64 (f + 1))).drew
      have HB6 : Below w.heap.size w (W5.setCell ⟨w.heap.size, 15 + j, none⟩ (.int .i64 (f + 1))).drew := (bl_set KB5.out (Nat.le_refl _) (15 + j) (.int .i64 (f + 1))).drew
      have RF6 : RowAt (W5.setCell ⟨w.heap.size, 15 + j, none⟩ (.int .i64 (f + 1))).drew _ _ _ := (KRF5.out.setOther (i := 15 + j) (v := .int .i64 (f + 1)) (fun b hb => by simp [Value.ownBlock] at hb; omega : ∀ b, _ → b ≠ w.heap.size)).drew
      clear cS5 fS5 zS5 K5 KZ5 KB5 KRF5 cA5 KA5
      generalize (W5.setCell ⟨w.heap.size, 15 + j, none⟩ (.int .i64 (f + 1))).drew = W6 at B6 BZ6 HB6 RF6 ⊢
      have h806 : ({ s with E := E', H := H', U := U', fl := s.fl ++ [⟨16, 4, f, n, v2, (j : Int)⟩], rt := true, ow := s.ow.set j (f + 1) } : SS).ow.length = 80 := by show (s.ow.set j (f + 1)).length = 80; simp [h80]
      go_wp2_with (first | (refine st_load rfl _ rfl w.heap.size rfl { s with E := E', H := H', U := U', fl := s.fl ++ [⟨16, 4, f, n, v2, (j : Int)⟩], rt := true, ow := s.ow.set j (f + 1) } _ _ B6 h806 ?_) | (refine st_store rfl _ _ rfl (w.heap.size + 1 + 1) { s with E := E', H := H', U := U', fl := s.fl ++ [⟨16, 4, f, n, v2, (j : Int)⟩], rt := true, ow := s.ow.set j (f + 1) } _ _ _ _ _ _ rfl rfl zeroC BZ6 hz0 h806 ?_))
      have hsz : (stC { s with E := E', H := H', U := U', fl := s.fl ++ [⟨16, 4, f, n, v2, (j : Int)⟩], rt := true, ow := s.ow.set j (f + 1) } (Value.slice (some ⟨gF, 0, none⟩) (s.fl.length + 1) cF) (Value.slice Na s.sn.length Nc)).size = zeroC.size := by rw [stC_size _ _ _ h806, hz0]
      refine bodyPost_ret (st_result rfl _ _ (w.heap.size + 1 + 1) { s with E := E', H := H', U := U', fl := s.fl ++ [⟨16, 4, f, n, v2, (j : Int)⟩], rt := true, ow := s.ow.set j (f + 1) } _ _ rfl (BZ6.setAll _ hsz) h806) rfl ⟨_, rfl, ⟨_, _, rfl, h806, ?_, ?_⟩, bl_sets (by omega) _ _ _ HB6, own_gen (own_fresh (by omega)) own_N⟩
      · have := RF6.setAllOther (b' := w.heap.size + 1 + 1) (fun b hb => by simp [Value.ownBlock] at hb; omega) 0 (stC { s with E := E', H := H', U := U', fl := s.fl ++ [⟨16, 4, f, n, v2, (j : Int)⟩], rt := true, ow := s.ow.set j (f + 1) } (Value.slice (some ⟨gF, 0, none⟩) (s.fl.length + 1) cF) (Value.slice Na s.sn.length Nc)).toList
        simpa [mC] using this
      · exact HN.out.below (bl_sets (by omega) (stC { s with E := E', H := H', U := U', fl := s.fl ++ [⟨16, 4, f, n, v2, (j : Int)⟩], rt := true, ow := s.ow.set j (f + 1) } (Value.slice (some ⟨gF, 0, none⟩) (s.fl.length + 1) cF) (Value.slice Na s.sn.length Nc)).toList 0 _ HB6)

end Go.Proofs.Ytmgnpjaemjpamaa
