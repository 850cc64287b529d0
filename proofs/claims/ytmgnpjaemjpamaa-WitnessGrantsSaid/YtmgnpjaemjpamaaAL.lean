/- The contract of State.step: a site gives up. -/
import Derived.Test.YtmgnpjaemjpamaaAJ
import Derived.Test.YtmgnpjaemjpamaaAD
set_option linter.unusedSimpArgs false
set_option linter.unusedVariables false
namespace Go.Proofs.Ytmgnpjaemjpamaa
open Go.RowKit
attribute [local go_sem] st0 st1 st2 st3 st4 st5 st6 st7 st8 st9 st10 st11 st12 st13 st14 st95
attribute [local go_sem ↓ high] mx2_run

set_option maxRecDepth 100000 in
set_option maxHeartbeats 8000000 in
theorem step_give0 (w : World) (v : Value) (s : SS) (kind site which : Nat) (hS : StAt w v s) (h1 : s.sn.length ≤ 1000) (h2 : s.fl.length ≤ 1000) (hs : (wrap64 (site : Int)).tmod 3 = 0) (hk0 : ¬ (kind : Int) % 7 = 0) (hk1 : ¬ (kind : Int) % 7 = 1) (hk2 : (kind : Int) % 7 = 2) (q : Int) (hq : min ((s.l 0).E + 1) 1073741824 = q) (hL : lOk (s.l 0).S (s.l 0).E (s.l 0).U = true) :
    Calls Try.prog 28 #[v, evV kind site which] w (RetS w v (reqS (s.setL 0 ⟨(s.l 0).S, q, 0⟩) ⟨18, (s.l 0).S, 4, 0, 0, (s.l 0).E⟩)) := by
  unfold evV
  obtain ⟨F, N, rfl, h80, hF, hN⟩ := hS
  obtain ⟨Fa, Fc, rfl⟩ := hF.form
  obtain ⟨Na, Nc, rfl⟩ := hN.form
  have HF := Lib.hid hF
  have HN := Lib.hid hN
  clear hF hN
  have hz58 := z58
  go_enter Try.func28, Try.ntmps28
  go_upto_region 1 with (fail)
  obtain ⟨W0, hW⟩ : ∃ W0, W0 = (((w.alloc (Obj.cells (stC s (Value.slice Fa s.fl.length Fc) (Value.slice Na s.sn.length Nc)) 58)).alloc (Obj.cells #[.int .u8 kind, .int .u8 site, .int .u8 which] 62)).alloc (Obj.cells zeroC 58)) := ⟨_, rfl⟩
  rw [← hW]
  have BS : Blk W0 w.heap.size (stC s (Value.slice Fa s.fl.length Fc) (Value.slice Na s.sn.length Nc)) := by rw [hW]; exact ((Blk.new _ _ _).alloc _).alloc _
  have BX : Blk W0 (w.heap.size + 1) #[.int .u8 kind, .int .u8 site, .int .u8 which] := by rw [hW]; exact (Blk.new1 _ _ _ _).alloc _
  have BZ : Blk W0 (w.heap.size + 1 + 1) zeroC := by rw [hW]; exact Blk.new2 _ _ _ _ _
  have HB : Below w.heap.size w W0 := by rw [hW]; exact bl_alloc (bl_alloc (bl_alloc (Below.refl _ _) _) _) _
  clear hW
  have cS := BS.cell
  have fS := BS.frozen
  have cX := BX.cell
  have zS := BS.lt
  have zX := BX.lt
  have zZ := BZ.lt
  have zB := HB.size
  have KS := Lib.hid BS
  have KX := Lib.hid BX
  have KZ := Lib.hid BZ
  have KB := Lib.hid HB
  clear BS BX BZ HB
  have hz0 : zeroC.size = 96 := stC_size zeroSt _ _ rfl
  go_upto_region 15 with (first | (go_at_call 23; refine (give_ok hL hq _).mono ?_; rintro r w1 ⟨rfl, hb⟩; have BS1 : Blk w1 w.heap.size ((stC s (Value.slice Fa s.fl.length Fc) (Value.slice Na s.sn.length Nc))) := (Blk.below (by (focus (repeat (with_reducible first | exact KS1.out | exact KX1.out | exact KZ1.out | exact KM1.out | exact KB1.out | exact KS.out | exact KX.out | exact KZ.out | exact KB.out | exact Blk.new _ _ _ | apply Blk.drew | apply Blk.alloc | apply Below.drew | apply bl_alloc | refine Blk.other ?_ ?_ _ _ | refine bl_set ?_ ?_ _ _ | omega)))) hb); have BX1 : Blk w1 (w.heap.size + 1) #[.int .u8 kind, .int .u8 site, .int .u8 which] := (Blk.below (by (focus (repeat (with_reducible first | exact KS1.out | exact KX1.out | exact KZ1.out | exact KM1.out | exact KB1.out | exact KS.out | exact KX.out | exact KZ.out | exact KB.out | exact Blk.new _ _ _ | apply Blk.drew | apply Blk.alloc | apply Below.drew | apply bl_alloc | refine Blk.other ?_ ?_ _ _ | refine bl_set ?_ ?_ _ _ | omega)))) hb); have BZ1 : Blk w1 (w.heap.size + 1 + 1) zeroC := (Blk.below (by (focus (repeat (with_reducible first | exact KS1.out | exact KX1.out | exact KZ1.out | exact KM1.out | exact KB1.out | exact KS.out | exact KX.out | exact KZ.out | exact KB.out | exact Blk.new _ _ _ | apply Blk.drew | apply Blk.alloc | apply Below.drew | apply bl_alloc | refine Blk.other ?_ ?_ _ _ | refine bl_set ?_ ?_ _ _ | omega)))) hb); have HB1 : Below w.heap.size w w1 := (bl_trans (by (focus (repeat (with_reducible first | exact KS1.out | exact KX1.out | exact KZ1.out | exact KM1.out | exact KB1.out | exact KS.out | exact KX.out | exact KZ.out | exact KB.out | exact Blk.new _ _ _ | apply Blk.drew | apply Blk.alloc | apply Below.drew | apply bl_alloc | refine Blk.other ?_ ?_ _ _ | refine bl_set ?_ ?_ _ _ | omega)))) hb); have cS1 := BS1.cell; have fS1 := BS1.frozen; have zS1 := BS1.lt; have zX1 := BX1.lt; have zZ1 := BZ1.lt; have KS1 := Lib.hid BS1; have KZ1 := Lib.hid BZ1; have KB1 := Lib.hid HB1; clear BS1 BX1 BZ1 HB1 hb))
  clear hs
  have BSa := Blk.cast (((KS1.out.set 3 (.int .i64 (s.l 0).S)).set 4 (.int .i64 q)).set 5 (.int .i64 0)) (set_l0 _ _ _ _ _ _)
  have BZa := ((KZ1.out.other (show w.heap.size + 1 + 1 ≠ w.heap.size by omega) 3 (.int .i64 (s.l 0).S)).other (show w.heap.size + 1 + 1 ≠ w.heap.size by omega) 4 (.int .i64 q)).other (show w.heap.size + 1 + 1 ≠ w.heap.size by omega) 5 (.int .i64 0)
  have HBa := bl_set (bl_set (bl_set KB1.out (Nat.le_refl _) 3 (.int .i64 (s.l 0).S)) (Nat.le_refl _) 4 (.int .i64 q)) (Nat.le_refl _) 5 (.int .i64 0)
  have hz2 : (((w1.setCell ⟨w.heap.size, 3, none⟩ (.int .i64 (s.l 0).S)).setCell ⟨w.heap.size, 4, none⟩ (.int .i64 q)).setCell ⟨w.heap.size, 5, none⟩ (.int .i64 0)).heap.size = w1.heap.size := by simp [World.setCell]
  generalize (((w1.setCell ⟨w.heap.size, 3, none⟩ (.int .i64 (s.l 0).S)).setCell ⟨w.heap.size, 4, none⟩ (.int .i64 q)).setCell ⟨w.heap.size, 5, none⟩ (.int .i64 0)) = W2 at BSa BZa HBa hz2 ⊢
  have BM := Blk.new1 W2 (Obj.cells #[Value.int IntKind.i64 (s.l 0).S, Value.int IntKind.i64 q, Value.int IntKind.i64 0] 41) #[Value.int IntKind.i64 18, Value.int IntKind.i64 (s.l 0).S, Value.int IntKind.i64 4, Value.int IntKind.i64 0, Value.int IntKind.i64 0, Value.int IntKind.i64 (s.l 0).E, Value.slice none 0 0, Value.slice none 0 0] 27
  rw [hz2] at BM
  have BS := (BSa.alloc (Obj.cells #[Value.int IntKind.i64 (s.l 0).S, Value.int IntKind.i64 q, Value.int IntKind.i64 0] 41)).alloc (Obj.cells #[Value.int IntKind.i64 18, Value.int IntKind.i64 (s.l 0).S, Value.int IntKind.i64 4, Value.int IntKind.i64 0, Value.int IntKind.i64 0, Value.int IntKind.i64 (s.l 0).E, Value.slice none 0 0, Value.slice none 0 0] 27)
  have BZ := (BZa.alloc (Obj.cells #[Value.int IntKind.i64 (s.l 0).S, Value.int IntKind.i64 q, Value.int IntKind.i64 0] 41)).alloc (Obj.cells #[Value.int IntKind.i64 18, Value.int IntKind.i64 (s.l 0).S, Value.int IntKind.i64 4, Value.int IntKind.i64 0, Value.int IntKind.i64 0, Value.int IntKind.i64 (s.l 0).E, Value.slice none 0 0, Value.slice none 0 0] 27)
  have HB := bl_alloc (bl_alloc HBa (Obj.cells #[Value.int IntKind.i64 (s.l 0).S, Value.int IntKind.i64 q, Value.int IntKind.i64 0] 41)) (Obj.cells #[Value.int IntKind.i64 18, Value.int IntKind.i64 (s.l 0).S, Value.int IntKind.i64 4, Value.int IntKind.i64 0, Value.int IntKind.i64 0, Value.int IntKind.i64 (s.l 0).E, Value.slice none 0 0, Value.slice none 0 0] 27)
  clear BSa BZa HBa hz2 cS fS cX cS1 fS1 zS1 zX1 zZ1 KS1 KZ1 KB1 KS KX KZ KB
  generalize (W2.alloc (Obj.cells #[Value.int IntKind.i64 (s.l 0).S, Value.int IntKind.i64 q, Value.int IntKind.i64 0] 41)).alloc (Obj.cells #[Value.int IntKind.i64 18, Value.int IntKind.i64 (s.l 0).S, Value.int IntKind.i64 4, Value.int IntKind.i64 0, Value.int IntKind.i64 0, Value.int IntKind.i64 (s.l 0).E, Value.slice none 0 0, Value.slice none 0 0] 27) = wc at BS BZ BM HB ⊢
  have h80' : (s.setL 0 ⟨(s.l 0).S, q, 0⟩).ow.length = 80 := h80
  have e1 : (s.setL 0 ⟨(s.l 0).S, q, 0⟩).fl = s.fl := rfl
  have e2 : (s.setL 0 ⟨(s.l 0).S, q, 0⟩).sn = s.sn := rfl
  generalize s.setL 0 ⟨(s.l 0).S, q, 0⟩ = s2 at *
  have hst : StAt wc (.agg (stC s2 (Value.slice Fa s.fl.length Fc) (Value.slice Na s.sn.length Nc))) s2 := ⟨_, _, rfl, h80', by rw [e1]; exact HF.out.below HB, by rw [e2]; exact HN.out.below HB⟩
  have hcall : Hid (Calls Try.prog 30 #[.agg (stC s2 (Value.slice Fa s.fl.length Fc) (Value.slice Na s.sn.length Nc)), .agg #[Value.int IntKind.i64 18, Value.int IntKind.i64 (s.l 0).S, Value.int IntKind.i64 4, Value.int IntKind.i64 0, Value.int IntKind.i64 0, Value.int IntKind.i64 (s.l 0).E, Value.slice none 0 0, Value.slice none 0 0]] wc (RetS wc (.agg (stC s2 (Value.slice Fa s.fl.length Fc) (Value.slice Na s.sn.length Nc))) (reqS s2 ⟨18, (s.l 0).S, 4, 0, 0, (s.l 0).E⟩))) := Lib.hid (req_c wc _ s2 _ _ _ _ _ _ hst (by rw [e2]; exact h1) (by rw [e1]; exact h2))
  have hg2n : ∀ b, rowsOf (.agg (stC s2 (Value.slice Fa s.fl.length Fc) (Value.slice Na s.sn.length Nc))) b → b ≠ w.heap.size + 1 + 1 ∧ (w.heap.size ≤ b ∨ rowsOf (.agg (stC s (Value.slice Fa s.fl.length Fc) (Value.slice Na s.sn.length Nc))) b) := fun b hb => by
    rcases rows_of hb with h | h
    · have := HF.out.own h; exact ⟨by omega, .inr (rows_F h)⟩
    · have := HN.out.own h; exact ⟨by omega, .inr (rows_N h)⟩
  have hG2 := Lib.hid hg2n
  have cS := BS.cell
  have cM := BM.cell
  have zS2 := BS.lt
  have zM2 := BM.lt
  have zZ2 := BZ.lt
  have zB2 := HB.size
  have KS := Lib.hid BS
  have KZ := Lib.hid BZ
  have KM := Lib.hid BM
  have KB := Lib.hid HB
  clear BS BZ BM HB hst hg2n e1 e2
  generalize reqS s2 ⟨18, (s.l 0).S, 4, 0, 0, (s.l 0).E⟩ = s9 at *
  go_wp2_with (first | (refine st_load rfl _ rfl w.heap.size rfl s2 _ _ KS.out h80' ?_) | (go_at_call 30; refine hcall.out.mono ?_; rintro r w1 ⟨v1, rfl, ⟨F1, N1, rfl, h81, hF1, hN1⟩, hb, hown⟩; obtain ⟨Fa1, Fc1, rfl⟩ := hF1.form; obtain ⟨Na1, Nc1, rfl⟩ := hN1.form; have HF1 := Lib.hid hF1; have HN1 := Lib.hid hN1; have HO1 := Lib.hid hown; have HB1 := Lib.hid (bl_trans KB.out hb); have BZ1 := Blk.below KZ.out hb; have zZ1 := BZ1.lt; have KZ1 := Lib.hid BZ1; clear hF1 hN1 hb hown BZ1) | (refine st_store rfl _ _ rfl (w.heap.size + 1 + 1) s9 _ _ _ _ _ _ rfl rfl zeroC KZ1.out hz0 h81 ?_))
  have hsz : (stC s9 (Value.slice Fa1 s9.fl.length Fc1) (Value.slice Na1 s9.sn.length Nc1)).size = zeroC.size := by rw [stC_size _ _ _ h81, hz0]
  have HB3 := bl_sets (B := w.heap.size) (b := w.heap.size + 1 + 1) (a := w) (by omega) (stC s9 (Value.slice Fa1 s9.fl.length Fc1) (Value.slice Na1 s9.sn.length Nc1)).toList 0 w1 HB1.out
  have hO2 : ∀ b, rowsOf (.agg (stC s9 (Value.slice Fa1 s9.fl.length Fc1) (Value.slice Na1 s9.sn.length Nc1))) b → b ≠ w.heap.size + 1 + 1 ∧ (w.heap.size ≤ b ∨ rowsOf (.agg (stC s (Value.slice Fa s.fl.length Fc) (Value.slice Na s.sn.length Nc))) b) := fun b hb => by
    rcases HO1.out b hb with h | h
    · exact ⟨by omega, .inl (by omega)⟩
    · exact hG2.out b h
  have HF3 := HF1.out.setAllOther (b' := w.heap.size + 1 + 1) (fun b hb => (hO2 b (rows_F hb)).1) 0 (stC s9 (Value.slice Fa1 s9.fl.length Fc1) (Value.slice Na1 s9.sn.length Nc1)).toList
  have HN3 := HN1.out.setAllOther (b' := w.heap.size + 1 + 1) (fun b hb => (hO2 b (rows_N hb)).1) 0 (stC s9 (Value.slice Fa1 s9.fl.length Fc1) (Value.slice Na1 s9.sn.length Nc1)).toList
  have BZ3 := KZ1.out.setAll _ hsz
  exact bodyPost_ret (st_result rfl _ _ (w.heap.size + 1 + 1) s9 _ _ rfl BZ3 h81) rfl ⟨_, rfl, ⟨_, _, rfl, h81, HF3, HN3⟩, HB3, fun b hb => (hO2 b hb).2⟩
set_option maxRecDepth 100000 in
set_option maxHeartbeats 8000000 in
theorem step_give1 (w : World) (v : Value) (s : SS) (kind site which : Nat) (hS : StAt w v s) (h1 : s.sn.length ≤ 1000) (h2 : s.fl.length ≤ 1000) (hs : (wrap64 (site : Int)).tmod 3 = 1) (hk0 : ¬ (kind : Int) % 7 = 0) (hk1 : ¬ (kind : Int) % 7 = 1) (hk2 : (kind : Int) % 7 = 2) (q : Int) (hq : min ((s.l 1).E + 1) 1073741824 = q) (hL : lOk (s.l 1).S (s.l 1).E (s.l 1).U = true) :
    Calls Try.prog 28 #[v, evV kind site which] w (RetS w v (reqS (s.setL 1 ⟨(s.l 1).S, q, 0⟩) ⟨18, (s.l 1).S, 4, 0, 0, (s.l 1).E⟩)) := by
  unfold evV
  obtain ⟨F, N, rfl, h80, hF, hN⟩ := hS
  obtain ⟨Fa, Fc, rfl⟩ := hF.form
  obtain ⟨Na, Nc, rfl⟩ := hN.form
  have HF := Lib.hid hF
  have HN := Lib.hid hN
  clear hF hN
  have hz58 := z58
  go_enter Try.func28, Try.ntmps28
  go_upto_region 1 with (fail)
  obtain ⟨W0, hW⟩ : ∃ W0, W0 = (((w.alloc (Obj.cells (stC s (Value.slice Fa s.fl.length Fc) (Value.slice Na s.sn.length Nc)) 58)).alloc (Obj.cells #[.int .u8 kind, .int .u8 site, .int .u8 which] 62)).alloc (Obj.cells zeroC 58)) := ⟨_, rfl⟩
  rw [← hW]
  have BS : Blk W0 w.heap.size (stC s (Value.slice Fa s.fl.length Fc) (Value.slice Na s.sn.length Nc)) := by rw [hW]; exact ((Blk.new _ _ _).alloc _).alloc _
  have BX : Blk W0 (w.heap.size + 1) #[.int .u8 kind, .int .u8 site, .int .u8 which] := by rw [hW]; exact (Blk.new1 _ _ _ _).alloc _
  have BZ : Blk W0 (w.heap.size + 1 + 1) zeroC := by rw [hW]; exact Blk.new2 _ _ _ _ _
  have HB : Below w.heap.size w W0 := by rw [hW]; exact bl_alloc (bl_alloc (bl_alloc (Below.refl _ _) _) _) _
  clear hW
  have cS := BS.cell
  have fS := BS.frozen
  have cX := BX.cell
  have zS := BS.lt
  have zX := BX.lt
  have zZ := BZ.lt
  have zB := HB.size
  have KS := Lib.hid BS
  have KX := Lib.hid BX
  have KZ := Lib.hid BZ
  have KB := Lib.hid HB
  clear BS BX BZ HB
  have hz0 : zeroC.size = 96 := stC_size zeroSt _ _ rfl
  go_upto_region 15 with (first | (go_at_call 23; refine (give_ok hL hq _).mono ?_; rintro r w1 ⟨rfl, hb⟩; have BS1 : Blk w1 w.heap.size ((stC s (Value.slice Fa s.fl.length Fc) (Value.slice Na s.sn.length Nc))) := (Blk.below (by (focus (repeat (with_reducible first | exact KS1.out | exact KX1.out | exact KZ1.out | exact KM1.out | exact KB1.out | exact KS.out | exact KX.out | exact KZ.out | exact KB.out | exact Blk.new _ _ _ | apply Blk.drew | apply Blk.alloc | apply Below.drew | apply bl_alloc | refine Blk.other ?_ ?_ _ _ | refine bl_set ?_ ?_ _ _ | omega)))) hb); have BX1 : Blk w1 (w.heap.size + 1) #[.int .u8 kind, .int .u8 site, .int .u8 which] := (Blk.below (by (focus (repeat (with_reducible first | exact KS1.out | exact KX1.out | exact KZ1.out | exact KM1.out | exact KB1.out | exact KS.out | exact KX.out | exact KZ.out | exact KB.out | exact Blk.new _ _ _ | apply Blk.drew | apply Blk.alloc | apply Below.drew | apply bl_alloc | refine Blk.other ?_ ?_ _ _ | refine bl_set ?_ ?_ _ _ | omega)))) hb); have BZ1 : Blk w1 (w.heap.size + 1 + 1) zeroC := (Blk.below (by (focus (repeat (with_reducible first | exact KS1.out | exact KX1.out | exact KZ1.out | exact KM1.out | exact KB1.out | exact KS.out | exact KX.out | exact KZ.out | exact KB.out | exact Blk.new _ _ _ | apply Blk.drew | apply Blk.alloc | apply Below.drew | apply bl_alloc | refine Blk.other ?_ ?_ _ _ | refine bl_set ?_ ?_ _ _ | omega)))) hb); have HB1 : Below w.heap.size w w1 := (bl_trans (by (focus (repeat (with_reducible first | exact KS1.out | exact KX1.out | exact KZ1.out | exact KM1.out | exact KB1.out | exact KS.out | exact KX.out | exact KZ.out | exact KB.out | exact Blk.new _ _ _ | apply Blk.drew | apply Blk.alloc | apply Below.drew | apply bl_alloc | refine Blk.other ?_ ?_ _ _ | refine bl_set ?_ ?_ _ _ | omega)))) hb); have cS1 := BS1.cell; have fS1 := BS1.frozen; have zS1 := BS1.lt; have zX1 := BX1.lt; have zZ1 := BZ1.lt; have KS1 := Lib.hid BS1; have KZ1 := Lib.hid BZ1; have KB1 := Lib.hid HB1; clear BS1 BX1 BZ1 HB1 hb))
  clear hs
  have BSa := Blk.cast (((KS1.out.set 6 (.int .i64 (s.l 1).S)).set 7 (.int .i64 q)).set 8 (.int .i64 0)) (set_l1 _ _ _ _ _ _)
  have BZa := ((KZ1.out.other (show w.heap.size + 1 + 1 ≠ w.heap.size by omega) 6 (.int .i64 (s.l 1).S)).other (show w.heap.size + 1 + 1 ≠ w.heap.size by omega) 7 (.int .i64 q)).other (show w.heap.size + 1 + 1 ≠ w.heap.size by omega) 8 (.int .i64 0)
  have HBa := bl_set (bl_set (bl_set KB1.out (Nat.le_refl _) 6 (.int .i64 (s.l 1).S)) (Nat.le_refl _) 7 (.int .i64 q)) (Nat.le_refl _) 8 (.int .i64 0)
  have hz2 : (((w1.setCell ⟨w.heap.size, 6, none⟩ (.int .i64 (s.l 1).S)).setCell ⟨w.heap.size, 7, none⟩ (.int .i64 q)).setCell ⟨w.heap.size, 8, none⟩ (.int .i64 0)).heap.size = w1.heap.size := by simp [World.setCell]
  generalize (((w1.setCell ⟨w.heap.size, 6, none⟩ (.int .i64 (s.l 1).S)).setCell ⟨w.heap.size, 7, none⟩ (.int .i64 q)).setCell ⟨w.heap.size, 8, none⟩ (.int .i64 0)) = W2 at BSa BZa HBa hz2 ⊢
  have BM := Blk.new1 W2 (Obj.cells #[Value.int IntKind.i64 (s.l 1).S, Value.int IntKind.i64 q, Value.int IntKind.i64 0] 41) #[Value.int IntKind.i64 18, Value.int IntKind.i64 (s.l 1).S, Value.int IntKind.i64 4, Value.int IntKind.i64 0, Value.int IntKind.i64 0, Value.int IntKind.i64 (s.l 1).E, Value.slice none 0 0, Value.slice none 0 0] 27
  rw [hz2] at BM
  have BS := (BSa.alloc (Obj.cells #[Value.int IntKind.i64 (s.l 1).S, Value.int IntKind.i64 q, Value.int IntKind.i64 0] 41)).alloc (Obj.cells #[Value.int IntKind.i64 18, Value.int IntKind.i64 (s.l 1).S, Value.int IntKind.i64 4, Value.int IntKind.i64 0, Value.int IntKind.i64 0, Value.int IntKind.i64 (s.l 1).E, Value.slice none 0 0, Value.slice none 0 0] 27)
  have BZ := (BZa.alloc (Obj.cells #[Value.int IntKind.i64 (s.l 1).S, Value.int IntKind.i64 q, Value.int IntKind.i64 0] 41)).alloc (Obj.cells #[Value.int IntKind.i64 18, Value.int IntKind.i64 (s.l 1).S, Value.int IntKind.i64 4, Value.int IntKind.i64 0, Value.int IntKind.i64 0, Value.int IntKind.i64 (s.l 1).E, Value.slice none 0 0, Value.slice none 0 0] 27)
  have HB := bl_alloc (bl_alloc HBa (Obj.cells #[Value.int IntKind.i64 (s.l 1).S, Value.int IntKind.i64 q, Value.int IntKind.i64 0] 41)) (Obj.cells #[Value.int IntKind.i64 18, Value.int IntKind.i64 (s.l 1).S, Value.int IntKind.i64 4, Value.int IntKind.i64 0, Value.int IntKind.i64 0, Value.int IntKind.i64 (s.l 1).E, Value.slice none 0 0, Value.slice none 0 0] 27)
  clear BSa BZa HBa hz2 cS fS cX cS1 fS1 zS1 zX1 zZ1 KS1 KZ1 KB1 KS KX KZ KB
  generalize (W2.alloc (Obj.cells #[Value.int IntKind.i64 (s.l 1).S, Value.int IntKind.i64 q, Value.int IntKind.i64 0] 41)).alloc (Obj.cells #[Value.int IntKind.i64 18, Value.int IntKind.i64 (s.l 1).S, Value.int IntKind.i64 4, Value.int IntKind.i64 0, Value.int IntKind.i64 0, Value.int IntKind.i64 (s.l 1).E, Value.slice none 0 0, Value.slice none 0 0] 27) = wc at BS BZ BM HB ⊢
  have h80' : (s.setL 1 ⟨(s.l 1).S, q, 0⟩).ow.length = 80 := h80
  have e1 : (s.setL 1 ⟨(s.l 1).S, q, 0⟩).fl = s.fl := rfl
  have e2 : (s.setL 1 ⟨(s.l 1).S, q, 0⟩).sn = s.sn := rfl
  generalize s.setL 1 ⟨(s.l 1).S, q, 0⟩ = s2 at *
  have hst : StAt wc (.agg (stC s2 (Value.slice Fa s.fl.length Fc) (Value.slice Na s.sn.length Nc))) s2 := ⟨_, _, rfl, h80', by rw [e1]; exact HF.out.below HB, by rw [e2]; exact HN.out.below HB⟩
  have hcall : Hid (Calls Try.prog 30 #[.agg (stC s2 (Value.slice Fa s.fl.length Fc) (Value.slice Na s.sn.length Nc)), .agg #[Value.int IntKind.i64 18, Value.int IntKind.i64 (s.l 1).S, Value.int IntKind.i64 4, Value.int IntKind.i64 0, Value.int IntKind.i64 0, Value.int IntKind.i64 (s.l 1).E, Value.slice none 0 0, Value.slice none 0 0]] wc (RetS wc (.agg (stC s2 (Value.slice Fa s.fl.length Fc) (Value.slice Na s.sn.length Nc))) (reqS s2 ⟨18, (s.l 1).S, 4, 0, 0, (s.l 1).E⟩))) := Lib.hid (req_c wc _ s2 _ _ _ _ _ _ hst (by rw [e2]; exact h1) (by rw [e1]; exact h2))
  have hg2n : ∀ b, rowsOf (.agg (stC s2 (Value.slice Fa s.fl.length Fc) (Value.slice Na s.sn.length Nc))) b → b ≠ w.heap.size + 1 + 1 ∧ (w.heap.size ≤ b ∨ rowsOf (.agg (stC s (Value.slice Fa s.fl.length Fc) (Value.slice Na s.sn.length Nc))) b) := fun b hb => by
    rcases rows_of hb with h | h
    · have := HF.out.own h; exact ⟨by omega, .inr (rows_F h)⟩
    · have := HN.out.own h; exact ⟨by omega, .inr (rows_N h)⟩
  have hG2 := Lib.hid hg2n
  have cS := BS.cell
  have cM := BM.cell
  have zS2 := BS.lt
  have zM2 := BM.lt
  have zZ2 := BZ.lt
  have zB2 := HB.size
  have KS := Lib.hid BS
  have KZ := Lib.hid BZ
  have KM := Lib.hid BM
  have KB := Lib.hid HB
  clear BS BZ BM HB hst hg2n e1 e2
  generalize reqS s2 ⟨18, (s.l 1).S, 4, 0, 0, (s.l 1).E⟩ = s9 at *
  go_wp2_with (first | (refine st_load rfl _ rfl w.heap.size rfl s2 _ _ KS.out h80' ?_) | (go_at_call 30; refine hcall.out.mono ?_; rintro r w1 ⟨v1, rfl, ⟨F1, N1, rfl, h81, hF1, hN1⟩, hb, hown⟩; obtain ⟨Fa1, Fc1, rfl⟩ := hF1.form; obtain ⟨Na1, Nc1, rfl⟩ := hN1.form; have HF1 := Lib.hid hF1; have HN1 := Lib.hid hN1; have HO1 := Lib.hid hown; have HB1 := Lib.hid (bl_trans KB.out hb); have BZ1 := Blk.below KZ.out hb; have zZ1 := BZ1.lt; have KZ1 := Lib.hid BZ1; clear hF1 hN1 hb hown BZ1) | (refine st_store rfl _ _ rfl (w.heap.size + 1 + 1) s9 _ _ _ _ _ _ rfl rfl zeroC KZ1.out hz0 h81 ?_))
  have hsz : (stC s9 (Value.slice Fa1 s9.fl.length Fc1) (Value.slice Na1 s9.sn.length Nc1)).size = zeroC.size := by rw [stC_size _ _ _ h81, hz0]
  have HB3 := bl_sets (B := w.heap.size) (b := w.heap.size + 1 + 1) (a := w) (by omega) (stC s9 (Value.slice Fa1 s9.fl.length Fc1) (Value.slice Na1 s9.sn.length Nc1)).toList 0 w1 HB1.out
  have hO2 : ∀ b, rowsOf (.agg (stC s9 (Value.slice Fa1 s9.fl.length Fc1) (Value.slice Na1 s9.sn.length Nc1))) b → b ≠ w.heap.size + 1 + 1 ∧ (w.heap.size ≤ b ∨ rowsOf (.agg (stC s (Value.slice Fa s.fl.length Fc) (Value.slice Na s.sn.length Nc))) b) := fun b hb => by
    rcases HO1.out b hb with h | h
    · exact ⟨by omega, .inl (by omega)⟩
    · exact hG2.out b h
  have HF3 := HF1.out.setAllOther (b' := w.heap.size + 1 + 1) (fun b hb => (hO2 b (rows_F hb)).1) 0 (stC s9 (Value.slice Fa1 s9.fl.length Fc1) (Value.slice Na1 s9.sn.length Nc1)).toList
  have HN3 := HN1.out.setAllOther (b' := w.heap.size + 1 + 1) (fun b hb => (hO2 b (rows_N hb)).1) 0 (stC s9 (Value.slice Fa1 s9.fl.length Fc1) (Value.slice Na1 s9.sn.length Nc1)).toList
  have BZ3 := KZ1.out.setAll _ hsz
  exact bodyPost_ret (st_result rfl _ _ (w.heap.size + 1 + 1) s9 _ _ rfl BZ3 h81) rfl ⟨_, rfl, ⟨_, _, rfl, h81, HF3, HN3⟩, HB3, fun b hb => (hO2 b hb).2⟩
set_option maxRecDepth 100000 in
set_option maxHeartbeats 8000000 in
theorem step_give2 (w : World) (v : Value) (s : SS) (kind site which : Nat) (hS : StAt w v s) (h1 : s.sn.length ≤ 1000) (h2 : s.fl.length ≤ 1000) (hs : (wrap64 (site : Int)).tmod 3 = 2) (hk0 : ¬ (kind : Int) % 7 = 0) (hk1 : ¬ (kind : Int) % 7 = 1) (hk2 : (kind : Int) % 7 = 2) (q : Int) (hq : min ((s.l 2).E + 1) 1073741824 = q) (hL : lOk (s.l 2).S (s.l 2).E (s.l 2).U = true) :
    Calls Try.prog 28 #[v, evV kind site which] w (RetS w v (reqS (s.setL 2 ⟨(s.l 2).S, q, 0⟩) ⟨18, (s.l 2).S, 4, 0, 0, (s.l 2).E⟩)) := by
  unfold evV
  obtain ⟨F, N, rfl, h80, hF, hN⟩ := hS
  obtain ⟨Fa, Fc, rfl⟩ := hF.form
  obtain ⟨Na, Nc, rfl⟩ := hN.form
  have HF := Lib.hid hF
  have HN := Lib.hid hN
  clear hF hN
  have hz58 := z58
  go_enter Try.func28, Try.ntmps28
  go_upto_region 1 with (fail)
  obtain ⟨W0, hW⟩ : ∃ W0, W0 = (((w.alloc (Obj.cells (stC s (Value.slice Fa s.fl.length Fc) (Value.slice Na s.sn.length Nc)) 58)).alloc (Obj.cells #[.int .u8 kind, .int .u8 site, .int .u8 which] 62)).alloc (Obj.cells zeroC 58)) := ⟨_, rfl⟩
  rw [← hW]
  have BS : Blk W0 w.heap.size (stC s (Value.slice Fa s.fl.length Fc) (Value.slice Na s.sn.length Nc)) := by rw [hW]; exact ((Blk.new _ _ _).alloc _).alloc _
  have BX : Blk W0 (w.heap.size + 1) #[.int .u8 kind, .int .u8 site, .int .u8 which] := by rw [hW]; exact (Blk.new1 _ _ _ _).alloc _
  have BZ : Blk W0 (w.heap.size + 1 + 1) zeroC := by rw [hW]; exact Blk.new2 _ _ _ _ _
  have HB : Below w.heap.size w W0 := by rw [hW]; exact bl_alloc (bl_alloc (bl_alloc (Below.refl _ _) _) _) _
  clear hW
  have cS := BS.cell
  have fS := BS.frozen
  have cX := BX.cell
  have zS := BS.lt
  have zX := BX.lt
  have zZ := BZ.lt
  have zB := HB.size
  have KS := Lib.hid BS
  have KX := Lib.hid BX
  have KZ := Lib.hid BZ
  have KB := Lib.hid HB
  clear BS BX BZ HB
  have hz0 : zeroC.size = 96 := stC_size zeroSt _ _ rfl
  go_upto_region 15 with (first | (go_at_call 23; refine (give_ok hL hq _).mono ?_; rintro r w1 ⟨rfl, hb⟩; have BS1 : Blk w1 w.heap.size ((stC s (Value.slice Fa s.fl.length Fc) (Value.slice Na s.sn.length Nc))) := (Blk.below (by (focus (repeat (with_reducible first | exact KS1.out | exact KX1.out | exact KZ1.out | exact KM1.out | exact KB1.out | exact KS.out | exact KX.out | exact KZ.out | exact KB.out | exact Blk.new _ _ _ | apply Blk.drew | apply Blk.alloc | apply Below.drew | apply bl_alloc | refine Blk.other ?_ ?_ _ _ | refine bl_set ?_ ?_ _ _ | omega)))) hb); have BX1 : Blk w1 (w.heap.size + 1) #[.int .u8 kind, .int .u8 site, .int .u8 which] := (Blk.below (by (focus (repeat (with_reducible first | exact KS1.out | exact KX1.out | exact KZ1.out | exact KM1.out | exact KB1.out | exact KS.out | exact KX.out | exact KZ.out | exact KB.out | exact Blk.new _ _ _ | apply Blk.drew | apply Blk.alloc | apply Below.drew | apply bl_alloc | refine Blk.other ?_ ?_ _ _ | refine bl_set ?_ ?_ _ _ | omega)))) hb); have BZ1 : Blk w1 (w.heap.size + 1 + 1) zeroC := (Blk.below (by (focus (repeat (with_reducible first | exact KS1.out | exact KX1.out | exact KZ1.out | exact KM1.out | exact KB1.out | exact KS.out | exact KX.out | exact KZ.out | exact KB.out | exact Blk.new _ _ _ | apply Blk.drew | apply Blk.alloc | apply Below.drew | apply bl_alloc | refine Blk.other ?_ ?_ _ _ | refine bl_set ?_ ?_ _ _ | omega)))) hb); have HB1 : Below w.heap.size w w1 := (bl_trans (by (focus (repeat (with_reducible first | exact KS1.out | exact KX1.out | exact KZ1.out | exact KM1.out | exact KB1.out | exact KS.out | exact KX.out | exact KZ.out | exact KB.out | exact Blk.new _ _ _ | apply Blk.drew | apply Blk.alloc | apply Below.drew | apply bl_alloc | refine Blk.other ?_ ?_ _ _ | refine bl_set ?_ ?_ _ _ | omega)))) hb); have cS1 := BS1.cell; have fS1 := BS1.frozen; have zS1 := BS1.lt; have zX1 := BX1.lt; have zZ1 := BZ1.lt; have KS1 := Lib.hid BS1; have KZ1 := Lib.hid BZ1; have KB1 := Lib.hid HB1; clear BS1 BX1 BZ1 HB1 hb))
  clear hs
  have BSa := Blk.cast (((KS1.out.set 9 (.int .i64 (s.l 2).S)).set 10 (.int .i64 q)).set 11 (.int .i64 0)) (set_l2 _ _ _ _ _ _)
  have BZa := ((KZ1.out.other (show w.heap.size + 1 + 1 ≠ w.heap.size by omega) 9 (.int .i64 (s.l 2).S)).other (show w.heap.size + 1 + 1 ≠ w.heap.size by omega) 10 (.int .i64 q)).other (show w.heap.size + 1 + 1 ≠ w.heap.size by omega) 11 (.int .i64 0)
  have HBa := bl_set (bl_set (bl_set KB1.out (Nat.le_refl _) 9 (.int .i64 (s.l 2).S)) (Nat.le_refl _) 10 (.int .i64 q)) (Nat.le_refl _) 11 (.int .i64 0)
  have hz2 : (((w1.setCell ⟨w.heap.size, 9, none⟩ (.int .i64 (s.l 2).S)).setCell ⟨w.heap.size, 10, none⟩ (.int .i64 q)).setCell ⟨w.heap.size, 11, none⟩ (.int .i64 0)).heap.size = w1.heap.size := by simp [World.setCell]
  generalize (((w1.setCell ⟨w.heap.size, 9, none⟩ (.int .i64 (s.l 2).S)).setCell ⟨w.heap.size, 10, none⟩ (.int .i64 q)).setCell ⟨w.heap.size, 11, none⟩ (.int .i64 0)) = W2 at BSa BZa HBa hz2 ⊢
  have BM := Blk.new1 W2 (Obj.cells #[Value.int IntKind.i64 (s.l 2).S, Value.int IntKind.i64 q, Value.int IntKind.i64 0] 41) #[Value.int IntKind.i64 18, Value.int IntKind.i64 (s.l 2).S, Value.int IntKind.i64 4, Value.int IntKind.i64 0, Value.int IntKind.i64 0, Value.int IntKind.i64 (s.l 2).E, Value.slice none 0 0, Value.slice none 0 0] 27
  rw [hz2] at BM
  have BS := (BSa.alloc (Obj.cells #[Value.int IntKind.i64 (s.l 2).S, Value.int IntKind.i64 q, Value.int IntKind.i64 0] 41)).alloc (Obj.cells #[Value.int IntKind.i64 18, Value.int IntKind.i64 (s.l 2).S, Value.int IntKind.i64 4, Value.int IntKind.i64 0, Value.int IntKind.i64 0, Value.int IntKind.i64 (s.l 2).E, Value.slice none 0 0, Value.slice none 0 0] 27)
  have BZ := (BZa.alloc (Obj.cells #[Value.int IntKind.i64 (s.l 2).S, Value.int IntKind.i64 q, Value.int IntKind.i64 0] 41)).alloc (Obj.cells #[Value.int IntKind.i64 18, Value.int IntKind.i64 (s.l 2).S, Value.int IntKind.i64 4, Value.int IntKind.i64 0, Value.int IntKind.i64 0, Value.int IntKind.i64 (s.l 2).E, Value.slice none 0 0, Value.slice none 0 0] 27)
  have HB := bl_alloc (bl_alloc HBa (Obj.cells #[Value.int IntKind.i64 (s.l 2).S, Value.int IntKind.i64 q, Value.int IntKind.i64 0] 41)) (Obj.cells #[Value.int IntKind.i64 18, Value.int IntKind.i64 (s.l 2).S, Value.int IntKind.i64 4, Value.int IntKind.i64 0, Value.int IntKind.i64 0, Value.int IntKind.i64 (s.l 2).E, Value.slice none 0 0, Value.slice none 0 0] 27)
  clear BSa BZa HBa hz2 cS fS cX cS1 fS1 zS1 zX1 zZ1 KS1 KZ1 KB1 KS KX KZ KB
  generalize (W2.alloc (Obj.cells #[Value.int IntKind.i64 (s.l 2).S, Value.int IntKind.i64 q, Value.int IntKind.i64 0] 41)).alloc (Obj.cells #[Value.int IntKind.i64 18, Value.int IntKind.i64 (s.l 2).S, Value.int IntKind.i64 4, Value.int IntKind.i64 0, Value.int IntKind.i64 0, Value.int IntKind.i64 (s.l 2).E, Value.slice none 0 0, Value.slice none 0 0] 27) = wc at BS BZ BM HB ⊢
  have h80' : (s.setL 2 ⟨(s.l 2).S, q, 0⟩).ow.length = 80 := h80
  have e1 : (s.setL 2 ⟨(s.l 2).S, q, 0⟩).fl = s.fl := rfl
  have e2 : (s.setL 2 ⟨(s.l 2).S, q, 0⟩).sn = s.sn := rfl
  generalize s.setL 2 ⟨(s.l 2).S, q, 0⟩ = s2 at *
  have hst : StAt wc (.agg (stC s2 (Value.slice Fa s.fl.length Fc) (Value.slice Na s.sn.length Nc))) s2 := ⟨_, _, rfl, h80', by rw [e1]; exact HF.out.below HB, by rw [e2]; exact HN.out.below HB⟩
  have hcall : Hid (Calls Try.prog 30 #[.agg (stC s2 (Value.slice Fa s.fl.length Fc) (Value.slice Na s.sn.length Nc)), .agg #[Value.int IntKind.i64 18, Value.int IntKind.i64 (s.l 2).S, Value.int IntKind.i64 4, Value.int IntKind.i64 0, Value.int IntKind.i64 0, Value.int IntKind.i64 (s.l 2).E, Value.slice none 0 0, Value.slice none 0 0]] wc (RetS wc (.agg (stC s2 (Value.slice Fa s.fl.length Fc) (Value.slice Na s.sn.length Nc))) (reqS s2 ⟨18, (s.l 2).S, 4, 0, 0, (s.l 2).E⟩))) := Lib.hid (req_c wc _ s2 _ _ _ _ _ _ hst (by rw [e2]; exact h1) (by rw [e1]; exact h2))
  have hg2n : ∀ b, rowsOf (.agg (stC s2 (Value.slice Fa s.fl.length Fc) (Value.slice Na s.sn.length Nc))) b → b ≠ w.heap.size + 1 + 1 ∧ (w.heap.size ≤ b ∨ rowsOf (.agg (stC s (Value.slice Fa s.fl.length Fc) (Value.slice Na s.sn.length Nc))) b) := fun b hb => by
    rcases rows_of hb with h | h
    · have := HF.out.own h; exact ⟨by omega, .inr (rows_F h)⟩
    · have := HN.out.own h; exact ⟨by omega, .inr (rows_N h)⟩
  have hG2 := Lib.hid hg2n
  have cS := BS.cell
  have cM := BM.cell
  have zS2 := BS.lt
  have zM2 := BM.lt
  have zZ2 := BZ.lt
  have zB2 := HB.size
  have KS := Lib.hid BS
  have KZ := Lib.hid BZ
  have KM := Lib.hid BM
  have KB := Lib.hid HB
  clear BS BZ BM HB hst hg2n e1 e2
  generalize reqS s2 ⟨18, (s.l 2).S, 4, 0, 0, (s.l 2).E⟩ = s9 at *
  go_wp2_with (first | (refine st_load rfl _ rfl w.heap.size rfl s2 _ _ KS.out h80' ?_) | (go_at_call 30; refine hcall.out.mono ?_; rintro r w1 ⟨v1, rfl, ⟨F1, N1, rfl, h81, hF1, hN1⟩, hb, hown⟩; obtain ⟨Fa1, Fc1, rfl⟩ := hF1.form; obtain ⟨Na1, Nc1, rfl⟩ := hN1.form; have HF1 := Lib.hid hF1; have HN1 := Lib.hid hN1; have HO1 := Lib.hid hown; have HB1 := Lib.hid (bl_trans KB.out hb); have BZ1 := Blk.below KZ.out hb; have zZ1 := BZ1.lt; have KZ1 := Lib.hid BZ1; clear hF1 hN1 hb hown BZ1) | (refine st_store rfl _ _ rfl (w.heap.size + 1 + 1) s9 _ _ _ _ _ _ rfl rfl zeroC KZ1.out hz0 h81 ?_))
  have hsz : (stC s9 (Value.slice Fa1 s9.fl.length Fc1) (Value.slice Na1 s9.sn.length Nc1)).size = zeroC.size := by rw [stC_size _ _ _ h81, hz0]
  have HB3 := bl_sets (B := w.heap.size) (b := w.heap.size + 1 + 1) (a := w) (by omega) (stC s9 (Value.slice Fa1 s9.fl.length Fc1) (Value.slice Na1 s9.sn.length Nc1)).toList 0 w1 HB1.out
  have hO2 : ∀ b, rowsOf (.agg (stC s9 (Value.slice Fa1 s9.fl.length Fc1) (Value.slice Na1 s9.sn.length Nc1))) b → b ≠ w.heap.size + 1 + 1 ∧ (w.heap.size ≤ b ∨ rowsOf (.agg (stC s (Value.slice Fa s.fl.length Fc) (Value.slice Na s.sn.length Nc))) b) := fun b hb => by
    rcases HO1.out b hb with h | h
    · exact ⟨by omega, .inl (by omega)⟩
    · exact hG2.out b h
  have HF3 := HF1.out.setAllOther (b' := w.heap.size + 1 + 1) (fun b hb => (hO2 b (rows_F hb)).1) 0 (stC s9 (Value.slice Fa1 s9.fl.length Fc1) (Value.slice Na1 s9.sn.length Nc1)).toList
  have HN3 := HN1.out.setAllOther (b' := w.heap.size + 1 + 1) (fun b hb => (hO2 b (rows_N hb)).1) 0 (stC s9 (Value.slice Fa1 s9.fl.length Fc1) (Value.slice Na1 s9.sn.length Nc1)).toList
  have BZ3 := KZ1.out.setAll _ hsz
  exact bodyPost_ret (st_result rfl _ _ (w.heap.size + 1 + 1) s9 _ _ rfl BZ3 h81) rfl ⟨_, rfl, ⟨_, _, rfl, h81, HF3, HN3⟩, HB3, fun b hb => (hO2 b hb).2⟩

end Go.Proofs.Ytmgnpjaemjpamaa
