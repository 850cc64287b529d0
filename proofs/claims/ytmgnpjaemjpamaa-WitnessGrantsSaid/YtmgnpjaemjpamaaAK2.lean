/- The contract of State.step: a site asks. -/
import Derived.Test.YtmgnpjaemjpamaaAJ
set_option linter.unusedSimpArgs false
set_option linter.unusedVariables false
namespace Go.Proofs.Ytmgnpjaemjpamaa
open Go.RowKit
attribute [local go_sem] st0 st1 st2 st3 st4 st5 st6 st7 st8 st9 st10 st11 st12 st13 st14 st95
attribute [local go_sem ↓ high] mx2_run

set_option maxRecDepth 100000 in
set_option maxHeartbeats 8000000 in
theorem step_ask2 (w : World) (v : Value) (s : SS) (kind site which : Nat) (hS : StAt w v s) (h1 : s.sn.length ≤ 1000) (h2 : s.fl.length ≤ 1000) (hs : (wrap64 (site : Int)).tmod 3 = 2) (hk0 : (kind : Int) % 7 = 0) (ep : Int) (hep : IntKind.i64.wrap (mx2 (s.l 2).E s.E + (IntKind.i64.wrap (which : Int)).tmod 3) = ep) (hA : askE (s.l 2).S (s.l 2).E (s.l 2).U ep = 0) :
    Calls Try.prog 28 #[v, evV kind site which] w (RetS w v (reqS s ⟨15, (s.l 2).S, 4, 0, 0, ep⟩)) := by
  unfold evV
  obtain ⟨F, N, rfl, h80, hF, hN⟩ := hS
  obtain ⟨Fa, Fc, rfl⟩ := hF.form
  obtain ⟨Na, Nc, rfl⟩ := hN.form
  have HF := Lib.hid hF
  have HN := Lib.hid hN
  clear hF hN
  have hz58 := z58
  go_enter Try.func28, Try.ntmps28
  go_upto_region 1 with (fail)
  obtain ⟨W0, hW⟩ : ∃ W0, W0 = (((w.alloc (Obj.cells (stC s (Value.slice Fa s.fl.length Fc) (Value.slice Na s.sn.length Nc)) 58)).alloc (Obj.cells #[.int .u8 kind, .int .u8 site, .int .u8 which] 62)).alloc (Obj.cells zeroC 58)) := ⟨_, rfl⟩
  rw [← hW]
  have BS : Blk W0 w.heap.size (stC s (Value.slice Fa s.fl.length Fc) (Value.slice Na s.sn.length Nc)) := by rw [hW]; exact ((Blk.new _ _ _).alloc _).alloc _
  have BX : Blk W0 (w.heap.size + 1) #[.int .u8 kind, .int .u8 site, .int .u8 which] := by rw [hW]; exact (Blk.new1 _ _ _ _).alloc _
  have BZ : Blk W0 (w.heap.size + 1 + 1) zeroC := by rw [hW]; exact Blk.new2 _ _ _ _ _
  have HB : Below w.heap.size w W0 := by rw [hW]; exact bl_alloc (bl_alloc (bl_alloc (Below.refl _ _) _) _) _
  clear hW
  have cS := BS.cell
  have fS := BS.frozen
  have cX := BX.cell
  have zS := BS.lt
  have zX := BX.lt
  have zZ := BZ.lt
  have zB := HB.size
  have KS := Lib.hid BS
  have KX := Lib.hid BX
  have KZ := Lib.hid BZ
  have KB := Lib.hid HB
  clear BS BX BZ HB
  have hz0 : zeroC.size = 96 := stC_size zeroSt _ _ rfl
  go_upto_region 5 with (fail)
  simp only [hk0]
  go_cut [6, 7] (fun v6 v7 w' => StepMid w (stC s (Value.slice Fa s.fl.length Fc) (Value.slice Na s.sn.length Nc)) #[.int .u8 kind, .int .u8 site, .int .u8 which] #[.int .i64 15, .int .i64 (s.l 2).S, .int .i64 4, .int .i64 0, .int .i64 0, .int .i64 ep, .slice none 0 0, .slice none 0 0] 0 v6 v7 w')
  case first =>
    go_region_held3 (fun w' => (∀ o, w'.cell? ⟨w.heap.size, o, none⟩ = ((stC s (Value.slice Fa s.fl.length Fc) (Value.slice Na s.sn.length Nc)))[o]?) ∧ (∀ o, w'.cell? ⟨w.heap.size + 1, o, none⟩ = (#[.int .u8 kind, .int .u8 site, .int .u8 which] : Array Value)[o]?)) (first | (with_reducible exact ⟨cS, cX⟩) | (with_reducible exact ⟨cS1, cX1⟩) | (refine ⟨Blk.cell ?_, Blk.cell ?_⟩; (focus (repeat (with_reducible first | exact KS1.out | exact KX1.out | exact KZ1.out | exact KM1.out | exact KB1.out | exact KS.out | exact KX.out | exact KZ.out | exact KB.out | exact Blk.new _ _ _ | apply Blk.drew | apply Blk.alloc | apply Below.drew | apply bl_alloc | refine Blk.other ?_ ?_ _ _ | refine bl_set ?_ ?_ _ _ | omega))); (focus (repeat (with_reducible first | exact KS1.out | exact KX1.out | exact KZ1.out | exact KM1.out | exact KB1.out | exact KS.out | exact KX.out | exact KZ.out | exact KB.out | exact Blk.new _ _ _ | apply Blk.drew | apply Blk.alloc | apply Below.drew | apply bl_alloc | refine Blk.other ?_ ?_ _ _ | refine bl_set ?_ ?_ _ _ | omega))); done)) ((go_at_call 19; refine (ask_ok hA _).mono ?_; rintro r w1 ⟨rfl, hb⟩; have BS1 : Blk w1 w.heap.size ((stC s (Value.slice Fa s.fl.length Fc) (Value.slice Na s.sn.length Nc))) := (Blk.below (by (focus (repeat (with_reducible first | exact KS1.out | exact KX1.out | exact KZ1.out | exact KM1.out | exact KB1.out | exact KS.out | exact KX.out | exact KZ.out | exact KB.out | exact Blk.new _ _ _ | apply Blk.drew | apply Blk.alloc | apply Below.drew | apply bl_alloc | refine Blk.other ?_ ?_ _ _ | refine bl_set ?_ ?_ _ _ | omega)))) hb); have BX1 : Blk w1 (w.heap.size + 1) #[.int .u8 kind, .int .u8 site, .int .u8 which] := (Blk.below (by (focus (repeat (with_reducible first | exact KS1.out | exact KX1.out | exact KZ1.out | exact KM1.out | exact KB1.out | exact KS.out | exact KX.out | exact KZ.out | exact KB.out | exact Blk.new _ _ _ | apply Blk.drew | apply Blk.alloc | apply Below.drew | apply bl_alloc | refine Blk.other ?_ ?_ _ _ | refine bl_set ?_ ?_ _ _ | omega)))) hb); have BZ1 : Blk w1 (w.heap.size + 1 + 1) zeroC := (Blk.below (by (focus (repeat (with_reducible first | exact KS1.out | exact KX1.out | exact KZ1.out | exact KM1.out | exact KB1.out | exact KS.out | exact KX.out | exact KZ.out | exact KB.out | exact Blk.new _ _ _ | apply Blk.drew | apply Blk.alloc | apply Below.drew | apply bl_alloc | refine Blk.other ?_ ?_ _ _ | refine bl_set ?_ ?_ _ _ | omega)))) hb); have HB1 : Below w.heap.size w w1 := (bl_trans (by (focus (repeat (with_reducible first | exact KS1.out | exact KX1.out | exact KZ1.out | exact KM1.out | exact KB1.out | exact KS.out | exact KX.out | exact KZ.out | exact KB.out | exact Blk.new _ _ _ | apply Blk.drew | apply Blk.alloc | apply Below.drew | apply bl_alloc | refine Blk.other ?_ ?_ _ _ | refine bl_set ?_ ?_ _ _ | omega)))) hb); (first | (have BM1 : Blk w1 W0.heap.size #[.int .i64 0, .int .i64 0, .int .i64 0, .int .i64 0, .int .i64 0, .int .i64 0, .slice none 0 0, .slice none 0 0] := (Blk.below (by with_reducible (first | exact Blk.new _ _ _ | exact Blk.drew (Blk.new _ _ _))) hb); have cM1 := BM1.cell; have fM1 := BM1.frozen; have zM1 := BM1.lt; have KM1 := Lib.hid BM1; clear BM1) | skip); have cS1 := BS1.cell; have cX1 := BX1.cell; have zS1 := BS1.lt; have zX1 := BX1.lt; have zZ1 := BZ1.lt; have KS1 := Lib.hid BS1; have KX1 := Lib.hid BX1; have KZ1 := Lib.hid BZ1; have KB1 := Lib.hid HB1; clear BS1 BX1 BZ1 HB1 hb))
    all_goals
      clear hs hep
      go_wp2_with fail
      go_meet
      refine ⟨rfl, _, rfl, ?_, ?_, ?_, ?_, ?_⟩
      · omega
      · (focus (repeat (with_reducible first | exact KS1.out | exact KX1.out | exact KZ1.out | exact KM1.out | exact KB1.out | exact KS.out | exact KX.out | exact KZ.out | exact KB.out | exact Blk.new _ _ _ | apply Blk.drew | apply Blk.alloc | apply Below.drew | apply bl_alloc | refine Blk.other ?_ ?_ _ _ | refine bl_set ?_ ?_ _ _ | omega)))
      · (focus (repeat (with_reducible first | exact KS1.out | exact KX1.out | exact KZ1.out | exact KM1.out | exact KB1.out | exact KS.out | exact KX.out | exact KZ.out | exact KB.out | exact Blk.new _ _ _ | apply Blk.drew | apply Blk.alloc | apply Below.drew | apply bl_alloc | refine Blk.other ?_ ?_ _ _ | refine bl_set ?_ ?_ _ _ | omega)))
      · (first | (with_reducible exact Blk.new _ _ _) | exact Blk.cast ((((((((KM1.out.set 0 _).set 1 _).set 2 _).set 3 _).set 4 _).set 5 _).set 6 _).set 7 _) rfl)
      · (focus (repeat (with_reducible first | exact KS1.out | exact KX1.out | exact KZ1.out | exact KM1.out | exact KB1.out | exact KS.out | exact KX.out | exact KZ.out | exact KB.out | exact Blk.new _ _ _ | apply Blk.drew | apply Blk.alloc | apply Below.drew | apply bl_alloc | refine Blk.other ?_ ?_ _ _ | refine bl_set ?_ ?_ _ _ | omega)))
  case rest =>
    obtain ⟨rfl, mb, rfl, hmb, BS, BZ, BM, HB⟩ := hcut
    clear hs hep
    have cS := BS.cell
    have cM := BM.cell
    have zS2 := BS.lt
    have zM2 := BM.lt
    have zZ2 := BZ.lt
    have zB2 := HB.size
    have KS := Lib.hid BS
    have KZ := Lib.hid BZ
    have KM := Lib.hid BM
    have KB := Lib.hid HB
    clear BS BZ BM HB
    have hst : StAt wc (.agg (stC s (Value.slice Fa s.fl.length Fc) (Value.slice Na s.sn.length Nc))) s := ⟨_, _, rfl, h80, HF.out.below KB.out, HN.out.below KB.out⟩
    have hcall : Hid (Calls Try.prog 30 #[.agg (stC s (Value.slice Fa s.fl.length Fc) (Value.slice Na s.sn.length Nc)), .agg #[.int .i64 15, .int .i64 (s.l 2).S, .int .i64 4, .int .i64 0, .int .i64 0, .int .i64 ep, .slice none 0 0, .slice none 0 0]] wc (RetS wc (.agg (stC s (Value.slice Fa s.fl.length Fc) (Value.slice Na s.sn.length Nc))) (reqS s ⟨15, (s.l 2).S, 4, 0, 0, ep⟩))) := Lib.hid (req_c wc _ s _ _ _ _ _ _ hst h1 h2)
    have hg2n : ∀ b, rowsOf (.agg (stC s (Value.slice Fa s.fl.length Fc) (Value.slice Na s.sn.length Nc))) b → b ≠ w.heap.size + 1 + 1 ∧ (w.heap.size ≤ b ∨ rowsOf (.agg (stC s (Value.slice Fa s.fl.length Fc) (Value.slice Na s.sn.length Nc))) b) := fun b hb => by
      rcases rows_of hb with h | h
      · have := HF.out.own h; exact ⟨by omega, .inr (rows_F h)⟩
      · have := HN.out.own h; exact ⟨by omega, .inr (rows_N h)⟩
    have hG2 := Lib.hid hg2n
    clear hst hg2n
    generalize reqS s ⟨15, (s.l 2).S, 4, 0, 0, ep⟩ = s9 at *
    go_upto_region 7 with (fail)
    go_wp2_with (first | (refine st_load rfl _ rfl w.heap.size rfl s _ _ KS.out h80 ?_) | (go_at_call 30; refine hcall.out.mono ?_; rintro r w1 ⟨v1, rfl, ⟨F1, N1, rfl, h81, hF1, hN1⟩, hb, hown⟩; obtain ⟨Fa1, Fc1, rfl⟩ := hF1.form; obtain ⟨Na1, Nc1, rfl⟩ := hN1.form; have HF1 := Lib.hid hF1; have HN1 := Lib.hid hN1; have HO1 := Lib.hid hown; have HB1 := Lib.hid (bl_trans KB.out hb); have BZ1 := Blk.below KZ.out hb; have zZ1 := BZ1.lt; have KZ1 := Lib.hid BZ1; clear hF1 hN1 hb hown BZ1) | (refine st_store rfl _ _ rfl (w.heap.size + 1 + 1) s9 _ _ _ _ _ _ rfl rfl zeroC KZ1.out hz0 h81 ?_))
    have hsz : (stC s9 (Value.slice Fa1 s9.fl.length Fc1) (Value.slice Na1 s9.sn.length Nc1)).size = zeroC.size := by rw [stC_size _ _ _ h81, hz0]
    have HB3 := bl_sets (B := w.heap.size) (b := w.heap.size + 1 + 1) (a := w) (by omega) (stC s9 (Value.slice Fa1 s9.fl.length Fc1) (Value.slice Na1 s9.sn.length Nc1)).toList 0 w1 HB1.out
    have hO2 : ∀ b, rowsOf (.agg (stC s9 (Value.slice Fa1 s9.fl.length Fc1) (Value.slice Na1 s9.sn.length Nc1))) b → b ≠ w.heap.size + 1 + 1 ∧ (w.heap.size ≤ b ∨ rowsOf (.agg (stC s (Value.slice Fa s.fl.length Fc) (Value.slice Na s.sn.length Nc))) b) := fun b hb => by
      rcases HO1.out b hb with h | h
      · exact ⟨by omega, .inl (by omega)⟩
      · exact hG2.out b h
    have HF3 := HF1.out.setAllOther (b' := w.heap.size + 1 + 1) (fun b hb => (hO2 b (rows_F hb)).1) 0 (stC s9 (Value.slice Fa1 s9.fl.length Fc1) (Value.slice Na1 s9.sn.length Nc1)).toList
    have HN3 := HN1.out.setAllOther (b' := w.heap.size + 1 + 1) (fun b hb => (hO2 b (rows_N hb)).1) 0 (stC s9 (Value.slice Fa1 s9.fl.length Fc1) (Value.slice Na1 s9.sn.length Nc1)).toList
    have BZ3 := KZ1.out.setAll _ hsz
    exact bodyPost_ret (st_result rfl _ _ (w.heap.size + 1 + 1) s9 _ _ rfl BZ3 h81) rfl ⟨_, rfl, ⟨_, _, rfl, h81, HF3, HN3⟩, HB3, fun b hb => (hO2 b hb).2⟩
set_option maxRecDepth 100000 in
set_option maxHeartbeats 8000000 in
theorem step_ask2n (w : World) (v : Value) (s : SS) (kind site which : Nat) (hS : StAt w v s) (h1 : s.sn.length ≤ 1000) (h2 : s.fl.length ≤ 1000) (hs : (wrap64 (site : Int)).tmod 3 = 2) (hk0 : (kind : Int) % 7 = 0) (ep : Int) (hep : IntKind.i64.wrap (mx2 (s.l 2).E s.E + (IntKind.i64.wrap (which : Int)).tmod 3) = ep) (x : Int) (hx : ¬ x = 0) (hA : askE (s.l 2).S (s.l 2).E (s.l 2).U ep = x) :
    Calls Try.prog 28 #[v, evV kind site which] w (RetS w v (s)) := by
  unfold evV
  obtain ⟨F, N, rfl, h80, hF, hN⟩ := hS
  obtain ⟨Fa, Fc, rfl⟩ := hF.form
  obtain ⟨Na, Nc, rfl⟩ := hN.form
  have HF := Lib.hid hF
  have HN := Lib.hid hN
  clear hF hN
  have hz58 := z58
  go_enter Try.func28, Try.ntmps28
  go_upto_region 1 with (fail)
  obtain ⟨W0, hW⟩ : ∃ W0, W0 = (((w.alloc (Obj.cells (stC s (Value.slice Fa s.fl.length Fc) (Value.slice Na s.sn.length Nc)) 58)).alloc (Obj.cells #[.int .u8 kind, .int .u8 site, .int .u8 which] 62)).alloc (Obj.cells zeroC 58)) := ⟨_, rfl⟩
  rw [← hW]
  have BS : Blk W0 w.heap.size (stC s (Value.slice Fa s.fl.length Fc) (Value.slice Na s.sn.length Nc)) := by rw [hW]; exact ((Blk.new _ _ _).alloc _).alloc _
  have BX : Blk W0 (w.heap.size + 1) #[.int .u8 kind, .int .u8 site, .int .u8 which] := by rw [hW]; exact (Blk.new1 _ _ _ _).alloc _
  have BZ : Blk W0 (w.heap.size + 1 + 1) zeroC := by rw [hW]; exact Blk.new2 _ _ _ _ _
  have HB : Below w.heap.size w W0 := by rw [hW]; exact bl_alloc (bl_alloc (bl_alloc (Below.refl _ _) _) _) _
  clear hW
  have cS := BS.cell
  have fS := BS.frozen
  have cX := BX.cell
  have zS := BS.lt
  have zX := BX.lt
  have zZ := BZ.lt
  have zB := HB.size
  have KS := Lib.hid BS
  have KX := Lib.hid BX
  have KZ := Lib.hid BZ
  have KB := Lib.hid HB
  clear BS BX BZ HB
  have hz0 : zeroC.size = 96 := stC_size zeroSt _ _ rfl
  go_upto_region 5 with (fail)
  simp only [hk0]
  go_cut [6, 7] (fun v6 v7 w' => StepMid w (stC s (Value.slice Fa s.fl.length Fc) (Value.slice Na s.sn.length Nc)) #[.int .u8 kind, .int .u8 site, .int .u8 which] #[.int .i64 0, .int .i64 0, .int .i64 0, .int .i64 0, .int .i64 0, .int .i64 0, .slice none 0 0, .slice none 0 0] x v6 v7 w')
  case first =>
    go_region_held3 (fun w' => (∀ o, w'.cell? ⟨w.heap.size, o, none⟩ = ((stC s (Value.slice Fa s.fl.length Fc) (Value.slice Na s.sn.length Nc)))[o]?) ∧ (∀ o, w'.cell? ⟨w.heap.size + 1, o, none⟩ = (#[.int .u8 kind, .int .u8 site, .int .u8 which] : Array Value)[o]?)) (first | (with_reducible exact ⟨cS, cX⟩) | (with_reducible exact ⟨cS1, cX1⟩) | (refine ⟨Blk.cell ?_, Blk.cell ?_⟩; (focus (repeat (with_reducible first | exact KS1.out | exact KX1.out | exact KZ1.out | exact KM1.out | exact KB1.out | exact KS.out | exact KX.out | exact KZ.out | exact KB.out | exact Blk.new _ _ _ | apply Blk.drew | apply Blk.alloc | apply Below.drew | apply bl_alloc | refine Blk.other ?_ ?_ _ _ | refine bl_set ?_ ?_ _ _ | omega))); (focus (repeat (with_reducible first | exact KS1.out | exact KX1.out | exact KZ1.out | exact KM1.out | exact KB1.out | exact KS.out | exact KX.out | exact KZ.out | exact KB.out | exact Blk.new _ _ _ | apply Blk.drew | apply Blk.alloc | apply Below.drew | apply bl_alloc | refine Blk.other ?_ ?_ _ _ | refine bl_set ?_ ?_ _ _ | omega))); done)) ((go_at_call 19; refine (ask_no hA hx _).mono ?_; rintro r w1 ⟨rfl, hb⟩; have BS1 : Blk w1 w.heap.size ((stC s (Value.slice Fa s.fl.length Fc) (Value.slice Na s.sn.length Nc))) := (Blk.below (by (focus (repeat (with_reducible first | exact KS1.out | exact KX1.out | exact KZ1.out | exact KM1.out | exact KB1.out | exact KS.out | exact KX.out | exact KZ.out | exact KB.out | exact Blk.new _ _ _ | apply Blk.drew | apply Blk.alloc | apply Below.drew | apply bl_alloc | refine Blk.other ?_ ?_ _ _ | refine bl_set ?_ ?_ _ _ | omega)))) hb); have BX1 : Blk w1 (w.heap.size + 1) #[.int .u8 kind, .int .u8 site, .int .u8 which] := (Blk.below (by (focus (repeat (with_reducible first | exact KS1.out | exact KX1.out | exact KZ1.out | exact KM1.out | exact KB1.out | exact KS.out | exact KX.out | exact KZ.out | exact KB.out | exact Blk.new _ _ _ | apply Blk.drew | apply Blk.alloc | apply Below.drew | apply bl_alloc | refine Blk.other ?_ ?_ _ _ | refine bl_set ?_ ?_ _ _ | omega)))) hb); have BZ1 : Blk w1 (w.heap.size + 1 + 1) zeroC := (Blk.below (by (focus (repeat (with_reducible first | exact KS1.out | exact KX1.out | exact KZ1.out | exact KM1.out | exact KB1.out | exact KS.out | exact KX.out | exact KZ.out | exact KB.out | exact Blk.new _ _ _ | apply Blk.drew | apply Blk.alloc | apply Below.drew | apply bl_alloc | refine Blk.other ?_ ?_ _ _ | refine bl_set ?_ ?_ _ _ | omega)))) hb); have HB1 : Below w.heap.size w w1 := (bl_trans (by (focus (repeat (with_reducible first | exact KS1.out | exact KX1.out | exact KZ1.out | exact KM1.out | exact KB1.out | exact KS.out | exact KX.out | exact KZ.out | exact KB.out | exact Blk.new _ _ _ | apply Blk.drew | apply Blk.alloc | apply Below.drew | apply bl_alloc | refine Blk.other ?_ ?_ _ _ | refine bl_set ?_ ?_ _ _ | omega)))) hb); (first | (have BM1 : Blk w1 W0.heap.size #[.int .i64 0, .int .i64 0, .int .i64 0, .int .i64 0, .int .i64 0, .int .i64 0, .slice none 0 0, .slice none 0 0] := (Blk.below (by with_reducible (first | exact Blk.new _ _ _ | exact Blk.drew (Blk.new _ _ _))) hb); have cM1 := BM1.cell; have fM1 := BM1.frozen; have zM1 := BM1.lt; have KM1 := Lib.hid BM1; clear BM1) | skip); have cS1 := BS1.cell; have cX1 := BX1.cell; have zS1 := BS1.lt; have zX1 := BX1.lt; have zZ1 := BZ1.lt; have KS1 := Lib.hid BS1; have KX1 := Lib.hid BX1; have KZ1 := Lib.hid BZ1; have KB1 := Lib.hid HB1; clear BS1 BX1 BZ1 HB1 hb))
    all_goals
      clear hs hep
      go_wp2_with fail
      go_meet
      refine ⟨rfl, _, rfl, ?_, ?_, ?_, ?_, ?_⟩
      · omega
      · (focus (repeat (with_reducible first | exact KS1.out | exact KX1.out | exact KZ1.out | exact KM1.out | exact KB1.out | exact KS.out | exact KX.out | exact KZ.out | exact KB.out | exact Blk.new _ _ _ | apply Blk.drew | apply Blk.alloc | apply Below.drew | apply bl_alloc | refine Blk.other ?_ ?_ _ _ | refine bl_set ?_ ?_ _ _ | omega)))
      · (focus (repeat (with_reducible first | exact KS1.out | exact KX1.out | exact KZ1.out | exact KM1.out | exact KB1.out | exact KS.out | exact KX.out | exact KZ.out | exact KB.out | exact Blk.new _ _ _ | apply Blk.drew | apply Blk.alloc | apply Below.drew | apply bl_alloc | refine Blk.other ?_ ?_ _ _ | refine bl_set ?_ ?_ _ _ | omega)))
      · (first | (with_reducible exact Blk.new _ _ _) | exact Blk.cast ((((((((KM1.out.set 0 _).set 1 _).set 2 _).set 3 _).set 4 _).set 5 _).set 6 _).set 7 _) rfl)
      · (focus (repeat (with_reducible first | exact KS1.out | exact KX1.out | exact KZ1.out | exact KM1.out | exact KB1.out | exact KS.out | exact KX.out | exact KZ.out | exact KB.out | exact Blk.new _ _ _ | apply Blk.drew | apply Blk.alloc | apply Below.drew | apply bl_alloc | refine Blk.other ?_ ?_ _ _ | refine bl_set ?_ ?_ _ _ | omega)))
  case rest =>
    obtain ⟨rfl, mb, rfl, hmb, BS, BZ, BM, HB⟩ := hcut
    clear hs hep
    have cS := BS.cell
    have cM := BM.cell
    have zS2 := BS.lt
    have zM2 := BM.lt
    have zZ2 := BZ.lt
    have zB2 := HB.size
    have KS := Lib.hid BS
    have KZ := Lib.hid BZ
    have KM := Lib.hid BM
    have KB := Lib.hid HB
    clear BS BZ BM HB
    go_upto_region 18 with (fail)
    go_wp2_with (first | (refine st_load rfl _ rfl w.heap.size rfl s _ _ KS.out h80 ?_) | (refine st_store rfl _ _ rfl (w.heap.size + 1 + 1) s _ _ _ _ _ _ rfl rfl zeroC KZ.out hz0 h80 ?_))
    have hsz : ((stC s (Value.slice Fa s.fl.length Fc) (Value.slice Na s.sn.length Nc))).size = zeroC.size := by rw [stC_size _ _ _ h80, hz0]
    have HB3 := bl_sets (B := w.heap.size) (b := w.heap.size + 1 + 1) (a := w) (by omega) ((stC s (Value.slice Fa s.fl.length Fc) (Value.slice Na s.sn.length Nc))).toList 0 wc KB.out
    have HF3 := HF.out.below HB3
    have HN3 := HN.out.below HB3
    have BZ3 := KZ.out.setAll _ hsz
    exact bodyPost_ret (st_result rfl _ _ (w.heap.size + 1 + 1) s _ _ rfl BZ3 h80) rfl ⟨_, rfl, ⟨_, _, rfl, h80, HF3, HN3⟩, HB3, own_gen own_F own_N⟩
set_option maxRecDepth 100000 in
set_option maxHeartbeats 8000000 in
theorem step_ren2 (w : World) (v : Value) (s : SS) (kind site which : Nat) (hS : StAt w v s) (h1 : s.sn.length ≤ 1000) (h2 : s.fl.length ≤ 1000) (hs : (wrap64 (site : Int)).tmod 3 = 2) (hk0 : ¬ (kind : Int) % 7 = 0) (hk1 : (kind : Int) % 7 = 1) (hA : renE (s.l 2).S (s.l 2).E (s.l 2).U = 0) :
    Calls Try.prog 28 #[v, evV kind site which] w (RetS w v (reqS s ⟨17, (s.l 2).S, 4, 0, 0, (s.l 2).E⟩)) := by
  unfold evV
  obtain ⟨F, N, rfl, h80, hF, hN⟩ := hS
  obtain ⟨Fa, Fc, rfl⟩ := hF.form
  obtain ⟨Na, Nc, rfl⟩ := hN.form
  have HF := Lib.hid hF
  have HN := Lib.hid hN
  clear hF hN
  have hz58 := z58
  go_enter Try.func28, Try.ntmps28
  go_upto_region 1 with (fail)
  obtain ⟨W0, hW⟩ : ∃ W0, W0 = (((w.alloc (Obj.cells (stC s (Value.slice Fa s.fl.length Fc) (Value.slice Na s.sn.length Nc)) 58)).alloc (Obj.cells #[.int .u8 kind, .int .u8 site, .int .u8 which] 62)).alloc (Obj.cells zeroC 58)) := ⟨_, rfl⟩
  rw [← hW]
  have BS : Blk W0 w.heap.size (stC s (Value.slice Fa s.fl.length Fc) (Value.slice Na s.sn.length Nc)) := by rw [hW]; exact ((Blk.new _ _ _).alloc _).alloc _
  have BX : Blk W0 (w.heap.size + 1) #[.int .u8 kind, .int .u8 site, .int .u8 which] := by rw [hW]; exact (Blk.new1 _ _ _ _).alloc _
  have BZ : Blk W0 (w.heap.size + 1 + 1) zeroC := by rw [hW]; exact Blk.new2 _ _ _ _ _
  have HB : Below w.heap.size w W0 := by rw [hW]; exact bl_alloc (bl_alloc (bl_alloc (Below.refl _ _) _) _) _
  clear hW
  have cS := BS.cell
  have fS := BS.frozen
  have cX := BX.cell
  have zS := BS.lt
  have zX := BX.lt
  have zZ := BZ.lt
  have zB := HB.size
  have KS := Lib.hid BS
  have KX := Lib.hid BX
  have KZ := Lib.hid BZ
  have KB := Lib.hid HB
  clear BS BX BZ HB
  have hz0 : zeroC.size = 96 := stC_size zeroSt _ _ rfl
  go_upto_region 9 with (fail)
  simp only [hk1]
  go_cut [8, 9] (fun v6 v7 w' => StepMid w (stC s (Value.slice Fa s.fl.length Fc) (Value.slice Na s.sn.length Nc)) #[.int .u8 kind, .int .u8 site, .int .u8 which] #[.int .i64 17, .int .i64 (s.l 2).S, .int .i64 4, .int .i64 0, .int .i64 0, .int .i64 (s.l 2).E, .slice none 0 0, .slice none 0 0] 0 v6 v7 w')
  case first =>
    go_wp2_with (first | (go_at_call 21; refine (ren_ok hA _).mono ?_; rintro r w1 ⟨rfl, hb⟩; have BS1 : Blk w1 w.heap.size ((stC s (Value.slice Fa s.fl.length Fc) (Value.slice Na s.sn.length Nc))) := (Blk.below (by (focus (repeat (with_reducible first | exact KS1.out | exact KX1.out | exact KZ1.out | exact KM1.out | exact KB1.out | exact KS.out | exact KX.out | exact KZ.out | exact KB.out | exact Blk.new _ _ _ | apply Blk.drew | apply Blk.alloc | apply Below.drew | apply bl_alloc | refine Blk.other ?_ ?_ _ _ | refine bl_set ?_ ?_ _ _ | omega)))) hb); have BX1 : Blk w1 (w.heap.size + 1) #[.int .u8 kind, .int .u8 site, .int .u8 which] := (Blk.below (by (focus (repeat (with_reducible first | exact KS1.out | exact KX1.out | exact KZ1.out | exact KM1.out | exact KB1.out | exact KS.out | exact KX.out | exact KZ.out | exact KB.out | exact Blk.new _ _ _ | apply Blk.drew | apply Blk.alloc | apply Below.drew | apply bl_alloc | refine Blk.other ?_ ?_ _ _ | refine bl_set ?_ ?_ _ _ | omega)))) hb); have BZ1 : Blk w1 (w.heap.size + 1 + 1) zeroC := (Blk.below (by (focus (repeat (with_reducible first | exact KS1.out | exact KX1.out | exact KZ1.out | exact KM1.out | exact KB1.out | exact KS.out | exact KX.out | exact KZ.out | exact KB.out | exact Blk.new _ _ _ | apply Blk.drew | apply Blk.alloc | apply Below.drew | apply bl_alloc | refine Blk.other ?_ ?_ _ _ | refine bl_set ?_ ?_ _ _ | omega)))) hb); have HB1 : Below w.heap.size w w1 := (bl_trans (by (focus (repeat (with_reducible first | exact KS1.out | exact KX1.out | exact KZ1.out | exact KM1.out | exact KB1.out | exact KS.out | exact KX.out | exact KZ.out | exact KB.out | exact Blk.new _ _ _ | apply Blk.drew | apply Blk.alloc | apply Below.drew | apply bl_alloc | refine Blk.other ?_ ?_ _ _ | refine bl_set ?_ ?_ _ _ | omega)))) hb); (first | (have BM1 : Blk w1 W0.heap.size #[.int .i64 0, .int .i64 0, .int .i64 0, .int .i64 0, .int .i64 0, .int .i64 0, .slice none 0 0, .slice none 0 0] := (Blk.below (by with_reducible (first | exact Blk.new _ _ _ | exact Blk.drew (Blk.new _ _ _))) hb); have cM1 := BM1.cell; have fM1 := BM1.frozen; have zM1 := BM1.lt; have KM1 := Lib.hid BM1; clear BM1) | skip); have cS1 := BS1.cell; have cX1 := BX1.cell; have zS1 := BS1.lt; have zX1 := BX1.lt; have zZ1 := BZ1.lt; have KS1 := Lib.hid BS1; have KX1 := Lib.hid BX1; have KZ1 := Lib.hid BZ1; have KB1 := Lib.hid HB1; clear BS1 BX1 BZ1 HB1 hb))
    all_goals
      clear hs
      go_meet
      refine ⟨rfl, _, rfl, ?_, ?_, ?_, ?_, ?_⟩
      · omega
      · (focus (repeat (with_reducible first | exact KS1.out | exact KX1.out | exact KZ1.out | exact KM1.out | exact KB1.out | exact KS.out | exact KX.out | exact KZ.out | exact KB.out | exact Blk.new _ _ _ | apply Blk.drew | apply Blk.alloc | apply Below.drew | apply bl_alloc | refine Blk.other ?_ ?_ _ _ | refine bl_set ?_ ?_ _ _ | omega)))
      · (focus (repeat (with_reducible first | exact KS1.out | exact KX1.out | exact KZ1.out | exact KM1.out | exact KB1.out | exact KS.out | exact KX.out | exact KZ.out | exact KB.out | exact Blk.new _ _ _ | apply Blk.drew | apply Blk.alloc | apply Below.drew | apply bl_alloc | refine Blk.other ?_ ?_ _ _ | refine bl_set ?_ ?_ _ _ | omega)))
      · (first | (with_reducible exact Blk.new _ _ _) | exact Blk.cast ((((((((KM1.out.set 0 _).set 1 _).set 2 _).set 3 _).set 4 _).set 5 _).set 6 _).set 7 _) rfl)
      · (focus (repeat (with_reducible first | exact KS1.out | exact KX1.out | exact KZ1.out | exact KM1.out | exact KB1.out | exact KS.out | exact KX.out | exact KZ.out | exact KB.out | exact Blk.new _ _ _ | apply Blk.drew | apply Blk.alloc | apply Below.drew | apply bl_alloc | refine Blk.other ?_ ?_ _ _ | refine bl_set ?_ ?_ _ _ | omega)))
  case rest =>
    obtain ⟨rfl, mb, rfl, hmb, BS, BZ, BM, HB⟩ := hcut
    clear hs
    have cS := BS.cell
    have cM := BM.cell
    have zS2 := BS.lt
    have zM2 := BM.lt
    have zZ2 := BZ.lt
    have zB2 := HB.size
    have KS := Lib.hid BS
    have KZ := Lib.hid BZ
    have KM := Lib.hid BM
    have KB := Lib.hid HB
    clear BS BZ BM HB
    have hst : StAt wc (.agg (stC s (Value.slice Fa s.fl.length Fc) (Value.slice Na s.sn.length Nc))) s := ⟨_, _, rfl, h80, HF.out.below KB.out, HN.out.below KB.out⟩
    have hcall : Hid (Calls Try.prog 30 #[.agg (stC s (Value.slice Fa s.fl.length Fc) (Value.slice Na s.sn.length Nc)), .agg #[.int .i64 17, .int .i64 (s.l 2).S, .int .i64 4, .int .i64 0, .int .i64 0, .int .i64 (s.l 2).E, .slice none 0 0, .slice none 0 0]] wc (RetS wc (.agg (stC s (Value.slice Fa s.fl.length Fc) (Value.slice Na s.sn.length Nc))) (reqS s ⟨17, (s.l 2).S, 4, 0, 0, (s.l 2).E⟩))) := Lib.hid (req_c wc _ s _ _ _ _ _ _ hst h1 h2)
    have hg2n : ∀ b, rowsOf (.agg (stC s (Value.slice Fa s.fl.length Fc) (Value.slice Na s.sn.length Nc))) b → b ≠ w.heap.size + 1 + 1 ∧ (w.heap.size ≤ b ∨ rowsOf (.agg (stC s (Value.slice Fa s.fl.length Fc) (Value.slice Na s.sn.length Nc))) b) := fun b hb => by
      rcases rows_of hb with h | h
      · have := HF.out.own h; exact ⟨by omega, .inr (rows_F h)⟩
      · have := HN.out.own h; exact ⟨by omega, .inr (rows_N h)⟩
    have hG2 := Lib.hid hg2n
    clear hst hg2n
    generalize reqS s ⟨17, (s.l 2).S, 4, 0, 0, (s.l 2).E⟩ = s9 at *
    go_upto_region 11 with (fail)
    go_wp2_with (first | (refine st_load rfl _ rfl w.heap.size rfl s _ _ KS.out h80 ?_) | (go_at_call 30; refine hcall.out.mono ?_; rintro r w1 ⟨v1, rfl, ⟨F1, N1, rfl, h81, hF1, hN1⟩, hb, hown⟩; obtain ⟨Fa1, Fc1, rfl⟩ := hF1.form; obtain ⟨Na1, Nc1, rfl⟩ := hN1.form; have HF1 := Lib.hid hF1; have HN1 := Lib.hid hN1; have HO1 := Lib.hid hown; have HB1 := Lib.hid (bl_trans KB.out hb); have BZ1 := Blk.below KZ.out hb; have zZ1 := BZ1.lt; have KZ1 := Lib.hid BZ1; clear hF1 hN1 hb hown BZ1) | (refine st_store rfl _ _ rfl (w.heap.size + 1 + 1) s9 _ _ _ _ _ _ rfl rfl zeroC KZ1.out hz0 h81 ?_))
    have hsz : (stC s9 (Value.slice Fa1 s9.fl.length Fc1) (Value.slice Na1 s9.sn.length Nc1)).size = zeroC.size := by rw [stC_size _ _ _ h81, hz0]
    have HB3 := bl_sets (B := w.heap.size) (b := w.heap.size + 1 + 1) (a := w) (by omega) (stC s9 (Value.slice Fa1 s9.fl.length Fc1) (Value.slice Na1 s9.sn.length Nc1)).toList 0 w1 HB1.out
    have hO2 : ∀ b, rowsOf (.agg (stC s9 (Value.slice Fa1 s9.fl.length Fc1) (Value.slice Na1 s9.sn.length Nc1))) b → b ≠ w.heap.size + 1 + 1 ∧ (w.heap.size ≤ b ∨ rowsOf (.agg (stC s (Value.slice Fa s.fl.length Fc) (Value.slice Na s.sn.length Nc))) b) := fun b hb => by
      rcases HO1.out b hb with h | h
      · exact ⟨by omega, .inl (by omega)⟩
      · exact hG2.out b h
    have HF3 := HF1.out.setAllOther (b' := w.heap.size + 1 + 1) (fun b hb => (hO2 b (rows_F hb)).1) 0 (stC s9 (Value.slice Fa1 s9.fl.length Fc1) (Value.slice Na1 s9.sn.length Nc1)).toList
    have HN3 := HN1.out.setAllOther (b' := w.heap.size + 1 + 1) (fun b hb => (hO2 b (rows_N hb)).1) 0 (stC s9 (Value.slice Fa1 s9.fl.length Fc1) (Value.slice Na1 s9.sn.length Nc1)).toList
    have BZ3 := KZ1.out.setAll _ hsz
    exact bodyPost_ret (st_result rfl _ _ (w.heap.size + 1 + 1) s9 _ _ rfl BZ3 h81) rfl ⟨_, rfl, ⟨_, _, rfl, h81, HF3, HN3⟩, HB3, fun b hb => (hO2 b hb).2⟩
set_option maxRecDepth 100000 in
set_option maxHeartbeats 8000000 in
theorem step_ren2n (w : World) (v : Value) (s : SS) (kind site which : Nat) (hS : StAt w v s) (h1 : s.sn.length ≤ 1000) (h2 : s.fl.length ≤ 1000) (hs : (wrap64 (site : Int)).tmod 3 = 2) (hk0 : ¬ (kind : Int) % 7 = 0) (hk1 : (kind : Int) % 7 = 1) (x : Int) (hx : ¬ x = 0) (hA : renE (s.l 2).S (s.l 2).E (s.l 2).U = x) :
    Calls Try.prog 28 #[v, evV kind site which] w (RetS w v (s)) := by
  unfold evV
  obtain ⟨F, N, rfl, h80, hF, hN⟩ := hS
  obtain ⟨Fa, Fc, rfl⟩ := hF.form
  obtain ⟨Na, Nc, rfl⟩ := hN.form
  have HF := Lib.hid hF
  have HN := Lib.hid hN
  clear hF hN
  have hz58 := z58
  go_enter Try.func28, Try.ntmps28
  go_upto_region 1 with (fail)
  obtain ⟨W0, hW⟩ : ∃ W0, W0 = (((w.alloc (Obj.cells (stC s (Value.slice Fa s.fl.length Fc) (Value.slice Na s.sn.length Nc)) 58)).alloc (Obj.cells #[.int .u8 kind, .int .u8 site, .int .u8 which] 62)).alloc (Obj.cells zeroC 58)) := ⟨_, rfl⟩
  rw [← hW]
  have BS : Blk W0 w.heap.size (stC s (Value.slice Fa s.fl.length Fc) (Value.slice Na s.sn.length Nc)) := by rw [hW]; exact ((Blk.new _ _ _).alloc _).alloc _
  have BX : Blk W0 (w.heap.size + 1) #[.int .u8 kind, .int .u8 site, .int .u8 which] := by rw [hW]; exact (Blk.new1 _ _ _ _).alloc _
  have BZ : Blk W0 (w.heap.size + 1 + 1) zeroC := by rw [hW]; exact Blk.new2 _ _ _ _ _
  have HB : Below w.heap.size w W0 := by rw [hW]; exact bl_alloc (bl_alloc (bl_alloc (Below.refl _ _) _) _) _
  clear hW
  have cS := BS.cell
  have fS := BS.frozen
  have cX := BX.cell
  have zS := BS.lt
  have zX := BX.lt
  have zZ := BZ.lt
  have zB := HB.size
  have KS := Lib.hid BS
  have KX := Lib.hid BX
  have KZ := Lib.hid BZ
  have KB := Lib.hid HB
  clear BS BX BZ HB
  have hz0 : zeroC.size = 96 := stC_size zeroSt _ _ rfl
  go_upto_region 9 with (fail)
  simp only [hk1]
  go_cut [8, 9] (fun v6 v7 w' => StepMid w (stC s (Value.slice Fa s.fl.length Fc) (Value.slice Na s.sn.length Nc)) #[.int .u8 kind, .int .u8 site, .int .u8 which] #[.int .i64 0, .int .i64 0, .int .i64 0, .int .i64 0, .int .i64 0, .int .i64 0, .slice none 0 0, .slice none 0 0] x v6 v7 w')
  case first =>
    go_wp2_with (first | (go_at_call 21; refine (ren_no hA hx _).mono ?_; rintro r w1 ⟨rfl, hb⟩; have BS1 : Blk w1 w.heap.size ((stC s (Value.slice Fa s.fl.length Fc) (Value.slice Na s.sn.length Nc))) := (Blk.below (by (focus (repeat (with_reducible first | exact KS1.out | exact KX1.out | exact KZ1.out | exact KM1.out | exact KB1.out | exact KS.out | exact KX.out | exact KZ.out | exact KB.out | exact Blk.new _ _ _ | apply Blk.drew | apply Blk.alloc | apply Below.drew | apply bl_alloc | refine Blk.other ?_ ?_ _ _ | refine bl_set ?_ ?_ _ _ | omega)))) hb); have BX1 : Blk w1 (w.heap.size + 1) #[.int .u8 kind, .int .u8 site, .int .u8 which] := (Blk.below (by (focus (repeat (with_reducible first | exact KS1.out | exact KX1.out | exact KZ1.out | exact KM1.out | exact KB1.out | exact KS.out | exact KX.out | exact KZ.out | exact KB.out | exact Blk.new _ _ _ | apply Blk.drew | apply Blk.alloc | apply Below.drew | apply bl_alloc | refine Blk.other ?_ ?_ _ _ | refine bl_set ?_ ?_ _ _ | omega)))) hb); have BZ1 : Blk w1 (w.heap.size + 1 + 1) zeroC := (Blk.below (by (focus (repeat (with_reducible first | exact KS1.out | exact KX1.out | exact KZ1.out | exact KM1.out | exact KB1.out | exact KS.out | exact KX.out | exact KZ.out | exact KB.out | exact Blk.new _ _ _ | apply Blk.drew | apply Blk.alloc | apply Below.drew | apply bl_alloc | refine Blk.other ?_ ?_ _ _ | refine bl_set ?_ ?_ _ _ | omega)))) hb); have HB1 : Below w.heap.size w w1 := (bl_trans (by (focus (repeat (with_reducible first | exact KS1.out | exact KX1.out | exact KZ1.out | exact KM1.out | exact KB1.out | exact KS.out | exact KX.out | exact KZ.out | exact KB.out | exact Blk.new _ _ _ | apply Blk.drew | apply Blk.alloc | apply Below.drew | apply bl_alloc | refine Blk.other ?_ ?_ _ _ | refine bl_set ?_ ?_ _ _ | omega)))) hb); (first | (have BM1 : Blk w1 W0.heap.size #[.int .i64 0, .int .i64 0, .int .i64 0, .int .i64 0, .int .i64 0, .int .i64 0, .slice none 0 0, .slice none 0 0] := (Blk.below (by with_reducible (first | exact Blk.new _ _ _ | exact Blk.drew (Blk.new _ _ _))) hb); have cM1 := BM1.cell; have fM1 := BM1.frozen; have zM1 := BM1.lt; have KM1 := Lib.hid BM1; clear BM1) | skip); have cS1 := BS1.cell; have cX1 := BX1.cell; have zS1 := BS1.lt; have zX1 := BX1.lt; have zZ1 := BZ1.lt; have KS1 := Lib.hid BS1; have KX1 := Lib.hid BX1; have KZ1 := Lib.hid BZ1; have KB1 := Lib.hid HB1; clear BS1 BX1 BZ1 HB1 hb))
    all_goals
      clear hs
      go_meet
      refine ⟨rfl, _, rfl, ?_, ?_, ?_, ?_, ?_⟩
      · omega
      · (focus (repeat (with_reducible first | exact KS1.out | exact KX1.out | exact KZ1.out | exact KM1.out | exact KB1.out | exact KS.out | exact KX.out | exact KZ.out | exact KB.out | exact Blk.new _ _ _ | apply Blk.drew | apply Blk.alloc | apply Below.drew | apply bl_alloc | refine Blk.other ?_ ?_ _ _ | refine bl_set ?_ ?_ _ _ | omega)))
      · (focus (repeat (with_reducible first | exact KS1.out | exact KX1.out | exact KZ1.out | exact KM1.out | exact KB1.out | exact KS.out | exact KX.out | exact KZ.out | exact KB.out | exact Blk.new _ _ _ | apply Blk.drew | apply Blk.alloc | apply Below.drew | apply bl_alloc | refine Blk.other ?_ ?_ _ _ | refine bl_set ?_ ?_ _ _ | omega)))
      · (first | (with_reducible exact Blk.new _ _ _) | exact Blk.cast ((((((((KM1.out.set 0 _).set 1 _).set 2 _).set 3 _).set 4 _).set 5 _).set 6 _).set 7 _) rfl)
      · (focus (repeat (with_reducible first | exact KS1.out | exact KX1.out | exact KZ1.out | exact KM1.out | exact KB1.out | exact KS.out | exact KX.out | exact KZ.out | exact KB.out | exact Blk.new _ _ _ | apply Blk.drew | apply Blk.alloc | apply Below.drew | apply bl_alloc | refine Blk.other ?_ ?_ _ _ | refine bl_set ?_ ?_ _ _ | omega)))
  case rest =>
    obtain ⟨rfl, mb, rfl, hmb, BS, BZ, BM, HB⟩ := hcut
    clear hs
    have cS := BS.cell
    have cM := BM.cell
    have zS2 := BS.lt
    have zM2 := BM.lt
    have zZ2 := BZ.lt
    have zB2 := HB.size
    have KS := Lib.hid BS
    have KZ := Lib.hid BZ
    have KM := Lib.hid BM
    have KB := Lib.hid HB
    clear BS BZ BM HB
    go_upto_region 18 with (fail)
    go_wp2_with (first | (refine st_load rfl _ rfl w.heap.size rfl s _ _ KS.out h80 ?_) | (refine st_store rfl _ _ rfl (w.heap.size + 1 + 1) s _ _ _ _ _ _ rfl rfl zeroC KZ.out hz0 h80 ?_))
    have hsz : ((stC s (Value.slice Fa s.fl.length Fc) (Value.slice Na s.sn.length Nc))).size = zeroC.size := by rw [stC_size _ _ _ h80, hz0]
    have HB3 := bl_sets (B := w.heap.size) (b := w.heap.size + 1 + 1) (a := w) (by omega) ((stC s (Value.slice Fa s.fl.length Fc) (Value.slice Na s.sn.length Nc))).toList 0 wc KB.out
    have HF3 := HF.out.below HB3
    have HN3 := HN.out.below HB3
    have BZ3 := KZ.out.setAll _ hsz
    exact bodyPost_ret (st_result rfl _ _ (w.heap.size + 1 + 1) s _ _ rfl BZ3 h80) rfl ⟨_, rfl, ⟨_, _, rfl, h80, HF3, HN3⟩, HB3, own_gen own_F own_N⟩

end Go.Proofs.Ytmgnpjaemjpamaa
