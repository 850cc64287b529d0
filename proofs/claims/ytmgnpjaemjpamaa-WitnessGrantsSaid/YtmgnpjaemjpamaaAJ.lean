/- The contract of State.step: time passes. -/
import Derived.Test.YtmgnpjaemjpamaaAF
set_option linter.unusedSimpArgs false
set_option linter.unusedVariables false
namespace Go.Proofs.Ytmgnpjaemjpamaa
open Go.RowKit
attribute [local go_sem] st0 st1 st2 st3 st4 st5 st6 st7 st8 st9 st10 st11 st12 st13 st14 st95
attribute [local go_sem ↓ high] mx2_run

theorem ask_ok {S E U ep : Int} (h : askE S E U ep = 0) (w : World) : Calls Try.prog 19 #[.agg #[.int .i64 S, .int .i64 E, .int .i64 U], .int .i64 ep] w fun r w' => r = .returned (.tuple #[.agg #[.int .i64 15, .int .i64 S, .int .i64 4, .int .i64 0, .int .i64 0, .int .i64 ep, .slice none 0 0, .slice none 0 0], .int .i64 0]) ∧ Below w.heap.size w w' :=
  (ask_c S E U ep w).mono (fun r w' hr => ⟨by rw [hr.1, askM, if_pos h, h]; rfl, hr.2⟩)
theorem ask_no {S E U ep x : Int} (h : askE S E U ep = x) (hx : ¬ x = 0) (w : World) : Calls Try.prog 19 #[.agg #[.int .i64 S, .int .i64 E, .int .i64 U], .int .i64 ep] w fun r w' => r = .returned (.tuple #[.agg #[.int .i64 0, .int .i64 0, .int .i64 0, .int .i64 0, .int .i64 0, .int .i64 0, .slice none 0 0, .slice none 0 0], .int .i64 x]) ∧ Below w.heap.size w w' :=
  (ask_c S E U ep w).mono (fun r w' hr => ⟨by rw [hr.1, askM, h, if_neg hx]; rfl, hr.2⟩)
theorem ren_ok {S E U : Int} (h : renE S E U = 0) (w : World) : Calls Try.prog 21 #[.agg #[.int .i64 S, .int .i64 E, .int .i64 U]] w fun r w' => r = .returned (.tuple #[.agg #[.int .i64 17, .int .i64 S, .int .i64 4, .int .i64 0, .int .i64 0, .int .i64 E, .slice none 0 0, .slice none 0 0], .int .i64 0]) ∧ Below w.heap.size w w' :=
  (renew_c S E U w).mono (fun r w' hr => ⟨by rw [hr.1, renM, if_pos h, h]; rfl, hr.2⟩)
theorem ren_no {S E U x : Int} (h : renE S E U = x) (hx : ¬ x = 0) (w : World) : Calls Try.prog 21 #[.agg #[.int .i64 S, .int .i64 E, .int .i64 U]] w fun r w' => r = .returned (.tuple #[.agg #[.int .i64 0, .int .i64 0, .int .i64 0, .int .i64 0, .int .i64 0, .int .i64 0, .slice none 0 0, .slice none 0 0], .int .i64 x]) ∧ Below w.heap.size w w' :=
  (renew_c S E U w).mono (fun r w' hr => ⟨by rw [hr.1, renM, h, if_neg hx]; rfl, hr.2⟩)
theorem give_ok {S E U q : Int} (h : lOk S E U = true) (hq : min (E + 1) 1073741824 = q) (w : World) : Calls Try.prog 23 #[.agg #[.int .i64 S, .int .i64 E, .int .i64 U]] w fun r w' => r = .returned (.tuple #[.agg #[.int .i64 S, .int .i64 q, .int .i64 0], .agg #[.int .i64 18, .int .i64 S, .int .i64 4, .int .i64 0, .int .i64 0, .int .i64 E, .slice none 0 0, .slice none 0 0]]) ∧ Below w.heap.size w w' :=
  (giveup_c S E U w).mono (fun r w' hr => ⟨by rw [hr.1, giveL, giveM, if_pos h, if_pos h, hq]; rfl, hr.2⟩)
def StepMid (w : World) (st ev mc : Array Value) (err : Int) (v6 v7 : Value) (w' : World) : Prop :=
  v7 = .int .i64 err ∧ ∃ mb, v6 = .pointer (some ⟨mb, 0, none⟩) ∧ w.heap.size + 1 + 1 < mb ∧ Blk w' w.heap.size st ∧ Blk w' (w.heap.size + 1 + 1) zeroC ∧ Blk w' mb mc ∧ Below w.heap.size w w'
set_option maxRecDepth 100000 in
set_option maxHeartbeats 8000000 in
theorem step_time (w : World) (v : Value) (s : SS) (kind site which : Nat) (hS : StAt w v s) (d : Int) (hk0 : ¬ (kind : Int) % 7 = 0) (hk1 : ¬ (kind : Int) % 7 = 1) (hk2 : ¬ (kind : Int) % 7 = 2) (hk6 : (kind : Int) % 7 = 6) (hnow : wrap64 (s.now + (wrap64 (which : Int)).tmod 8) = s.now + d) :
    Calls Try.prog 28 #[v, evV kind site which] w (RetS w v ({ s with now := s.now + d })) := by
  unfold evV
  obtain ⟨F, N, rfl, h80, hF, hN⟩ := hS
  obtain ⟨Fa, Fc, rfl⟩ := hF.form
  obtain ⟨Na, Nc, rfl⟩ := hN.form
  have HF := Lib.hid hF
  have HN := Lib.hid hN
  clear hF hN
  have hz58 := z58
  go_enter Try.func28, Try.ntmps28
  go_upto_region 1 with (fail)
  obtain ⟨W0, hW⟩ : ∃ W0, W0 = (((w.alloc (Obj.cells (stC s (Value.slice Fa s.fl.length Fc) (Value.slice Na s.sn.length Nc)) 58)).alloc (Obj.cells #[.int .u8 kind, .int .u8 site, .int .u8 which] 62)).alloc (Obj.cells zeroC 58)) := ⟨_, rfl⟩
  rw [← hW]
  have BS : Blk W0 w.heap.size (stC s (Value.slice Fa s.fl.length Fc) (Value.slice Na s.sn.length Nc)) := by rw [hW]; exact ((Blk.new _ _ _).alloc _).alloc _
  have BX : Blk W0 (w.heap.size + 1) #[.int .u8 kind, .int .u8 site, .int .u8 which] := by rw [hW]; exact (Blk.new1 _ _ _ _).alloc _
  have BZ : Blk W0 (w.heap.size + 1 + 1) zeroC := by rw [hW]; exact Blk.new2 _ _ _ _ _
  have HB : Below w.heap.size w W0 := by rw [hW]; exact bl_alloc (bl_alloc (bl_alloc (Below.refl _ _) _) _) _
  clear hW
  have cS := BS.cell
  have fS := BS.frozen
  have cX := BX.cell
  have zS := BS.lt
  have zX := BX.lt
  have zZ := BZ.lt
  have zB := HB.size
  have KS := Lib.hid BS
  have KX := Lib.hid BX
  have KZ := Lib.hid BZ
  have KB := Lib.hid HB
  clear BS BX BZ HB
  have hz0 : zeroC.size = 96 := stC_size zeroSt _ _ rfl
  go_upto_region 18 with (fail)
  rw [hnow]
  have B4 := Blk.cast (KS.out.set 14 (.int .i64 (s.now + d))) (set_now _ _ _ _)
  have BZ4 := KZ.out.other (show w.heap.size + 1 + 1 ≠ w.heap.size by omega) 14 (.int .i64 (s.now + d))
  have HB4 := bl_set KB.out (Nat.le_refl _) 14 (.int .i64 (s.now + d))
  clear cS fS cX zS zX zZ KS KX KZ KB
  generalize W0.setCell ⟨w.heap.size, 14, none⟩ (.int .i64 (s.now + d)) = W4 at B4 BZ4 HB4 ⊢
  have K4 := Lib.hid B4
  have KZ4 := Lib.hid BZ4
  have KB4 := Lib.hid HB4
  clear B4 BZ4 HB4
  generalize hs2 : ({ s with now := s.now + d } : SS) = s2 at *
  have e1 : s2.fl = s.fl := by rw [← hs2]
  have e2 : s2.sn = s.sn := by rw [← hs2]
  have h802 : s2.ow.length = 80 := by rw [← hs2]; exact h80
  go_wp2_with (first | (refine st_load rfl _ rfl w.heap.size rfl s2 _ _ K4.out h802 ?_) | (refine st_store rfl _ _ rfl (w.heap.size + 1 + 1) s2 _ _ _ _ _ _ rfl rfl zeroC KZ4.out hz0 h802 ?_))
  have hsz : (stC s2 (Value.slice Fa s.fl.length Fc) (Value.slice Na s.sn.length Nc)).size = zeroC.size := by rw [stC_size _ _ _ h802, hz0]
  have HB3 := bl_sets (B := w.heap.size) (b := w.heap.size + 1 + 1) (a := w) (by omega) (stC s2 (Value.slice Fa s.fl.length Fc) (Value.slice Na s.sn.length Nc)).toList 0 W4 KB4.out
  have HF3 := HF.out.below HB3
  have HN3 := HN.out.below HB3
  have BZ3 := KZ4.out.setAll _ hsz
  refine bodyPost_ret (st_result rfl _ _ (w.heap.size + 1 + 1) s2 _ _ rfl BZ3 h802) rfl ⟨_, rfl, ⟨_, _, rfl, h802, ?_, ?_⟩, HB3, own_gen own_F own_N⟩
  · rw [e1]; exact HF3
  · rw [e2]; exact HN3

end Go.Proofs.Ytmgnpjaemjpamaa
