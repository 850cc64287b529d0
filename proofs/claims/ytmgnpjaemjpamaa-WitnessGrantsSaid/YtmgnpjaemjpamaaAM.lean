/- The contract of State.step: a message in flight. -/
import Derived.Test.YtmgnpjaemjpamaaAJ
import Derived.Test.YtmgnpjaemjpamaaAI
set_option linter.unusedSimpArgs false
set_option linter.unusedVariables false
namespace Go.Proofs.Ytmgnpjaemjpamaa
open Go.RowKit
attribute [local go_sem] st0 st1 st2 st3 st4 st5 st6 st7 st8 st9 st10 st11 st12 st13 st14 st95
attribute [local go_sem ↓ high] mx2_run

set_option maxRecDepth 100000 in
set_option maxHeartbeats 8000000 in
theorem step_fly (w : World) (v : Value) (s : SS) (kind site which : Nat) (hS : StAt w v s) (n : Nat) (hI : Inv n s) (hn : n ≤ 100) (h2 : s.fl.length ≤ 1000) (hw : which < 256) (hk0 : ¬ (kind : Int) % 7 = 0) (hk1 : ¬ (kind : Int) % 7 = 1) (hk2 : ¬ (kind : Int) % 7 = 2) (hk6 : ¬ (kind : Int) % 7 = 6) :
    Calls Try.prog 28 #[v, evV kind site which] w (RetS w v (flyS s kind which)) := by
  unfold evV
  obtain ⟨F, N, rfl, h80, hF, hN⟩ := hS
  obtain ⟨Fa, Fc, rfl⟩ := hF.form
  obtain ⟨Na, Nc, rfl⟩ := hN.form
  have HF := Lib.hid hF
  have HN := Lib.hid hN
  clear hF hN
  have hz58 := z58
  go_enter Try.func28, Try.ntmps28
  go_upto_region 1 with (fail)
  obtain ⟨W0, hW⟩ : ∃ W0, W0 = (((w.alloc (Obj.cells (stC s (Value.slice Fa s.fl.length Fc) (Value.slice Na s.sn.length Nc)) 58)).alloc (Obj.cells #[.int .u8 kind, .int .u8 site, .int .u8 which] 62)).alloc (Obj.cells zeroC 58)) := ⟨_, rfl⟩
  rw [← hW]
  have BS : Blk W0 w.heap.size (stC s (Value.slice Fa s.fl.length Fc) (Value.slice Na s.sn.length Nc)) := by rw [hW]; exact ((Blk.new _ _ _).alloc _).alloc _
  have BX : Blk W0 (w.heap.size + 1) #[.int .u8 kind, .int .u8 site, .int .u8 which] := by rw [hW]; exact (Blk.new1 _ _ _ _).alloc _
  have BZ : Blk W0 (w.heap.size + 1 + 1) zeroC := by rw [hW]; exact Blk.new2 _ _ _ _ _
  have HB : Below w.heap.size w W0 := by rw [hW]; exact bl_alloc (bl_alloc (bl_alloc (Below.refl _ _) _) _) _
  clear hW
  have cS := BS.cell
  have fS := BS.frozen
  have cX := BX.cell
  have zS := BS.lt
  have zX := BX.lt
  have zZ := BZ.lt
  have zB := HB.size
  have KS := Lib.hid BS
  have KX := Lib.hid BX
  have KZ := Lib.hid BZ
  have KB := Lib.hid HB
  clear BS BX BZ HB
  have hz0 : zeroC.size = 96 := stC_size zeroSt _ _ rfl
  have hst : StAt W0 (.agg (stC s (Value.slice Fa s.fl.length Fc) (Value.slice Na s.sn.length Nc))) s := ⟨_, _, rfl, h80, HF.out.below KB.out, HN.out.below KB.out⟩
  have hcall : Hid (Calls Try.prog 31 #[.agg (stC s (Value.slice Fa s.fl.length Fc) (Value.slice Na s.sn.length Nc)), .agg #[.int .u8 kind, .int .u8 site, .int .u8 which]] W0 (RetS W0 (.agg (stC s (Value.slice Fa s.fl.length Fc) (Value.slice Na s.sn.length Nc))) (flyS s kind which))) := Lib.hid (fly_c W0 _ s n kind site which hst hI hn h2 hw)
  have hg2n : ∀ b, rowsOf (.agg (stC s (Value.slice Fa s.fl.length Fc) (Value.slice Na s.sn.length Nc))) b → b ≠ w.heap.size + 1 + 1 ∧ (w.heap.size ≤ b ∨ rowsOf (.agg (stC s (Value.slice Fa s.fl.length Fc) (Value.slice Na s.sn.length Nc))) b) := fun b hb => by
    rcases rows_of hb with h | h
    · have := HF.out.own h; exact ⟨by omega, .inr (rows_F h)⟩
    · have := HN.out.own h; exact ⟨by omega, .inr (rows_N h)⟩
  have hG2 := Lib.hid hg2n
  clear hst hg2n
  generalize flyS s kind which = s9 at *
  go_upto_region 3 with (fail)
  go_wp2_with (first | (refine st_load rfl _ rfl w.heap.size rfl s _ _ KS.out h80 ?_) | (go_at_call 31; refine hcall.out.mono ?_; rintro r w1 ⟨v1, rfl, ⟨F1, N1, rfl, h81, hF1, hN1⟩, hb, hown⟩; obtain ⟨Fa1, Fc1, rfl⟩ := hF1.form; obtain ⟨Na1, Nc1, rfl⟩ := hN1.form; have HF1 := Lib.hid hF1; have HN1 := Lib.hid hN1; have HO1 := Lib.hid hown; have HB1 := Lib.hid (bl_trans KB.out hb); have BZ1 := Blk.below KZ.out hb; have zZ1 := BZ1.lt; have KZ1 := Lib.hid BZ1; clear hF1 hN1 hb hown BZ1) | (refine st_store rfl _ _ rfl (w.heap.size + 1 + 1) s9 _ _ _ _ _ _ rfl rfl zeroC KZ1.out hz0 h81 ?_))
  have hsz : (stC s9 (Value.slice Fa1 s9.fl.length Fc1) (Value.slice Na1 s9.sn.length Nc1)).size = zeroC.size := by rw [stC_size _ _ _ h81, hz0]
  have HB3 := bl_sets (B := w.heap.size) (b := w.heap.size + 1 + 1) (a := w) (by omega) (stC s9 (Value.slice Fa1 s9.fl.length Fc1) (Value.slice Na1 s9.sn.length Nc1)).toList 0 w1 HB1.out
  have hO2 : ∀ b, rowsOf (.agg (stC s9 (Value.slice Fa1 s9.fl.length Fc1) (Value.slice Na1 s9.sn.length Nc1))) b → b ≠ w.heap.size + 1 + 1 ∧ (w.heap.size ≤ b ∨ rowsOf (.agg (stC s (Value.slice Fa s.fl.length Fc) (Value.slice Na s.sn.length Nc))) b) := fun b hb => by
    rcases HO1.out b hb with h | h
    · exact ⟨by omega, .inl (by omega)⟩
    · exact hG2.out b h
  have HF3 := HF1.out.setAllOther (b' := w.heap.size + 1 + 1) (fun b hb => (hO2 b (rows_F hb)).1) 0 (stC s9 (Value.slice Fa1 s9.fl.length Fc1) (Value.slice Na1 s9.sn.length Nc1)).toList
  have HN3 := HN1.out.setAllOther (b' := w.heap.size + 1 + 1) (fun b hb => (hO2 b (rows_N hb)).1) 0 (stC s9 (Value.slice Fa1 s9.fl.length Fc1) (Value.slice Na1 s9.sn.length Nc1)).toList
  have BZ3 := KZ1.out.setAll _ hsz
  exact bodyPost_ret (st_result rfl _ _ (w.heap.size + 1 + 1) s9 _ _ rfl BZ3 h81) rfl ⟨_, rfl, ⟨_, _, rfl, h81, HF3, HN3⟩, HB3, fun b hb => (hO2 b hb).2⟩

end Go.Proofs.Ytmgnpjaemjpamaa
