/- flight: a message that stays in flight; flight whole. -/
import Derived.Test.YtmgnpjaemjpamaaAG
import Derived.Test.YtmgnpjaemjpamaaAH
set_option linter.unusedSimpArgs false
set_option linter.unusedVariables false
namespace Go.Proofs.Ytmgnpjaemjpamaa
open Go.RowKit
attribute [local go_sem] st0 st1 st2 st3 st4 st5 st6 st7 st8 st9 st10 st11 st12 st13 st14 st95


set_option maxRecDepth 100000 in
set_option maxHeartbeats 8000000 in
theorem fly_stay (w : World) (v : Value) (s : SS) (n kind site which : Nat) (hS : StAt w v s) (hI : Inv n s) (hn : n ≤ 100) (h2 : s.fl.length ≤ 1000) (h0 : ¬ (s.fl.length : Int) = 0) (k : Nat) (m : Ms) (hm : s.fl[k]? = some m)
    (hwk : (wrap64 (which : Int)).tmod (s.fl.length : Int) = (k : Int)) (hk4 : (kind : Int) % 7 = 4) :
    Calls Try.prog 31 #[v, evV kind site which] w (RetS w v (rcvS s m)) := by
  unfold evV
  obtain ⟨F, N, rfl, h80, hF, hN⟩ := hS
  obtain ⟨Na, Nc, rfl⟩ := hN.form
  obtain ⟨bF, Fc, rfl, hbF, hcF, hFc⟩ : ∃ b c, F = .slice (some ⟨b, 0, none⟩) s.fl.length c ∧ b < w.heap.size ∧ (∀ j u, (s.fl.flatMap mC)[j]? = some u → w.cell? ⟨b, j, none⟩ = some u) ∧ s.fl.length ≤ c := by
    rcases hF with ⟨h, _⟩ | h
    · exact absurd (by omega) h0
    · exact h
  have hkl : k < s.fl.length := by
    rcases Nat.lt_or_ge k s.fl.length with h | h
    · exact h
    · rw [List.getElem?_eq_none h] at hm; cases hm
  have hk1 : ¬ (s.fl.length : Int) ≤ (k : Int) := by omega
  have hk2 : ¬ s.fl.length ≤ k := by omega
  have hk3 : ¬ (k : Int) < 0 := by omega
  have HF := Lib.hid hF
  have HN := Lib.hid hN
  clear hF hN
  have hz58 := z58
  go_enter Try.func31, Try.ntmps31
  go_upto_region 4 with (fail)
  obtain ⟨W0, hW⟩ : ∃ W0, W0 = (((w.alloc (Obj.cells (stC s (Value.slice (some ⟨bF, 0, none⟩) s.fl.length Fc) (Value.slice Na s.sn.length Nc)) 58)).alloc (Obj.cells #[Value.int IntKind.u8 kind, Value.int IntKind.u8 site, Value.int IntKind.u8 which] 62)).alloc (Obj.cells zeroC 58)) := ⟨_, rfl⟩
  rw [← hW]
  have BS : Blk W0 w.heap.size (stC s (Value.slice (some ⟨bF, 0, none⟩) s.fl.length Fc) (Value.slice Na s.sn.length Nc)) := by rw [hW]; exact ((Blk.new _ _ _).alloc _).alloc _
  have BX : Blk W0 (w.heap.size + 1) #[Value.int IntKind.u8 kind, Value.int IntKind.u8 site, Value.int IntKind.u8 which] := by rw [hW]; exact (Blk.new1 _ _ _ _).alloc _
  have BZ : Blk W0 (w.heap.size + 1 + 1) zeroC := by rw [hW]; exact Blk.new2 _ _ _ _ _
  have HB : Below w.heap.size w W0 := by rw [hW]; exact bl_alloc (bl_alloc (bl_alloc (Below.refl _ _) _) _) _
  have hcW : ∀ j u, (s.fl.flatMap mC)[j]? = some u → W0.cell? ⟨bF, j, none⟩ = some u := fun j u hu => by rw [HB.cell (p := ⟨bF, j, none⟩) hbF]; exact hcF j u hu
  clear hW
  have m0 : _ = some (Value.int .i64 m.k) := hcW (k * 8 + 0) _ (flat_at _ k m hm 0 (by decide))
  have m1 : _ = some (Value.int .i64 m.f) := hcW (k * 8 + 1) _ (flat_at _ k m hm 1 (by decide))
  have m2 : _ = some (Value.int .i64 m.t) := hcW (k * 8 + 2) _ (flat_at _ k m hm 2 (by decide))
  have m3 : _ = some (Value.int .i64 m.n) := hcW (k * 8 + 3) _ (flat_at _ k m hm 3 (by decide))
  have m4 : _ = some (Value.int .i64 m.v) := hcW (k * 8 + 4) _ (flat_at _ k m hm 4 (by decide))
  have m5 : _ = some (Value.int .i64 m.e) := hcW (k * 8 + 5) _ (flat_at _ k m hm 5 (by decide))
  have m6 : _ = some (Value.slice none 0 0) := hcW (k * 8 + 6) _ (flat_at _ k m hm 6 (by decide))
  have m7 : _ = some (Value.slice none 0 0) := hcW (k * 8 + 7) _ (flat_at _ k m hm 7 (by decide))
  rw [Nat.add_zero] at m0
  have cS := BS.cell
  have cX := BX.cell
  have zS := BS.lt
  have zX := BX.lt
  have zZ := BZ.lt
  have zB := HB.size
  have KS := Lib.hid BS
  have KX := Lib.hid BX
  have KZ := Lib.hid BZ
  have KB := Lib.hid HB
  have KC := Lib.hid hcW
  have hok : MsgOk n s m := hI.msgs m (List.mem_of_getElem? hm)
  clear BS BX BZ HB hcW hcF
  go_upto_region 9 with (fail)
  obtain ⟨W1, hW1⟩ : ∃ W1, W1 = W0.alloc (Obj.cells #[.int .i64 m.k, .int .i64 m.f, .int .i64 m.t, .int .i64 m.n, .int .i64 m.v, .int .i64 m.e, .slice none 0 0, .slice none 0 0] 27) := ⟨_, rfl⟩
  rw [← hW1]
  have BM1 : Blk W1 W0.heap.size #[.int .i64 m.k, .int .i64 m.f, .int .i64 m.t, .int .i64 m.n, .int .i64 m.v, .int .i64 m.e, .slice none 0 0, .slice none 0 0] := by rw [hW1]; exact Blk.new _ _ _
  have BS1 : Blk W1 w.heap.size (stC s (Value.slice (some ⟨bF, 0, none⟩) s.fl.length Fc) (Value.slice Na s.sn.length Nc)) := by rw [hW1]; exact KS.out.alloc _
  have BX1 : Blk W1 (w.heap.size + 1) #[.int .u8 kind, .int .u8 site, .int .u8 which] := by rw [hW1]; exact KX.out.alloc _
  have BZ1 : Blk W1 (w.heap.size + 1 + 1) zeroC := by rw [hW1]; exact KZ.out.alloc _
  have HB1 : Below w.heap.size w W1 := by rw [hW1]; exact bl_alloc KB.out _
  have KRF := Lib.hid (HF.out.below HB1)
  clear hwk hW1 cS cX m0 m1 m2 m3 m4 m5 m6 m7 KS KX KZ KB KC
  generalize W0.heap.size = mb at *
  have cS := BS1.cell
  have zS1 := BS1.lt
  have zM := BM1.lt
  have zZ1 := BZ1.lt
  have KS := Lib.hid BS1
  have KX := Lib.hid BX1
  have KZ := Lib.hid BZ1
  have KM := Lib.hid BM1
  have KB := Lib.hid HB1
  have hbF1 : bF < W1.heap.size := by omega
  clear BM1 BS1 BX1 BZ1 HB1
  have hz0 : zeroC.size = 96 := stC_size zeroSt _ _ rfl
  have hst : StAt W1 (.agg (stC s (Value.slice (some ⟨bF, 0, none⟩) s.fl.length Fc) (Value.slice Na s.sn.length Nc))) s := ⟨_, _, rfl, h80, KRF.out, HN.out.below KB.out⟩
  have hcall : Hid (Calls Try.prog 45 #[.agg (stC s (Value.slice (some ⟨bF, 0, none⟩) s.fl.length Fc) (Value.slice Na s.sn.length Nc)), .agg #[.int .i64 m.k, .int .i64 m.f, .int .i64 m.t, .int .i64 m.n, .int .i64 m.v, .int .i64 m.e, .slice none 0 0, .slice none 0 0]] W1 (RetS W1 (.agg (stC s (Value.slice (some ⟨bF, 0, none⟩) s.fl.length Fc) (Value.slice Na s.sn.length Nc))) (rcvS s m))) := Lib.hid (rcv_c W1 _ _ n m hst hI hn hok h2)
  have hg2n : ∀ b, rowsOf (.agg (stC s (Value.slice (some ⟨bF, 0, none⟩) s.fl.length Fc) (Value.slice Na s.sn.length Nc))) b → b ≠ w.heap.size + 1 + 1 ∧ (w.heap.size ≤ b ∨ rowsOf (.agg (stC s (Value.slice (some ⟨bF, 0, none⟩) s.fl.length Fc) (Value.slice Na s.sn.length Nc))) b) := fun b hb => by
    rcases rows_of hb with h | h
    · have := HF.out.own h; exact ⟨by omega, .inr (rows_F h)⟩
    · have := HN.out.own h; exact ⟨by omega, .inr (rows_N h)⟩
  have hG2 := Lib.hid hg2n
  have cM := KM.out.cell
  clear hst hg2n hok hI hm
  generalize rcvS s m = s9 at *
  go_wp2_with (first | (refine st_load rfl _ rfl w.heap.size rfl s _ _ KS.out h80 ?_) | (go_at_call 45; refine hcall.out.mono ?_; rintro r w1 ⟨v1, rfl, ⟨F1, N1, rfl, h81, hF1, hN1⟩, hb, hown⟩; obtain ⟨Fa1, Fc1, rfl⟩ := hF1.form; obtain ⟨Na1, Nc1, rfl⟩ := hN1.form; have HF1 := Lib.hid hF1; have HN1 := Lib.hid hN1; have HO1 := Lib.hid hown; have HB1 := Lib.hid (bl_trans KB.out hb); have BZ1 := Blk.below KZ.out hb; have zZ1 := BZ1.lt; have KZ1 := Lib.hid BZ1; clear hF1 hN1 hb hown BZ1) | (refine st_store rfl _ _ rfl (w.heap.size + 1 + 1) s9 _ _ _ _ _ _ rfl rfl zeroC KZ1.out hz0 h81 ?_))
  have hsz : (stC s9 (Value.slice Fa1 s9.fl.length Fc1) (Value.slice Na1 s9.sn.length Nc1)).size = zeroC.size := by rw [stC_size _ _ _ h81, hz0]
  have HB3 := bl_sets (B := w.heap.size) (b := w.heap.size + 1 + 1) (a := w) (by omega) (stC s9 (Value.slice Fa1 s9.fl.length Fc1) (Value.slice Na1 s9.sn.length Nc1)).toList 0 w1 HB1.out
  have hO2 : ∀ b, rowsOf (.agg (stC s9 (Value.slice Fa1 s9.fl.length Fc1) (Value.slice Na1 s9.sn.length Nc1))) b → b ≠ w.heap.size + 1 + 1 ∧ (w.heap.size ≤ b ∨ rowsOf (.agg (stC s (Value.slice (some ⟨bF, 0, none⟩) s.fl.length Fc) (Value.slice Na s.sn.length Nc))) b) := fun b hb => by
    rcases HO1.out b hb with h | h
    · exact ⟨by omega, .inl (by omega)⟩
    · exact hG2.out b h
  have HF3 := HF1.out.setAllOther (b' := w.heap.size + 1 + 1) (fun b hb => (hO2 b (rows_F hb)).1) 0 (stC s9 (Value.slice Fa1 s9.fl.length Fc1) (Value.slice Na1 s9.sn.length Nc1)).toList
  have HN3 := HN1.out.setAllOther (b' := w.heap.size + 1 + 1) (fun b hb => (hO2 b (rows_N hb)).1) 0 (stC s9 (Value.slice Fa1 s9.fl.length Fc1) (Value.slice Na1 s9.sn.length Nc1)).toList
  have BZ3 := KZ1.out.setAll _ hsz
  exact bodyPost_ret (st_result rfl _ _ (w.heap.size + 1 + 1) s9 _ _ rfl BZ3 h81) rfl ⟨_, rfl, ⟨_, _, rfl, h81, HF3, HN3⟩, HB3, fun b hb => (hO2 b hb).2⟩
theorem fly_c (w : World) (v : Value) (s : SS) (n kind site which : Nat) (hS : StAt w v s) (hI : Inv n s) (hn : n ≤ 100) (h2 : s.fl.length ≤ 1000) (hw : which < 256) :
    Calls Try.prog 31 #[v, evV kind site which] w (RetS w v (flyS s kind which)) := by
  rcases Nat.eq_zero_or_pos s.fl.length with h0 | h0
  · have e : flyS s kind which = s := by
      unfold flyS
      rw [List.getElem?_eq_none (by omega)]
    rw [e]
    exact fly_nil w v s kind site which hS h0
  · have hlt : which % s.fl.length < s.fl.length := Nat.mod_lt _ h0
    obtain ⟨m, hm⟩ : ∃ m, s.fl[which % s.fl.length]? = some m := ⟨_, List.getElem?_eq_getElem hlt⟩
    have hwk : (wrap64 (which : Int)).tmod (s.fl.length : Int) = ((which % s.fl.length : Nat) : Int) := by
      rw [show wrap64 (which : Int) = (which : Int) from by unfold wrap64; omega, Int.tmod_eq_emod_of_nonneg (by omega)]
      exact (Int.natCast_emod _ _).symm
    unfold flyS
    rw [hm]
    by_cases k4 : kind % 7 = 4
    · simp only [if_pos k4]
      rw [if_neg (by omega)]
      exact fly_stay w v s n kind site which hS hI hn h2 (by omega) _ m hm hwk (by omega)
    · simp only [if_neg k4]
      by_cases k5 : kind % 7 = 5
      · rw [if_pos k5]
        exact fly_gone w v s n kind site which hS hI hn h2 (by omega) _ m hm hwk (by omega) (by omega)
      · rw [if_neg k5]
        exact fly_go w v s n kind site which hS hI hn h2 (by omega) _ m hm hwk (by omega) (by omega)

end Go.Proofs.Ytmgnpjaemjpamaa
