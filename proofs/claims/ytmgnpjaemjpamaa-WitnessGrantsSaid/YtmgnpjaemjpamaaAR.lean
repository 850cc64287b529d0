/- The walk of WitnessEpochs, and what the laws answer to more than 60 events. -/
import Derived.Test.YtmgnpjaemjpamaaAO
set_option linter.unusedSimpArgs false
set_option linter.unusedVariables false
namespace Go.Proofs.Ytmgnpjaemjpamaa
open Go.RowKit
attribute [local go_sem] st0 st1 st2 st3 st4 st5 st6 st7 st8 st9 st10 st11 st12 st13 st14 st95

set_option maxRecDepth 100000 in
set_option maxHeartbeats 8000000 in
theorem epo_walk (w : World) (Ea : Option Addr) (n c : Nat) (ev : Nat → Nat × Nat × Nat) (hev : EvAt w Ea n ev) (hn : n ≤ 60) :
    Calls Try.prog 8 #[.slice Ea n c] w fun r w' => r = .returned (.bool true) ∧ Below w.heap.size w w' := by
  have hz58 := z58
  have hz0 : zeroC.size = 96 := stC_size zeroSt _ _ rfl
  have h80b : beginS.ow.length = 80 := by simp [beginS]
  have hn60 : ¬ (60 : Int) < (n : Int) := by omega
  have HEV := Lib.hid hev
  clear hev
  go_enter Try.func8, Try.ntmps8
  go_upto_region 4 with (first | (go_at_call 27; refine (begin_c _).mono ?_; rintro r w1 ⟨v1, rfl, ⟨F1, N1, rfl, h81, hF1, hN1⟩, hb, hown⟩; obtain ⟨Fa1, Fc1, rfl⟩ := hF1.form; obtain ⟨Na1, Nc1, rfl⟩ := hN1.form; have HF1 := Lib.hid hF1; have HN1 := Lib.hid hN1; have HB1 := Lib.hid hb; have zb1 := hb.size; clear hF1 hN1 hb hown) | (refine st_store rfl _ _ rfl w1.heap.size beginS _ _ _ _ _ _ rfl rfl zeroC (Blk.new _ _ _) hz0 h80b ?_))
  have hstart : LawRel w w1.heap.size n (.int .i64 0) ((w1.alloc (Obj.cells zeroC 58)).setCells w1.heap.size 0 (stC beginS (Value.slice Fa1 beginS.fl.length Fc1) (Value.slice Na1 beginS.sn.length Nc1)).toList) := by
    have hb2 := bl_sets (B := w1.heap.size) (b := w1.heap.size) (a := w1) (Nat.le_refl _) (stC beginS (Value.slice Fa1 beginS.fl.length Fc1) (Value.slice Na1 beginS.sn.length Nc1)).toList 0 _ (bl_alloc (Below.refl _ w1) (Obj.cells zeroC 58))
    refine ⟨0, beginS, _, _, rfl, Nat.zero_le _, good_begin, (Blk.new w1 zeroC 58).setAll _ (by rw [stC_size _ _ _ h80b, hz0]), ⟨_, _, rfl, h80b, HF1.out.below hb2, HN1.out.below hb2⟩, ?_, bl_trans HB1.out hb2, zb1⟩
    intro b hb
    rcases rows_of hb with h | h
    · have := HF1.out.own h; omega
    · have := HN1.out.own h; omega
  generalize w1.heap.size = sb at *
  have HST := Lib.hid hstart
  clear hstart HF1 HN1 HB1
  generalize ((w1.alloc (Obj.cells zeroC 58)).setCells sb 0 (stC beginS (Value.slice Fa1 beginS.fl.length Fc1) (Value.slice Na1 beginS.sn.length Nc1)).toList) = W0 at HST ⊢
  go_wp2_with (fail)
  go_loopw [4] (fun i wr => LawRel w sb n i wr) (fun i _ => n - (intOf i).toNat)
  case atStart => exact HST.out
  case round =>
    obtain ⟨k, s, F, N, rfl, hkn, hG, hB, hSt, hne, hBel, hsb⟩ := hrel
    have h80 : s.ow.length = 80 := hG.inv.own
    rcases Nat.lt_or_ge k n with hlt | hge
    · obtain ⟨b, o, rfl, hbw, hcells⟩ := HEV.out (by omega)
      obtain ⟨y1, y2, y3, q0, q1, q2⟩ := hcells k hlt
      generalize (ev k).1 = ek at y1 q0
      generalize (ev k).2.1 = es at y2 q1
      generalize (ev k).2.2 = ew at y3 q2
      have c0 : wr.cell? ⟨b, o + k * 3, none⟩ = some (.int .u8 ek) := by rw [hBel.cell (p := ⟨b, o + k * 3, none⟩) hbw]; exact q0
      have c1 : wr.cell? ⟨b, o + k * 3 + 1, none⟩ = some (.int .u8 es) := by rw [hBel.cell (p := ⟨b, o + k * 3 + 1, none⟩) hbw]; exact q1
      have c2 : wr.cell? ⟨b, o + k * 3 + 2, none⟩ = some (.int .u8 ew) := by rw [hBel.cell (p := ⟨b, o + k * 3 + 2, none⟩) hbw]; exact q2
      have zB := hBel.size
      have zS := hB.lt
      have hcall : Hid (Calls Try.prog 28 #[.agg (stC s F N), .agg #[.int .u8 ek, .int .u8 es, .int .u8 ew]] wr.drew (RetS wr.drew (.agg (stC s F N)) (stepS s ek es ew))) := Lib.hid (step_c wr.drew _ s k ek es ew hSt hG.inv (by omega) (by have := hG.sn; omega) (by have := hG.fl; omega) y1 y2 y3)
      have hG2 := good_step hG (by omega) ek es ew
      generalize stepS s ek es ew = s2 at hcall hG2
      have HG2 := Lib.hid hG2
      have KB := Lib.hid hB
      have KBel := Lib.hid hBel
      have KNE := Lib.hid hne
      have k1 : ¬ (n : Int) ≤ (k : Int) := by omega
      have k2 : ¬ n ≤ k := by omega
      have k3 : (k : Int) < (n : Int) := by omega
      have k4 : (0 : Int) ≤ (k : Int) := by omega
      have k5 : IntKind.i64.wrap ((k : Int) + 1) = (k : Int) + 1 := by rw [IntKind.wrap_i64]; omega
      clear hG hB hSt hne hBel hG2 q0 q1 q2 hcells y1 y2 y3
      go_upto_region 7 with (fail)
      refine wp_region_noPanic ?_
      refine wz_region (fun w' => w'.cell? ⟨b, o + k * 3, none⟩ = some (.int .u8 ek) ∧ w'.cell? ⟨b, o + k * 3 + 1, none⟩ = some (.int .u8 es) ∧ w'.cell? ⟨b, o + k * 3 + 2, none⟩ = some (.int .u8 ew)) 6 (by kernel_rfl) ?_
      have hHeld : wr.drew.cell? ⟨b, o + k * 3, none⟩ = some (.int .u8 ek) ∧ wr.drew.cell? ⟨b, o + k * 3 + 1, none⟩ = some (.int .u8 es) ∧ wr.drew.cell? ⟨b, o + k * 3 + 2, none⟩ = some (.int .u8 ew) := ⟨c0, c1, c2⟩
      refine wz_take (i := 1) (v := ?_) rfl (by kernel_rfl) (by kernel_rfl) (by kernel_rfl) (by kernel_rfl) (by decide) (fun _ _ _ h => h) (Or.inl ⟨by rfl, ?hy⟩) (by assumption) ?_
      case hy => (intro w hSw; (try dsimp only at hSw); go_simp; all_goals (with_reducible rfl))
      try simp only [Act.put, List.setIfInBounds_toArray, List.set_cons_zero, List.set_cons_succ]
      refine wz_take (i := 2) (v := ?_) rfl (by kernel_rfl) (by kernel_rfl) (by kernel_rfl) (by kernel_rfl) (by decide) (fun _ _ _ h => h) (Or.inl ⟨by rfl, ?hy⟩) (by assumption) ?_
      case hy => (intro w hSw; (try dsimp only at hSw); go_simp; all_goals (with_reducible rfl))
      try simp only [Act.put, List.setIfInBounds_toArray, List.set_cons_zero, List.set_cons_succ]
      refine wz_take (i := 3) (v := ?_) rfl (by kernel_rfl) (by kernel_rfl) (by kernel_rfl) (by kernel_rfl) (by decide) (fun _ _ _ h => h) (Or.inl ⟨by rfl, ?hy⟩) (by assumption) ?_
      case hy => (intro w hSw; (try dsimp only at hSw); go_simp; all_goals (with_reducible rfl))
      try simp only [Act.put, List.setIfInBounds_toArray, List.set_cons_zero, List.set_cons_succ]
      refine wz_take (i := 4) (v := ?_) rfl (by kernel_rfl) (by kernel_rfl) (by kernel_rfl) (by kernel_rfl) (by decide) (fun _ _ _ h => h) (Or.inl ⟨by rfl, ?hy⟩) (by assumption) ?_
      case hy => (intro w hSw; (try dsimp only at hSw); go_simp; all_goals (with_reducible rfl))
      try simp only [Act.put, List.setIfInBounds_toArray, List.set_cons_zero, List.set_cons_succ]
      refine wz_one (i := 0) (by kernel_rfl) rfl (fun K hK => ?_)
      refine st_load_k rfl _ rfl sb rfl s F N KB.out.drew h80 ?_
      refine hK.out _ _ (fun hz => hHeld) ?_
      clear hK K
      try simp only [Act.put, List.setIfInBounds_toArray, List.set_cons_zero, List.set_cons_succ]
      refine wz_one (i := 5) (by kernel_rfl) rfl (fun K hK => ?_)
      go_simp
      go_at_call 28
      refine hcall.out.mono ?_
      rintro r w2 ⟨v2, rfl, ⟨F2, N2, rfl, h82, hF2, hN2⟩, hb2, hown2⟩
      obtain ⟨Fa2, Fc2, rfl⟩ := hF2.form
      obtain ⟨Na2, Nc2, rfl⟩ := hN2.form
      have d0 : w2.cell? ⟨b, o + k * 3, none⟩ = some (.int .u8 ek) := by rw [hb2.cell (p := ⟨b, o + k * 3, none⟩) (show b < wr.heap.size by omega)]; exact c0
      have d1 : w2.cell? ⟨b, o + k * 3 + 1, none⟩ = some (.int .u8 es) := by rw [hb2.cell (p := ⟨b, o + k * 3 + 1, none⟩) (show b < wr.heap.size by omega)]; exact c1
      have d2 : w2.cell? ⟨b, o + k * 3 + 2, none⟩ = some (.int .u8 ew) := by rw [hb2.cell (p := ⟨b, o + k * 3 + 2, none⟩) (show b < wr.heap.size by omega)]; exact c2
      have B2 := Blk.below (Blk.drew KB.out) hb2
      have zz2 : wr.heap.size ≤ w2.heap.size := hb2.size
      have hne2 : ∀ b', rowsOf (.agg (stC s2 (Value.slice Fa2 s2.fl.length Fc2) (Value.slice Na2 s2.sn.length Nc2))) b' → b' ≠ sb := fun b' hb' => by
        rcases hown2 b' hb' with h | h
        · have h : wr.heap.size ≤ b' := h
          omega
        · exact KNE.out b' h
      have hBel2 := bl_trans KBel.out.drew hb2
      have KB2 := Lib.hid B2
      have HF2 := Lib.hid hF2
      have HN2 := Lib.hid hN2
      have KNE2 := Lib.hid hne2
      have KBel2 := Lib.hid hBel2
      clear B2 hF2 hN2 hb2 hown2 hne2 hBel2
      refine hK.out _ _ (fun hz => ⟨d0, d1, d2⟩) ?_
      clear hK K
      try simp only [Act.put, List.setIfInBounds_toArray, List.set_cons_zero, List.set_cons_succ]
      refine wz_one (i := 6) (by kernel_rfl) rfl (fun K hK => ?_)
      refine st_store_k rfl _ _ rfl sb s2 _ _ _ _ _ _ rfl rfl (stC s F N) KB2.out (stC_size _ _ _ h80) h82 ?_
      refine hK.out _ _ (fun hz => absurd rfl hz) ?_
      clear hK K
      try simp only [Act.put, List.setIfInBounds_toArray, List.set_cons_zero, List.set_cons_succ]
      refine wz_done (by kernel_rfl) ?_ _
      refine NoPanic.normal ?_
      have B3 := KB2.out.setAll (stC s2 (Value.slice Fa2 s2.fl.length Fc2) (Value.slice Na2 s2.sn.length Nc2)) (by rw [stC_size _ _ _ h82, stC_size _ _ _ h80])
      have hF3 := HF2.out.setAllOther (b' := sb) (fun b' hb' => KNE2.out b' (rows_F hb')) 0 (stC s2 (Value.slice Fa2 s2.fl.length Fc2) (Value.slice Na2 s2.sn.length Nc2)).toList
      have hN3 := HN2.out.setAllOther (b' := sb) (fun b' hb' => KNE2.out b' (rows_N hb')) 0 (stC s2 (Value.slice Fa2 s2.fl.length Fc2) (Value.slice Na2 s2.sn.length Nc2)).toList
      have hBel3 := bl_sets (B := w.heap.size) (b := sb) (a := w) hsb (stC s2 (Value.slice Fa2 s2.fl.length Fc2) (Value.slice Na2 s2.sn.length Nc2)).toList 0 w2 KBel2.out
      clear d0 d1 d2 c0 c1 c2 hHeld KB2 HF2 HN2 KBel2
      generalize w2.setCells sb 0 (stC s2 (Value.slice Fa2 s2.fl.length Fc2) (Value.slice Na2 s2.sn.length Nc2)).toList = w3 at B3 hF3 hN3 hBel3 ⊢
      have K3 := Lib.hid B3
      have HF3 := Lib.hid hF3
      have HN3 := Lib.hid hN3
      have KBel3 := Lib.hid hBel3
      have z3 := B3.lt
      clear B3 hF3 hN3 hBel3
      go_wp2_with (fail)
      go_roundw
      case rel => exact ⟨k + 1, s2, _, _, by go_num, by omega, HG2.out, K3.out, ⟨_, _, rfl, h82, HF3.out, HN3.out⟩, KNE2.out, KBel3.out, hsb⟩
      case measure => simp [intOf]; omega
    · have hk : k = n := by omega
      subst hk
      have hR : s.rt = true := hG.inv.rt
      have hW : wOk s.E s.H s.U = true := by
        have a1 := hG.inv.now0; have a2 := hG.inv.nowN; have a3 := hG.inv.E0; have a4 := hG.inv.EN; have a5 := hG.inv.H0; have a6 := hG.inv.H2; have a7 := hG.inv.U0; have a8 := hG.inv.UN
        simp only [wOk, btw, Bool.and_eq_true, Bool.or_eq_true, decide_eq_true_eq, beq_iff_eq]; omega
      have hchk : Hid (∀ w, Calls Try.prog 15 #[.agg #[.int .i64 s.E, .int .i64 s.H, .int .i64 s.U]] w fun e w' => e = .returned (.int .i64 0) ∧ Below w.heap.size w w') := Lib.hid (fun w => by
        have := check_c s.E s.H s.U w
        rw [hW] at this
        exact this)
      have KBel := Lib.hid hBel
      have KB := Lib.hid hB
      have cS := hB.cell
      clear hG hB hSt hne hBel hW
      go_wp2_with (first | (go_at_call 11; refine (awake_c _).mono ?_; rintro r w2 ⟨rfl, hb⟩; have cS2 := (Blk.below KB.out hb).cell; have KB2 := Lib.hid (bl_trans KBel.out hb); clear hb) | (go_at_call 15; refine (hchk.out _).mono ?_; rintro r w3 ⟨rfl, hb⟩; have KB3 := Lib.hid (bl_trans KB2.out hb); clear hb))
      go_ret
      exact ⟨rfl, KB3.out⟩
set_option maxRecDepth 100000 in
set_option maxHeartbeats 8000000 in
theorem exc_big (w : World) (Ea : Option Addr) (n c : Nat) (hn : (60 : Int) < (n : Int)) :
    Calls Try.prog 6 #[.slice Ea n c] w fun r w' => r = .returned (.bool true) ∧ Below w.heap.size w w' := by
  go_enter Try.func6, Try.ntmps6
  go_wp2_with (first | (go_at_call 11; refine (awake_c _).mono ?_; rintro r w2 ⟨rfl, hb⟩; have KB2 := Lib.hid hb; clear hb))
  go_ret
  exact ⟨rfl, KB2.out⟩
set_option maxRecDepth 100000 in
set_option maxHeartbeats 8000000 in
theorem agr_big (w : World) (Ea : Option Addr) (n c : Nat) (hn : (60 : Int) < (n : Int)) :
    Calls Try.prog 7 #[.slice Ea n c] w fun r w' => r = .returned (.bool true) ∧ Below w.heap.size w w' := by
  go_enter Try.func7, Try.ntmps7
  go_wp2_with (first | (go_at_call 11; refine (awake_c _).mono ?_; rintro r w2 ⟨rfl, hb⟩; have KB2 := Lib.hid hb; clear hb))
  go_ret
  exact ⟨rfl, KB2.out⟩
set_option maxRecDepth 100000 in
set_option maxHeartbeats 8000000 in
theorem epo_big (w : World) (Ea : Option Addr) (n c : Nat) (hn : (60 : Int) < (n : Int)) :
    Calls Try.prog 8 #[.slice Ea n c] w fun r w' => r = .returned (.bool true) ∧ Below w.heap.size w w' := by
  go_enter Try.func8, Try.ntmps8
  go_wp2_with (first | (go_at_call 11; refine (awake_c _).mono ?_; rintro r w2 ⟨rfl, hb⟩; have KB2 := Lib.hid hb; clear hb))
  go_ret
  exact ⟨rfl, KB2.out⟩
set_option maxRecDepth 100000 in
set_option maxHeartbeats 8000000 in
theorem gra_big (w : World) (Ea : Option Addr) (n c : Nat) (site : Int) (hn : (60 : Int) < (n : Int)) :
    Calls Try.prog 9 #[.slice Ea n c, .int .u8 site] w fun r w' => r = .returned (.bool true) ∧ Below w.heap.size w w' := by
  go_enter Try.func9, Try.ntmps9
  go_wp2_with (first | (go_at_call 11; refine (awake_c _).mono ?_; rintro r w2 ⟨rfl, hb⟩; have KB2 := Lib.hid hb; clear hb))
  go_ret
  exact ⟨rfl, KB2.out⟩

end Go.Proofs.Ytmgnpjaemjpamaa
