/- The walk of WitnessGrants at site 2. -/
import Derived.Test.YtmgnpjaemjpamaaAV
import Derived.Test.YtmgnpjaemjpamaaAU
import Derived.Test.YtmgnpjaemjpamaaAJ
set_option linter.unusedSimpArgs false
set_option linter.unusedVariables false
namespace Go.Proofs.Ytmgnpjaemjpamaa
open Go.RowKit
attribute [local go_sem] st0 st1 st2 st3 st4 st5 st6 st7 st8 st9 st10 st11 st12 st13 st14 st95
attribute [local go_sem ↓ high] mx2_run

set_option maxRecDepth 100000 in
set_option maxHeartbeats 8000000 in
theorem gra_walk2 (w : World) (Ea : Option Addr) (n c site : Nat) (ev : Nat → Nat × Nat × Nat) (hev : EvAt w Ea n ev) (hn : n ≤ 60) (hs : (wrap64 (site : Int)).tmod 3 = 2) :
    Calls Try.prog 9 #[.slice Ea n c, .int .u8 site] w fun r w' => r = .returned (.bool true) ∧ Below w.heap.size w w' := by
  have hz58 := z58
  have hz0 : zeroC.size = 96 := stC_size zeroSt _ _ rfl
  have h80b : beginS.ow.length = 80 := by simp [beginS]
  have hn60 : ¬ (60 : Int) < (n : Int) := by omega
  have HEV := Lib.hid hev
  clear hev
  go_enter Try.func9, Try.ntmps9
  go_upto_region 4 with (first | (go_at_call 27; refine (begin_c _).mono ?_; rintro r w1 ⟨v1, rfl, ⟨F1, N1, rfl, h81, hF1, hN1⟩, hb, hown⟩; obtain ⟨Fa1, Fc1, rfl⟩ := hF1.form; obtain ⟨Na1, Nc1, rfl⟩ := hN1.form; have HF1 := Lib.hid hF1; have HN1 := Lib.hid hN1; have HB1 := Lib.hid hb; have zb1 := hb.size; clear hF1 hN1 hb hown) | (refine st_store rfl _ _ rfl w1.heap.size beginS _ _ _ _ _ _ rfl rfl zeroC (Blk.new _ _ _) hz0 h80b ?_))
  have hstart : LawRel w w1.heap.size n (.int .i64 0) ((w1.alloc (Obj.cells zeroC 58)).setCells w1.heap.size 0 (stC beginS (Value.slice Fa1 beginS.fl.length Fc1) (Value.slice Na1 beginS.sn.length Nc1)).toList) := by
    have hb2 := bl_sets (B := w1.heap.size) (b := w1.heap.size) (a := w1) (Nat.le_refl _) (stC beginS (Value.slice Fa1 beginS.fl.length Fc1) (Value.slice Na1 beginS.sn.length Nc1)).toList 0 _ (bl_alloc (Below.refl _ w1) (Obj.cells zeroC 58))
    refine ⟨0, beginS, _, _, rfl, Nat.zero_le _, good_begin, (Blk.new w1 zeroC 58).setAll _ (by rw [stC_size _ _ _ h80b, hz0]), ⟨_, _, rfl, h80b, HF1.out.below hb2, HN1.out.below hb2⟩, ?_, bl_trans HB1.out hb2, zb1⟩
    intro b hb
    rcases rows_of hb with h | h
    · have := HF1.out.own h; omega
    · have := HN1.out.own h; omega
  generalize w1.heap.size = sb at *
  have HST := Lib.hid hstart
  clear hstart HF1 HN1 HB1
  generalize ((w1.alloc (Obj.cells zeroC 58)).setCells sb 0 (stC beginS (Value.slice Fa1 beginS.fl.length Fc1) (Value.slice Na1 beginS.sn.length Nc1)).toList) = W0 at HST ⊢
  go_wp2_with (fail)
  go_loopw [6] (fun i wr => LawRel w sb n i wr) (fun i _ => n - (intOf i).toNat)
  case atStart => exact HST.out
  case round =>
    obtain ⟨k, s, F, N, rfl, hkn, hG, hB, hSt, hne, hBel, hsb⟩ := hrel
    have h80 : s.ow.length = 80 := hG.inv.own
    rcases Nat.lt_or_ge k n with hlt | hge
    · obtain ⟨b, o, rfl, hbw, hcells⟩ := HEV.out (by omega)
      obtain ⟨y1, y2, y3, q0, q1, q2⟩ := hcells k hlt
      generalize (ev k).1 = ek at y1 q0
      generalize (ev k).2.1 = es at y2 q1
      generalize (ev k).2.2 = ew at y3 q2
      have c0 : wr.cell? ⟨b, o + k * 3, none⟩ = some (.int .u8 ek) := by rw [hBel.cell (p := ⟨b, o + k * 3, none⟩) hbw]; exact q0
      have c1 : wr.cell? ⟨b, o + k * 3 + 1, none⟩ = some (.int .u8 es) := by rw [hBel.cell (p := ⟨b, o + k * 3 + 1, none⟩) hbw]; exact q1
      have c2 : wr.cell? ⟨b, o + k * 3 + 2, none⟩ = some (.int .u8 ew) := by rw [hBel.cell (p := ⟨b, o + k * 3 + 2, none⟩) hbw]; exact q2
      have zB := hBel.size
      have zS := hB.lt
      have hcall : Hid (Calls Try.prog 28 #[.agg (stC s F N), .agg #[.int .u8 ek, .int .u8 es, .int .u8 ew]] wr.drew (RetS wr.drew (.agg (stC s F N)) (stepS s ek es ew))) := Lib.hid (step_c wr.drew _ s k ek es ew hSt hG.inv (by omega) (by have := hG.sn; omega) (by have := hG.fl; omega) y1 y2 y3)
      have hG2 := good_step hG (by omega) ek es ew
      generalize stepS s ek es ew = s2 at hcall hG2
      have HG2 := Lib.hid hG2
      have KB := Lib.hid hB
      have KBel := Lib.hid hBel
      have KNE := Lib.hid hne
      have k1 : ¬ (n : Int) ≤ (k : Int) := by omega
      have k2 : ¬ n ≤ k := by omega
      have k3 : (k : Int) < (n : Int) := by omega
      have k4 : (0 : Int) ≤ (k : Int) := by omega
      have k5 : IntKind.i64.wrap ((k : Int) + 1) = (k : Int) + 1 := by rw [IntKind.wrap_i64]; omega
      clear hG hB hSt hne hBel hG2 q0 q1 q2 hcells y1 y2 y3
      go_upto_region 7 with (fail)
      refine wp_region_noPanic ?_
      refine wz_region (fun w' => w'.cell? ⟨b, o + k * 3, none⟩ = some (.int .u8 ek) ∧ w'.cell? ⟨b, o + k * 3 + 1, none⟩ = some (.int .u8 es) ∧ w'.cell? ⟨b, o + k * 3 + 2, none⟩ = some (.int .u8 ew)) 6 (by kernel_rfl) ?_
      have hHeld : wr.drew.cell? ⟨b, o + k * 3, none⟩ = some (.int .u8 ek) ∧ wr.drew.cell? ⟨b, o + k * 3 + 1, none⟩ = some (.int .u8 es) ∧ wr.drew.cell? ⟨b, o + k * 3 + 2, none⟩ = some (.int .u8 ew) := ⟨c0, c1, c2⟩
      refine wz_take (i := 1) (v := ?_) rfl (by kernel_rfl) (by kernel_rfl) (by kernel_rfl) (by kernel_rfl) (by decide) (fun _ _ _ h => h) (Or.inl ⟨by rfl, ?hy⟩) (by assumption) ?_
      case hy => (intro w hSw; (try dsimp only at hSw); go_simp; all_goals (with_reducible rfl))
      try simp only [Act.put, List.setIfInBounds_toArray, List.set_cons_zero, List.set_cons_succ]
      refine wz_take (i := 2) (v := ?_) rfl (by kernel_rfl) (by kernel_rfl) (by kernel_rfl) (by kernel_rfl) (by decide) (fun _ _ _ h => h) (Or.inl ⟨by rfl, ?hy⟩) (by assumption) ?_
      case hy => (intro w hSw; (try dsimp only at hSw); go_simp; all_goals (with_reducible rfl))
      try simp only [Act.put, List.setIfInBounds_toArray, List.set_cons_zero, List.set_cons_succ]
      refine wz_take (i := 3) (v := ?_) rfl (by kernel_rfl) (by kernel_rfl) (by kernel_rfl) (by kernel_rfl) (by decide) (fun _ _ _ h => h) (Or.inl ⟨by rfl, ?hy⟩) (by assumption) ?_
      case hy => (intro w hSw; (try dsimp only at hSw); go_simp; all_goals (with_reducible rfl))
      try simp only [Act.put, List.setIfInBounds_toArray, List.set_cons_zero, List.set_cons_succ]
      refine wz_take (i := 4) (v := ?_) rfl (by kernel_rfl) (by kernel_rfl) (by kernel_rfl) (by kernel_rfl) (by decide) (fun _ _ _ h => h) (Or.inl ⟨by rfl, ?hy⟩) (by assumption) ?_
      case hy => (intro w hSw; (try dsimp only at hSw); go_simp; all_goals (with_reducible rfl))
      try simp only [Act.put, List.setIfInBounds_toArray, List.set_cons_zero, List.set_cons_succ]
      refine wz_one (i := 0) (by kernel_rfl) rfl (fun K hK => ?_)
      refine st_load_k rfl _ rfl sb rfl s F N KB.out.drew h80 ?_
      refine hK.out _ _ (fun hz => hHeld) ?_
      clear hK K
      try simp only [Act.put, List.setIfInBounds_toArray, List.set_cons_zero, List.set_cons_succ]
      refine wz_one (i := 5) (by kernel_rfl) rfl (fun K hK => ?_)
      go_simp
      go_at_call 28
      refine hcall.out.mono ?_
      rintro r w2 ⟨v2, rfl, ⟨F2, N2, rfl, h82, hF2, hN2⟩, hb2, hown2⟩
      obtain ⟨Fa2, Fc2, rfl⟩ := hF2.form
      obtain ⟨Na2, Nc2, rfl⟩ := hN2.form
      have d0 : w2.cell? ⟨b, o + k * 3, none⟩ = some (.int .u8 ek) := by rw [hb2.cell (p := ⟨b, o + k * 3, none⟩) (show b < wr.heap.size by omega)]; exact c0
      have d1 : w2.cell? ⟨b, o + k * 3 + 1, none⟩ = some (.int .u8 es) := by rw [hb2.cell (p := ⟨b, o + k * 3 + 1, none⟩) (show b < wr.heap.size by omega)]; exact c1
      have d2 : w2.cell? ⟨b, o + k * 3 + 2, none⟩ = some (.int .u8 ew) := by rw [hb2.cell (p := ⟨b, o + k * 3 + 2, none⟩) (show b < wr.heap.size by omega)]; exact c2
      have B2 := Blk.below (Blk.drew KB.out) hb2
      have zz2 : wr.heap.size ≤ w2.heap.size := hb2.size
      have hne2 : ∀ b', rowsOf (.agg (stC s2 (Value.slice Fa2 s2.fl.length Fc2) (Value.slice Na2 s2.sn.length Nc2))) b' → b' ≠ sb := fun b' hb' => by
        rcases hown2 b' hb' with h | h
        · have h : wr.heap.size ≤ b' := h
          omega
        · exact KNE.out b' h
      have hBel2 := bl_trans KBel.out.drew hb2
      have KB2 := Lib.hid B2
      have HF2 := Lib.hid hF2
      have HN2 := Lib.hid hN2
      have KNE2 := Lib.hid hne2
      have KBel2 := Lib.hid hBel2
      clear B2 hF2 hN2 hb2 hown2 hne2 hBel2
      refine hK.out _ _ (fun hz => ⟨d0, d1, d2⟩) ?_
      clear hK K
      try simp only [Act.put, List.setIfInBounds_toArray, List.set_cons_zero, List.set_cons_succ]
      refine wz_one (i := 6) (by kernel_rfl) rfl (fun K hK => ?_)
      refine st_store_k rfl _ _ rfl sb s2 _ _ _ _ _ _ rfl rfl (stC s F N) KB2.out (stC_size _ _ _ h80) h82 ?_
      refine hK.out _ _ (fun hz => absurd rfl hz) ?_
      clear hK K
      try simp only [Act.put, List.setIfInBounds_toArray, List.set_cons_zero, List.set_cons_succ]
      refine wz_done (by kernel_rfl) ?_ _
      refine NoPanic.normal ?_
      have B3 := KB2.out.setAll (stC s2 (Value.slice Fa2 s2.fl.length Fc2) (Value.slice Na2 s2.sn.length Nc2)) (by rw [stC_size _ _ _ h82, stC_size _ _ _ h80])
      have hF3 := HF2.out.setAllOther (b' := sb) (fun b' hb' => KNE2.out b' (rows_F hb')) 0 (stC s2 (Value.slice Fa2 s2.fl.length Fc2) (Value.slice Na2 s2.sn.length Nc2)).toList
      have hN3 := HN2.out.setAllOther (b' := sb) (fun b' hb' => KNE2.out b' (rows_N hb')) 0 (stC s2 (Value.slice Fa2 s2.fl.length Fc2) (Value.slice Na2 s2.sn.length Nc2)).toList
      have hBel3 := bl_sets (B := w.heap.size) (b := sb) (a := w) hsb (stC s2 (Value.slice Fa2 s2.fl.length Fc2) (Value.slice Na2 s2.sn.length Nc2)).toList 0 w2 KBel2.out
      clear d0 d1 d2 c0 c1 c2 hHeld KB2 HF2 HN2 KBel2
      generalize w2.setCells sb 0 (stC s2 (Value.slice Fa2 s2.fl.length Fc2) (Value.slice Na2 s2.sn.length Nc2)).toList = w3 at B3 hF3 hN3 hBel3 ⊢
      have K3 := Lib.hid B3
      have HF3 := Lib.hid hF3
      have HN3 := Lib.hid hN3
      have KBel3 := Lib.hid hBel3
      have z3 := B3.lt
      clear B3 hF3 hN3 hBel3
      go_wp2_with (fail)
      go_roundw
      case rel => exact ⟨k + 1, s2, _, _, by go_num, by omega, HG2.out, K3.out, ⟨_, _, rfl, h82, HF3.out, HN3.out⟩, KNE2.out, KBel3.out, hsb⟩
      case measure => simp [intOf]; omega
    · have hk : k = n := by omega
      subst hk
      have hiv := hG.inv
      have hA : askE ((lateS s).l 2).S ((lateS s).l 2).E ((lateS s).l 2).U (epS s 2) = 0 := gra_ask hiv hn 2 (by decide)
      have hfl1 : (gra1 s 2).fl.length ≤ 1000 := by simp [gra1, reqS, lateS]
      have hfl2 : (gra2 s 2).fl.length ≤ 1000 := by rw [(gra2_eq hiv hn 2 (by decide)).2.2.2]; simp
      have hi1 := inv_gra1 hiv 2 (by decide)
      have hi2 : Inv (k + 6) (gra2 s 2) := inv_fly hi1 (by omega) 3 0
      obtain ⟨hH18, hH19⟩ := gra_holds hiv hn 2 (by decide)
      obtain ⟨gS, gE, gU, gN⟩ := gra3_eq hiv hn 2 (by decide)
      have a1 := hiv.now0
      have a2 := hiv.nowN
      have a3 := hiv.E0
      have a4 := hiv.EN
      have a5 := (hiv.lz 2 (by decide)).2.1
      have a6 := (hiv.lz 2 (by decide)).2.2.1
      have Hn18 : Hid (IntKind.i64.wrap ((gra3 s 2).now + 18) = (gra3 s 2).now + 18) := Lib.hid (by rw [gN, IntKind.wrap_i64]; omega)
      have Hn19 : Hid (IntKind.i64.wrap ((gra3 s 2).now + 19) = (gra3 s 2).now + 19) := Lib.hid (by rw [gN, IntKind.wrap_i64]; omega)
      have Hn30 : Hid (wrap64 (s.now + 30) = s.now + 30) := Lib.hid (by unfold wrap64; omega)
      have Hep : Hid (IntKind.i64.wrap (mx2 ((lateS s).l 2).E (lateS s).E + 1) = epS s 2) := Lib.hid (by show IntKind.i64.wrap (mx2 (s.l 2).E s.E + 1) = epS s 2; rw [mx2_mx, IntKind.wrap_i64]; unfold epS; omega)
      have C1 : Hid (∀ W v, StAt W v (lateS s) → Calls Try.prog 30 #[v, .agg #[.int .i64 15, .int .i64 ((lateS s).l 2).S, .int .i64 4, .int .i64 0, .int .i64 0, .int .i64 (epS s 2), .slice none 0 0, .slice none 0 0]] W (RetS W v (gra1 s 2))) := Lib.hid (fun W v h => req_c W v (lateS s) _ _ _ _ _ _ h (by have := hG.sn; show s.sn.length ≤ 1000; omega) (by simp [lateS]))
      have C2 : Hid (∀ W v, StAt W v (gra1 s 2) → Calls Try.prog 31 #[v, .agg #[.int .u8 3, .int .u8 0, .int .u8 0]] W (RetS W v (gra2 s 2))) := Lib.hid (fun W v h => fly_c W v (gra1 s 2) (k + 6) 3 0 0 h hi1 (by omega) hfl1 (by decide))
      have C3 : Hid (∀ W v, StAt W v (gra2 s 2) → Calls Try.prog 31 #[v, .agg #[.int .u8 3, .int .u8 0, .int .u8 0]] W (RetS W v (gra3 s 2))) := Lib.hid (fun W v h => fly_c W v (gra2 s 2) (k + 6) 3 0 0 h hi2 (by omega) hfl2 (by decide))
      obtain ⟨F0, N0, hv0, _, hF0, hN0⟩ := hSt
      injection hv0 with hv0
      have eN : N = N0 := by have := congrArg (fun c => c[13]?) hv0; simp only [st13] at this; injection this
      subst eN
      clear hv0 hfl1 hfl2 hi1 hi2 gS gU a1 a2 a3 a4 a5 a6
      have KB0 := Lib.hid hBel
      have K0 := Lib.hid hB
      have KN0 := Lib.hid hN0
      have KNE0 := Lib.hid hne
      have cS := hB.cell
      have fS := hB.frozen
      have zS0 := hB.lt
      have hn30 := Hn30.out
      have h80s1 : (lateS s).ow.length = 80 := h80
      have e1 : (lateS s).fl = [] := rfl
      have e2 : (lateS s).sn = s.sn := rfl
      clear hB hBel hne hF0 hN0 hG hiv gN
      go_upto_region 10 with (fail)
      clear hs hn30 Hn30
      have B1 : Blk _ sb (stC (lateS s) (.slice none 0 0) N) := Blk.cast (Blk.cast ((Blk.cast (K0.out.set 12 (.slice none 0 0)) (set_F _ _ _ _)).set 14 (.int .i64 (s.now + 30))) (set_now _ _ _ _)) (stC_fl _ _ _ [])
      have HB1 := bl_set (bl_set KB0.out hsb 12 (.slice none 0 0)) hsb 14 (.int .i64 (s.now + 30))
      have N1 := (KN0.out.setOther (b' := sb) (i := 12) (v := .slice none 0 0) (fun b' hb' => KNE0.out b' (rows_N hb'))).setOther (b' := sb) (i := 14) (v := .int .i64 (s.now + 30)) (fun b' hb' => KNE0.out b' (rows_N hb'))
      have NE1 : ∀ b', rowsOf (.agg (stC (lateS s) (.slice none 0 0) N)) b' → b' ≠ sb := fun b' hb' => by
        rcases rows_of hb' with h | h
        · simp [Value.ownBlock] at h
        · exact KNE0.out b' (rows_N h)
      clear cS fS zS0 K0 KB0 KN0 KNE0
      generalize (wr.setCell ⟨sb, 12, none⟩ (.slice none 0 0)).setCell ⟨sb, 14, none⟩ (.int .i64 (s.now + 30)) = W1 at B1 HB1 N1 ⊢
      generalize gra3 s 2 = s4 at *
      generalize gra2 s 2 = s3 at *
      generalize gra1 s 2 = s2 at *
      generalize epS s 2 = ep at *
      generalize lateS s = s1 at *
      rw [gE] at hH18 hH19
      have hep := Hep.out
      have cS := B1.cell
      have zS := B1.lt
      have KS := Lib.hid B1
      have KB0 := Lib.hid HB1
      have KN0 := Lib.hid N1
      have KNE := Lib.hid NE1
      clear B1 HB1 N1 NE1 Hep
      go_cut [8, 9] (fun v8 v9 w' => GraMid W1 #[.int .i64 15, .int .i64 (s1.l 2).S, .int .i64 4, .int .i64 0, .int .i64 0, .int .i64 ep, .slice none 0 0, .slice none 0 0] v8 v9 w')
      case first =>
        go_region_held3 (fun w' => ∀ o, w'.cell? ⟨sb, o, none⟩ = (stC s1 (.slice none 0 0) N)[o]?) (first | (with_reducible exact cS) | (with_reducible exact cS1) | (refine Blk.cell ?_; (focus (repeat (with_reducible first | exact KS1.out | exact KB1.out | exact KS.out | exact Below.refl _ _ | exact Blk.new _ _ _ | apply Blk.drew | apply Blk.alloc | apply Below.drew | apply bl_alloc | refine Blk.other ?_ ?_ _ _ | refine bl_set ?_ ?_ _ _ | omega))); done)) ((go_at_call 19; refine (ask_ok hA _).mono ?_; rintro r w1 ⟨rfl, hb⟩; have BS1 : Blk w1 sb (stC s1 (.slice none 0 0) N) := (Blk.below (by (focus (repeat (with_reducible first | exact KS1.out | exact KB1.out | exact KS.out | exact Below.refl _ _ | exact Blk.new _ _ _ | apply Blk.drew | apply Blk.alloc | apply Below.drew | apply bl_alloc | refine Blk.other ?_ ?_ _ _ | refine bl_set ?_ ?_ _ _ | omega)))) hb); have HB1 : Below W1.heap.size W1 w1 := (bl_trans (by (focus (repeat (with_reducible first | exact KS1.out | exact KB1.out | exact KS.out | exact Below.refl _ _ | exact Blk.new _ _ _ | apply Blk.drew | apply Blk.alloc | apply Below.drew | apply bl_alloc | refine Blk.other ?_ ?_ _ _ | refine bl_set ?_ ?_ _ _ | omega)))) hb); (first | (have BM1 : Blk w1 W1.heap.size #[.int .i64 0, .int .i64 0, .int .i64 0, .int .i64 0, .int .i64 0, .int .i64 0, .slice none 0 0, .slice none 0 0] := (Blk.below (by with_reducible (first | exact Blk.new _ _ _ | exact Blk.drew (Blk.new _ _ _))) hb); have cM1 := BM1.cell; have fM1 := BM1.frozen; have zM1 := BM1.lt; have KM1 := Lib.hid BM1; clear BM1) | skip); have cS1 := BS1.cell; have zS1 := BS1.lt; have zW1 := HB1.size; have KS1 := Lib.hid BS1; have KB1 := Lib.hid HB1; clear BS1 HB1 hb))
        all_goals
          clear hep
          go_wp2_with fail
          go_meet
          refine ⟨rfl, _, rfl, ?_, ?_, ?_⟩
          · omega
          · (first | (with_reducible exact Blk.new _ _ _) | exact Blk.cast ((((((((KM1.out.set 0 _).set 1 _).set 2 _).set 3 _).set 4 _).set 5 _).set 6 _).set 7 _) rfl)
          · (focus (repeat (with_reducible first | exact KS1.out | exact KB1.out | exact KS.out | exact Below.refl _ _ | exact Blk.new _ _ _ | apply Blk.drew | apply Blk.alloc | apply Below.drew | apply bl_alloc | refine Blk.other ?_ ?_ _ _ | refine bl_set ?_ ?_ _ _ | omega)))
      case rest =>
        obtain ⟨rfl, mb, rfl, hmb, BM, HBc⟩ := hcut
        clear hep
        have BS := Blk.below KS.out HBc
        have zS := BS.lt
        have zM := BM.lt
        have cS := BS.cell
        have cM := BM.cell
        have hmn : mb ≠ sb := by have := KS.out.lt; omega
        have KN : Hid (RowAt wc N s1.sn.length (s1.sn.map (Value.int .i64))) := Lib.hid (by rw [e2]; exact KN0.out.below HBc)
        have KF : Hid (RowAt wc (.slice none 0 0) s1.fl.length (s1.fl.flatMap mC)) := Lib.hid (by rw [e1]; exact .inl ⟨rfl, rfl, none, 0, rfl, rfl⟩)
        have KB : Hid (Below w.heap.size w wc) := Lib.hid (bl_trans KB0.out HBc)
        have KS := Lib.hid BS
        have KM := Lib.hid BM
        obtain ⟨Na0, Nc0, rfl⟩ := KN0.out.form
        clear BS BM HBc KN0 KB0 e1 e2

        have hst : Hid (StAt wc (.agg (stC s1 (.slice none 0 0) (Value.slice Na0 s.sn.length Nc0))) s1) := Lib.hid ⟨_, _, rfl, h80s1, KF.out, KN.out⟩
        go_upto_region 14 with (first | (refine st_load rfl _ rfl sb rfl s1 _ _ KS.out h80s1 ?_) | (go_at_call 30; refine (C1.out _ _ hst.out).mono ?_; rintro r wx1 ⟨v2, rfl, ⟨F2, N2, rfl, h80s2, hF2, hN2⟩, hb2, hown2⟩; obtain ⟨Fa1, Fc1, rfl⟩ := hF2.form; obtain ⟨Na1, Nc1, rfl⟩ := hN2.form; have KS2 := Lib.hid (Blk.below KS.out hb2); have KM2 := Lib.hid (Blk.below KM.out hb2); have KF2 := Lib.hid hF2; have KN2 := Lib.hid hN2; have KO2 := Lib.hid hown2; have KB2 := Lib.hid (bl_trans KB.out hb2); have zz2 := hb2.size; clear hF2 hN2 hown2 hb2) | (refine st_store rfl _ _ rfl sb s2 _ _ _ _ _ _ rfl rfl (stC s1 (.slice none 0 0) (Value.slice Na0 s.sn.length Nc0)) KS2.out (stC_size _ _ _ h80s1) h80s2 ?_))
        have hne2 : ∀ b', rowsOf (.agg (stC s2 (Value.slice Fa1 s2.fl.length Fc1) (Value.slice Na1 s2.sn.length Nc1))) b' → b' ≠ sb := fun b' hb' => by
          rcases KO2.out b' hb' with h | h
          · omega
          · exact KNE.out b' h
        have B3 := KS2.out.setAll (stC s2 (Value.slice Fa1 s2.fl.length Fc1) (Value.slice Na1 s2.sn.length Nc1)) (by rw [stC_size _ _ _ h80s2, stC_size _ _ _ h80s1])
        have M3 := KM2.out.setAllOther (show mb ≠ sb by omega) 0 (stC s2 (Value.slice Fa1 s2.fl.length Fc1) (Value.slice Na1 s2.sn.length Nc1)).toList
        have hF3 := KF2.out.setAllOther (b' := sb) (fun b' hb' => hne2 b' (rows_F hb')) 0 (stC s2 (Value.slice Fa1 s2.fl.length Fc1) (Value.slice Na1 s2.sn.length Nc1)).toList
        have hN3 := KN2.out.setAllOther (b' := sb) (fun b' hb' => hne2 b' (rows_N hb')) 0 (stC s2 (Value.slice Fa1 s2.fl.length Fc1) (Value.slice Na1 s2.sn.length Nc1)).toList
        have hB3 := bl_sets (B := w.heap.size) (b := sb) (a := w) hsb (stC s2 (Value.slice Fa1 s2.fl.length Fc1) (Value.slice Na1 s2.sn.length Nc1)).toList 0 wx1 KB2.out
        clear hst KS KM KB KNE KF KN KS2 KM2 KF2 KN2 KO2 KB2 zz2 zS zM
        generalize wx1.setCells sb 0 (stC s2 (Value.slice Fa1 s2.fl.length Fc1) (Value.slice Na1 s2.sn.length Nc1)).toList = wd1 at B3 M3 hF3 hN3 hB3 ⊢
        have zS := B3.lt
        have zM := M3.lt
        have KS := Lib.hid B3
        have KM := Lib.hid M3
        have KF := Lib.hid hF3
        have KN := Lib.hid hN3
        have KB := Lib.hid hB3
        have KNE := Lib.hid hne2
        have cS := B3.cell
        have cM := M3.cell
        clear B3 M3 hF3 hN3 hB3 hne2

        have hst : Hid (StAt wd1 (.agg (stC s2 (Value.slice Fa1 s2.fl.length Fc1) (Value.slice Na1 s2.sn.length Nc1))) s2) := Lib.hid ⟨_, _, rfl, h80s2, KF.out, KN.out⟩
        go_upto_region 15 with (first | (refine st_load rfl _ rfl sb rfl s2 _ _ KS.out h80s2 ?_) | (go_at_call 31; refine (C2.out _ _ hst.out).mono ?_; rintro r wx2 ⟨v2, rfl, ⟨F2, N2, rfl, h80s3, hF2, hN2⟩, hb2, hown2⟩; obtain ⟨Fa2, Fc2, rfl⟩ := hF2.form; obtain ⟨Na2, Nc2, rfl⟩ := hN2.form; have KS2 := Lib.hid (Blk.below KS.out hb2); have KM2 := Lib.hid (Blk.below KM.out hb2); have KF2 := Lib.hid hF2; have KN2 := Lib.hid hN2; have KO2 := Lib.hid hown2; have KB2 := Lib.hid (bl_trans KB.out hb2); have zz2 := hb2.size; clear hF2 hN2 hown2 hb2) | (refine st_store rfl _ _ rfl sb s3 _ _ _ _ _ _ rfl rfl (stC s2 (Value.slice Fa1 s2.fl.length Fc1) (Value.slice Na1 s2.sn.length Nc1)) KS2.out (stC_size _ _ _ h80s2) h80s3 ?_))
        have hne2 : ∀ b', rowsOf (.agg (stC s3 (Value.slice Fa2 s3.fl.length Fc2) (Value.slice Na2 s3.sn.length Nc2))) b' → b' ≠ sb := fun b' hb' => by
          rcases KO2.out b' hb' with h | h
          · omega
          · exact KNE.out b' h
        have B3 := KS2.out.setAll (stC s3 (Value.slice Fa2 s3.fl.length Fc2) (Value.slice Na2 s3.sn.length Nc2)) (by rw [stC_size _ _ _ h80s3, stC_size _ _ _ h80s2])
        have M3 := KM2.out.setAllOther (show mb ≠ sb by omega) 0 (stC s3 (Value.slice Fa2 s3.fl.length Fc2) (Value.slice Na2 s3.sn.length Nc2)).toList
        have hF3 := KF2.out.setAllOther (b' := sb) (fun b' hb' => hne2 b' (rows_F hb')) 0 (stC s3 (Value.slice Fa2 s3.fl.length Fc2) (Value.slice Na2 s3.sn.length Nc2)).toList
        have hN3 := KN2.out.setAllOther (b' := sb) (fun b' hb' => hne2 b' (rows_N hb')) 0 (stC s3 (Value.slice Fa2 s3.fl.length Fc2) (Value.slice Na2 s3.sn.length Nc2)).toList
        have hB3 := bl_sets (B := w.heap.size) (b := sb) (a := w) hsb (stC s3 (Value.slice Fa2 s3.fl.length Fc2) (Value.slice Na2 s3.sn.length Nc2)).toList 0 wx2 KB2.out
        clear hst KS KM KB KNE KF KN KS2 KM2 KF2 KN2 KO2 KB2 zz2 zS zM
        generalize wx2.setCells sb 0 (stC s3 (Value.slice Fa2 s3.fl.length Fc2) (Value.slice Na2 s3.sn.length Nc2)).toList = wd2 at B3 M3 hF3 hN3 hB3 ⊢
        have zS := B3.lt
        have zM := M3.lt
        have KS := Lib.hid B3
        have KM := Lib.hid M3
        have KF := Lib.hid hF3
        have KN := Lib.hid hN3
        have KB := Lib.hid hB3
        have KNE := Lib.hid hne2
        have cS := B3.cell
        have cM := M3.cell
        clear B3 M3 hF3 hN3 hB3 hne2

        have hst : Hid (StAt wd2 (.agg (stC s3 (Value.slice Fa2 s3.fl.length Fc2) (Value.slice Na2 s3.sn.length Nc2))) s3) := Lib.hid ⟨_, _, rfl, h80s3, KF.out, KN.out⟩
        go_upto_region 16 with (first | (refine st_load rfl _ rfl sb rfl s3 _ _ KS.out h80s3 ?_) | (go_at_call 31; refine (C3.out _ _ hst.out).mono ?_; rintro r wx3 ⟨v2, rfl, ⟨F2, N2, rfl, h80s4, hF2, hN2⟩, hb2, hown2⟩; obtain ⟨Fa3, Fc3, rfl⟩ := hF2.form; obtain ⟨Na3, Nc3, rfl⟩ := hN2.form; have KS2 := Lib.hid (Blk.below KS.out hb2); have KM2 := Lib.hid (Blk.below KM.out hb2); have KF2 := Lib.hid hF2; have KN2 := Lib.hid hN2; have KO2 := Lib.hid hown2; have KB2 := Lib.hid (bl_trans KB.out hb2); have zz2 := hb2.size; clear hF2 hN2 hown2 hb2) | (refine st_store rfl _ _ rfl sb s4 _ _ _ _ _ _ rfl rfl (stC s3 (Value.slice Fa2 s3.fl.length Fc2) (Value.slice Na2 s3.sn.length Nc2)) KS2.out (stC_size _ _ _ h80s3) h80s4 ?_))
        have hne2 : ∀ b', rowsOf (.agg (stC s4 (Value.slice Fa3 s4.fl.length Fc3) (Value.slice Na3 s4.sn.length Nc3))) b' → b' ≠ sb := fun b' hb' => by
          rcases KO2.out b' hb' with h | h
          · omega
          · exact KNE.out b' h
        have B3 := KS2.out.setAll (stC s4 (Value.slice Fa3 s4.fl.length Fc3) (Value.slice Na3 s4.sn.length Nc3)) (by rw [stC_size _ _ _ h80s4, stC_size _ _ _ h80s3])
        have M3 := KM2.out.setAllOther (show mb ≠ sb by omega) 0 (stC s4 (Value.slice Fa3 s4.fl.length Fc3) (Value.slice Na3 s4.sn.length Nc3)).toList
        have hF3 := KF2.out.setAllOther (b' := sb) (fun b' hb' => hne2 b' (rows_F hb')) 0 (stC s4 (Value.slice Fa3 s4.fl.length Fc3) (Value.slice Na3 s4.sn.length Nc3)).toList
        have hN3 := KN2.out.setAllOther (b' := sb) (fun b' hb' => hne2 b' (rows_N hb')) 0 (stC s4 (Value.slice Fa3 s4.fl.length Fc3) (Value.slice Na3 s4.sn.length Nc3)).toList
        have hB3 := bl_sets (B := w.heap.size) (b := sb) (a := w) hsb (stC s4 (Value.slice Fa3 s4.fl.length Fc3) (Value.slice Na3 s4.sn.length Nc3)).toList 0 wx3 KB2.out
        clear hst KS KM KB KNE KF KN KS2 KM2 KF2 KN2 KO2 KB2 zz2 zS zM
        generalize wx3.setCells sb 0 (stC s4 (Value.slice Fa3 s4.fl.length Fc3) (Value.slice Na3 s4.sn.length Nc3)).toList = wd3 at B3 M3 hF3 hN3 hB3 ⊢
        have zS := B3.lt
        have zM := M3.lt
        have KS := Lib.hid B3
        have KM := Lib.hid M3
        have KF := Lib.hid hF3
        have KN := Lib.hid hN3
        have KB := Lib.hid hB3
        have KNE := Lib.hid hne2
        have cS := B3.cell
        have cM := M3.cell
        clear B3 M3 hF3 hN3 hB3 hne2

        have hn18 := Hn18.out
        have hn19 := Hn19.out
        go_region_held3 (fun w' => (∀ o, w'.cell? ⟨sb, o, none⟩ = (stC s4 (Value.slice Fa3 s4.fl.length Fc3) (Value.slice Na3 s4.sn.length Nc3))[o]?) ∧ (∀ o, w'.cell? ⟨mb, o, none⟩ = (#[.int .i64 15, .int .i64 (s1.l 2).S, .int .i64 4, .int .i64 0, .int .i64 0, .int .i64 ep, .slice none 0 0, .slice none 0 0] : Array Value)[o]?)) (first | (with_reducible exact ⟨cS, cM⟩) | (with_reducible exact ⟨cS5, cM5⟩) | (with_reducible exact ⟨cS6, cM6⟩) | (with_reducible exact ⟨cS7, cM7⟩) | (with_reducible exact ⟨KS.out.drew.cell, KM.out.drew.cell⟩)) ((first | (go_at_call 11; refine (awake_c _).mono ?_; rintro r x1 ⟨rfl, hb⟩; have KS5 := Lib.hid (Blk.below (by with_reducible (first | exact KS.out | exact KS.out.drew)) hb); have KM5 := Lib.hid (Blk.below (by with_reducible (first | exact KM.out | exact KM.out.drew)) hb); have KB5 := Lib.hid (bl_trans (by with_reducible (first | exact KB.out | exact KB.out.drew)) hb); have cS5 := KS5.out.cell; have cM5 := KM5.out.cell; clear hb) | (go_at_call 25; (fail_if_success (have hh := KS6)); refine (holds_v hH18 _).mono ?_; rintro r x2 ⟨rfl, hb⟩; have KS6 := Lib.hid (Blk.below (by with_reducible (first | exact KS5.out | exact KS5.out.drew)) hb); have KM6 := Lib.hid (Blk.below (by with_reducible (first | exact KM5.out | exact KM5.out.drew)) hb); have KB6 := Lib.hid (bl_trans (by with_reducible (first | exact KB5.out | exact KB5.out.drew)) hb); have cS6 := KS6.out.cell; have cM6 := KM6.out.cell; clear hb) | (go_at_call 25; refine (holds_v hH19 _).mono ?_; rintro r x3 ⟨rfl, hb⟩; have KS7 := Lib.hid (Blk.below (by with_reducible (first | exact KS6.out | exact KS6.out.drew)) hb); have KM7 := Lib.hid (Blk.below (by with_reducible (first | exact KM6.out | exact KM6.out.drew)) hb); have KB7 := Lib.hid (bl_trans (by with_reducible (first | exact KB6.out | exact KB6.out.drew)) hb); have cS7 := KS7.out.cell; have cM7 := KM7.out.cell; clear hb)))
        go_wp2
        go_ret
        exact ⟨rfl, KB7.out⟩

end Go.Proofs.Ytmgnpjaemjpamaa
