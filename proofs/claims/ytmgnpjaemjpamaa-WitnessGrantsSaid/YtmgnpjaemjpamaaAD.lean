/- The contract of State.receive: an answer for a site. -/
import Derived.Test.YtmgnpjaemjpamaaAA
import Derived.Test.YtmgnpjaemjpamaaT
set_option linter.unusedSimpArgs false
set_option linter.unusedVariables false
namespace Go.Proofs.Ytmgnpjaemjpamaa
open Go.RowKit
attribute [local go_sem] st0 st1 st2 st3 st4 st5 st6 st7 st8 st9 st10 st11 st12 st13 st14

/-- Behind the last region of receive at a site. -/
def RcvLrn (w : World) (s : SS) (F N : Value) (w' : World) : Prop :=
  Blk w' w.heap.size (stC s F N) ∧ Blk w' (w.heap.size + 1 + 1) zeroC ∧ Below w.heap.size w w'
theorem set_l0 (s : SS) (F N : Value) (a b c : Int) : (((stC s F N).setIfInBounds 3 (.int .i64 a)).setIfInBounds 4 (.int .i64 b)).setIfInBounds 5 (.int .i64 c) = stC (s.setL 0 ⟨a, b, c⟩) F N := by simp [stC, stL, SS.setL]
set_option maxRecDepth 100000 in
set_option maxHeartbeats 8000000 in
theorem rcv_learn0 (w : World) (v : Value) (s : SS) (k f v_ e : Int) (q : Nat) (p : Int × Int) (hS : StAt w v s) (x : Int) (hx : s.sn.getD q 0 = x) (hq : q < s.sn.length) (hh : learnS (s.l 0).S (s.l 0).E (s.l 0).U x 20 1 k 0 v_ e = p) :
    Calls Try.prog 45 #[v, .agg #[.int .i64 k, .int .i64 f, .int .i64 0, .int .i64 (q : Int), .int .i64 v_, .int .i64 e, .slice none 0 0, .slice none 0 0]] w (RetS w v (s.setL 0 ⟨(s.l 0).S, p.1, p.2⟩)) := by
  obtain ⟨F, N, rfl, h80, hF, hN⟩ := hS
  obtain ⟨Fa, Fc, rfl⟩ := hF.form
  obtain ⟨Na, Nc, rfl⟩ := hN.form
  obtain ⟨bq, rfl, hbq, hcq⟩ : ∃ b, Na = some ⟨b, 0, none⟩ ∧ b < w.heap.size ∧ w.cell? ⟨b, q, none⟩ = some (.int .i64 (s.sn.getD q 0)) := by
    rcases hN with ⟨h, _⟩ | ⟨b, c, h, h2, h3⟩
    · omega
    · injection h with h _ _
      exact ⟨b, h, h2, h3.1 q _ (by simp [List.getD_eq_getElem?_getD, List.getElem?_eq_getElem hq])⟩
  rw [hx] at hcq
  clear hx
  have hq1 : ¬ (s.sn.length : Int) ≤ (q : Int) := by omega
  have hq2 : ¬ s.sn.length ≤ q := by omega
  have hq3 : ¬ (q : Int) < 0 := by omega
  have HF := Lib.hid hF
  have HN := Lib.hid hN
  have HH := Lib.hid hh
  clear hF hN hh
  have hz58 := z58
  go_enter Try.func45, Try.ntmps45
  go_wp2_with (fail)
  obtain ⟨W0, hW⟩ : ∃ W0, W0 = (((w.alloc (Obj.cells (stC s (Value.slice Fa s.fl.length Fc) (Value.slice (some ⟨bq, 0, none⟩) s.sn.length Nc)) 58)).alloc (Obj.cells #[.int .i64 k, .int .i64 f, .int .i64 0, .int .i64 (q : Int), .int .i64 v_, .int .i64 e, .slice none 0 0, .slice none 0 0] 27)).alloc (Obj.cells zeroC 58)) := ⟨_, rfl⟩
  rw [← hW]
  have BS : Blk W0 w.heap.size (stC s (Value.slice Fa s.fl.length Fc) (Value.slice (some ⟨bq, 0, none⟩) s.sn.length Nc)) := by rw [hW]; exact ((Blk.new _ _ _).alloc _).alloc _
  have BM : Blk W0 (w.heap.size + 1) #[.int .i64 k, .int .i64 f, .int .i64 0, .int .i64 (q : Int), .int .i64 v_, .int .i64 e, .slice none 0 0, .slice none 0 0] := by rw [hW]; exact (Blk.new1 _ _ _ _).alloc _
  have BZ : Blk W0 (w.heap.size + 1 + 1) zeroC := by rw [hW]; exact Blk.new2 _ _ _ _ _
  have HB : Below w.heap.size w W0 := by rw [hW]; exact bl_alloc (bl_alloc (bl_alloc (Below.refl _ _) _) _) _
  have RF := HF.out.below HB
  have RN := HN.out.below HB
  clear hW
  have cS := BS.cell
  have cM := BM.cell
  have zS := BS.lt
  have KS := Lib.hid BS
  have KM := Lib.hid BM
  have KZ := Lib.hid BZ
  have KB := Lib.hid HB
  have KRF := Lib.hid RF
  have KRN := Lib.hid RN
  have zB := HB.size
  have zM := BM.lt
  have zZ := BZ.lt
  clear BS BM BZ HB RF RN
  have cq : W0.cell? ⟨bq, q, none⟩ = some (.int .i64 x) := by rw [KB.out.cell (p := ⟨bq, q, none⟩) hbq]; exact hcq
  have fS := KS.out.frozen
  have c13 : W0.cell? ⟨w.heap.size, 13, none⟩ = some (Value.slice (some ⟨bq, 0, none⟩) s.sn.length Nc) := (cS 13).trans rfl
  go_upto_region 18 with (fail)
  go_cut [] (fun w' => RcvLrn w (s.setL 0 ⟨(s.l 0).S, p.1, p.2⟩) (Value.slice Fa s.fl.length Fc) (Value.slice (some ⟨bq, 0, none⟩) s.sn.length Nc) w')
  case first =>
    refine wp_region_noPanic ?_
    refine wp_region_held_drew (S := fun w' => w'.cell? ⟨w.heap.size, 13, none⟩ = some (Value.slice (some ⟨bq, 0, none⟩) s.sn.length Nc) ∧ (∀ o, w'.cell? ⟨w.heap.size + 1, o, none⟩ = (#[.int .i64 k, .int .i64 f, .int .i64 0, .int .i64 (q : Int), .int .i64 v_, .int .i64 e, .slice none 0 0, .slice none 0 0] : Array Value)[o]?) ∧ w'.cell? ⟨bq, q, none⟩ = some (.int .i64 x)) (by kernel_rfl) ⟨c13, cM, cq⟩ (fun hHeld => ?_)
    refine wpAnyH_take (i := 0) (v := ?_) rfl (by kernel_rfl) (by kernel_rfl) (by kernel_rfl) (fun _ _ _ h => h) (Or.inl ⟨by rfl, ?hy⟩) (by assumption) ?_
    case hy => (intro w hSw; (try dsimp only at hSw); go_simp; all_goals (with_reducible rfl))
    try simp only [Act.put, List.setIfInBounds_toArray, List.set_cons_zero, List.set_cons_succ]
    refine wpAnyH_take (i := 1) (v := ?_) rfl (by kernel_rfl) (by kernel_rfl) (by kernel_rfl) (fun _ _ _ h => h) (Or.inl ⟨by rfl, ?hy⟩) (by assumption) ?_
    case hy => (intro w hSw; (try dsimp only at hSw); go_simp; all_goals (with_reducible rfl))
    try simp only [Act.put, List.setIfInBounds_toArray, List.set_cons_zero, List.set_cons_succ]
    refine wpAnyH_take (i := 2) (v := ?_) rfl (by kernel_rfl) (by kernel_rfl) (by kernel_rfl) (fun _ _ _ h => h) (Or.inl ⟨by rfl, ?hy⟩) (by assumption) ?_
    case hy => (intro w hSw; (try dsimp only at hSw); go_simp; all_goals (with_reducible rfl))
    try simp only [Act.put, List.setIfInBounds_toArray, List.set_cons_zero, List.set_cons_succ]
    refine wpAnyH_take (i := 3) (v := ?_) rfl (by kernel_rfl) (by kernel_rfl) (by kernel_rfl) (fun _ _ _ h => h) (Or.inl ⟨by rfl, ?hy⟩) (by assumption) ?_
    case hy => (intro w hSw; (try dsimp only at hSw); go_simp; all_goals (with_reducible rfl))
    try simp only [Act.put, List.setIfInBounds_toArray, List.set_cons_zero, List.set_cons_succ]
    refine wpAnyH_take (i := 4) (v := ?_) rfl (by kernel_rfl) (by kernel_rfl) (by kernel_rfl) (fun _ _ _ h => h) (Or.inl ⟨by rfl, ?hy⟩) (by assumption) ?_
    case hy => (intro w hSw; (try dsimp only at hSw); go_simp; all_goals (with_reducible rfl))
    try simp only [Act.put, List.setIfInBounds_toArray, List.set_cons_zero, List.set_cons_succ]
    refine wpAnyH_take (i := 5) (v := ?_) rfl (by kernel_rfl) (by kernel_rfl) (by kernel_rfl) (fun _ _ _ h => h) (Or.inl ⟨by rfl, ?hy⟩) (by assumption) ?_
    case hy => (intro w hSw; (try dsimp only at hSw); go_simp; all_goals (with_reducible rfl))
    try simp only [Act.put, List.setIfInBounds_toArray, List.set_cons_zero, List.set_cons_succ]
    refine wpAnyH_take (i := 7) (v := ?_) rfl (by kernel_rfl) (by kernel_rfl) (by kernel_rfl) (fun _ _ _ h => h) (Or.inl ⟨by rfl, ?hy⟩) (by assumption) ?_
    case hy => (intro w hSw; (try dsimp only at hSw); go_simp; all_goals (with_reducible rfl))
    try simp only [Act.put, List.setIfInBounds_toArray, List.set_cons_zero, List.set_cons_succ]
    refine wpAnyH_take (i := 8) (v := ?_) rfl (by kernel_rfl) (by kernel_rfl) (by kernel_rfl) (fun _ _ _ h => h) (Or.inl ⟨by rfl, ?hy⟩) (by assumption) ?_
    case hy => (intro w hSw; (try dsimp only at hSw); go_simp; all_goals (with_reducible rfl))
    try simp only [Act.put, List.setIfInBounds_toArray, List.set_cons_zero, List.set_cons_succ]
    refine wpAnyH_take (i := 9) (v := ?_) rfl (by kernel_rfl) (by kernel_rfl) (by kernel_rfl) (fun _ _ _ h => h) (Or.inl ⟨by rfl, ?hy⟩) (by assumption) ?_
    case hy => (intro w hSw; (try dsimp only at hSw); go_simp; all_goals (with_reducible rfl))
    try simp only [Act.put, List.setIfInBounds_toArray, List.set_cons_zero, List.set_cons_succ]
    refine wpAnyH_take (i := 10) (v := ?_) rfl (by kernel_rfl) (by kernel_rfl) (by kernel_rfl) (fun _ _ _ h => h) (Or.inl ⟨by rfl, ?hy⟩) (by assumption) ?_
    case hy => (intro w hSw; (try dsimp only at hSw); go_simp; all_goals (with_reducible rfl))
    try simp only [Act.put, List.setIfInBounds_toArray, List.set_cons_zero, List.set_cons_succ]
    refine wpAnyH_take (i := 11) (v := ?_) rfl (by kernel_rfl) (by kernel_rfl) (by kernel_rfl) (fun _ _ _ h => h) (Or.inl ⟨by rfl, ?hy⟩) (by assumption) ?_
    case hy => (intro w hSw; (try dsimp only at hSw); go_simp; all_goals (with_reducible rfl))
    try simp only [Act.put, List.setIfInBounds_toArray, List.set_cons_zero, List.set_cons_succ]
    refine wpAnyH_take (i := 12) (v := ?_) rfl (by kernel_rfl) (by kernel_rfl) (by kernel_rfl) (fun _ _ _ h => h) (Or.inl ⟨by rfl, ?hy⟩) (by assumption) ?_
    case hy => (intro w hSw; (try dsimp only at hSw); go_simp; all_goals (with_reducible rfl))
    try simp only [Act.put, List.setIfInBounds_toArray, List.set_cons_zero, List.set_cons_succ]
    refine wpAnyH_take (i := 13) (v := ?_) rfl (by kernel_rfl) (by kernel_rfl) (by kernel_rfl) (fun _ _ _ h => h) (Or.inl ⟨by rfl, ?hy⟩) (by assumption) ?_
    case hy => (intro w hSw; (try dsimp only at hSw); go_simp; all_goals (with_reducible rfl))
    try simp only [Act.put, List.setIfInBounds_toArray, List.set_cons_zero, List.set_cons_succ]
    refine wpAnyH_take (i := 15) (v := ?_) rfl (by kernel_rfl) (by kernel_rfl) (by kernel_rfl) (fun _ _ _ h => h) (Or.inl ⟨by rfl, ?hy⟩) (by assumption) ?_
    case hy => (intro w hSw; (try dsimp only at hSw); go_simp; all_goals (with_reducible rfl))
    try simp only [Act.put, List.setIfInBounds_toArray, List.set_cons_zero, List.set_cons_succ]
    refine wpAnyH_ready (rs := [6]) (by kernel_rfl) (by simp) ?_
    refine AllReadyH.cons rfl (fun K hK => ?_) AllReadyH.nil
    go_simp
    refine hK.out _ _ ⟨c13, cM, cq⟩ (fun hHeld => ?_)
    clear hK K
    try simp only [Act.put, List.setIfInBounds_toArray, List.set_cons_zero, List.set_cons_succ]
    refine wpAnyH_ready (rs := [14]) (by kernel_rfl) (by simp) ?_
    refine AllReadyH.cons rfl (fun K hK => ?_) AllReadyH.nil
    go_simp
    go_at_call 17; refine (learn_v (s.l 0).S (s.l 0).E (s.l 0).U x 20 1 k f 0 (q : Int) v_ e (.slice none 0 0) (.slice none 0 0) _ _ HH.out).mono ?_; rintro r w1 ⟨rfl, hb⟩; have BS1 := Blk.below ((by (focus (repeat (with_reducible first | exact KS.out | exact KZ.out | exact KB.out | apply Blk.drew | apply Blk.alloc | apply Below.drew)))) : Blk _ w.heap.size (stC s (Value.slice Fa s.fl.length Fc) (Value.slice (some ⟨bq, 0, none⟩) s.sn.length Nc))) hb; have BZ1 := Lib.hid (Blk.below ((by (focus (repeat (with_reducible first | exact KS.out | exact KZ.out | exact KB.out | apply Blk.drew | apply Blk.alloc | apply Below.drew)))) : Blk _ (w.heap.size + 1 + 1) zeroC) hb); have HB1 := Lib.hid (bl_trans ((by (focus (repeat (with_reducible first | exact KS.out | exact KZ.out | exact KB.out | apply Blk.drew | apply Blk.alloc | apply Below.drew)))) : Below w.heap.size w _) hb); have cS1 := BS1.cell; have cM1 := (Blk.below ((by (focus (repeat (with_reducible first | exact KM.out | apply Blk.drew)))) : Blk _ (w.heap.size + 1) (#[.int .i64 k, .int .i64 f, .int .i64 0, .int .i64 (q : Int), .int .i64 v_, .int .i64 e, .slice none 0 0, .slice none 0 0])) hb).cell; have cq1 : w1.cell? ⟨bq, q, none⟩ = some (.int .i64 x) := (by rw [HB1.out.cell (p := ⟨bq, q, none⟩) hbq]; exact hcq); have c131 : w1.cell? ⟨w.heap.size, 13, none⟩ = some (Value.slice (some ⟨bq, 0, none⟩) s.sn.length Nc) := (cS1 13).trans rfl; have B9 := ((BS1.set 3 (.int .i64 (s.l 0).S)).set 4 (.int .i64 p.1)).set 5 (.int .i64 p.2); have c132 := (B9.cell 13).trans (show _ = some (Value.slice (some ⟨bq, 0, none⟩) s.sn.length Nc) from rfl); have BM1 := Blk.below ((by (focus (repeat (with_reducible first | exact KM.out | apply Blk.drew)))) : Blk _ (w.heap.size + 1) (#[.int .i64 k, .int .i64 f, .int .i64 0, .int .i64 (q : Int), .int .i64 v_, .int .i64 e, .slice none 0 0, .slice none 0 0])) hb; have cM2 := (((BM1.other (show w.heap.size + 1 ≠ w.heap.size from (by omega)) 3 (.int .i64 (s.l 0).S)).other (show w.heap.size + 1 ≠ w.heap.size from (by omega)) 4 (.int .i64 p.1)).other (show w.heap.size + 1 ≠ w.heap.size from (by omega)) 5 (.int .i64 p.2)).cell; have cq2 : (((w1.setCell ⟨w.heap.size, 3, none⟩ (.int .i64 (s.l 0).S)).setCell ⟨w.heap.size, 4, none⟩ (.int .i64 p.1)).setCell ⟨w.heap.size, 5, none⟩ (.int .i64 p.2)).cell? ⟨bq, q, none⟩ = some (.int .i64 x) := (by rw [(bl_set (bl_set (bl_set HB1.out (Nat.le_refl _) 3 (.int .i64 (s.l 0).S)) (Nat.le_refl _) 4 (.int .i64 p.1)) (Nat.le_refl _) 5 (.int .i64 p.2)).cell (p := ⟨bq, q, none⟩) hbq]; exact hcq); clear B9 BM1; have fS1 := BS1.frozen; have zS1 := BS1.lt; have KS1 := Lib.hid BS1; clear BS1 hb
    refine hK.out _ _ ⟨c131, cM1, cq1⟩ (fun hHeld => ?_)
    clear hK K
    try simp only [Act.put, List.setIfInBounds_toArray, List.set_cons_zero, List.set_cons_succ]
    refine wpAnyH_take (i := 16) (v := ?_) rfl (by kernel_rfl) (by kernel_rfl) (by kernel_rfl) (fun _ _ _ h => h) (Or.inl ⟨by rfl, ?hy⟩) (by assumption) ?_
    case hy => (intro w hSw; (try dsimp only at hSw); go_simp; all_goals (with_reducible rfl))
    try simp only [Act.put, List.setIfInBounds_toArray, List.set_cons_zero, List.set_cons_succ]
    refine wpAnyH_ready (rs := [17]) (by kernel_rfl) (by simp) ?_
    refine AllReadyH.cons rfl (fun K hK => ?_) AllReadyH.nil
    go_simp
    refine hK.out _ _ ⟨c132, cM2, cq2⟩ (fun hHeld => ?_)
    clear hK K
    try simp only [Act.put, List.setIfInBounds_toArray, List.set_cons_zero, List.set_cons_succ]
    refine wpAnyH_done (by kernel_rfl) ?_ _
    refine NoPanic.normal ?_
    all_goals
      have B2 := Blk.cast (((KS1.out.set 3 (.int .i64 (s.l 0).S)).set 4 (.int .i64 p.1)).set 5 (.int .i64 p.2)) (set_l0 _ _ _ _ _ _)
      have BZ2 := ((BZ1.out.other (show w.heap.size + 1 + 1 ≠ w.heap.size from (by omega)) 3 (.int .i64 (s.l 0).S)).other (show w.heap.size + 1 + 1 ≠ w.heap.size from (by omega)) 4 (.int .i64 p.1)).other (show w.heap.size + 1 + 1 ≠ w.heap.size from (by omega)) 5 (.int .i64 p.2)
      have HB2 := bl_set (bl_set (bl_set HB1.out (Nat.le_refl _) 3 (.int .i64 (s.l 0).S)) (Nat.le_refl _) 4 (.int .i64 p.1)) (Nat.le_refl _) 5 (.int .i64 p.2)
      go_wp2_with fail
      go_meet
      exact ⟨B2, BZ2, HB2⟩
  case rest =>
    obtain ⟨B2, BZ2, HB2⟩ := hcut
    have hz0 : zeroC.size = 96 := stC_size zeroSt _ _ rfl
    have h80' : (s.setL 0 ⟨(s.l 0).S, p.1, p.2⟩).ow.length = 80 := h80
    have K2 := Lib.hid B2
    have KZ2 := Lib.hid BZ2
    have KB2 := Lib.hid HB2
    clear B2 BZ2 HB2
    generalize hs2 : s.setL 0 ⟨(s.l 0).S, p.1, p.2⟩ = s2 at *
    have e1 : s2.fl = s.fl := by rw [← hs2]; rfl
    have e2 : s2.sn = s.sn := by rw [← hs2]; rfl
    go_wp2_with (first | (refine st_load rfl _ rfl w.heap.size rfl s2 _ _ K2.out h80' ?_) | (refine st_store rfl _ _ rfl (w.heap.size + 1 + 1) s2 _ _ _ _ _ _ rfl rfl zeroC KZ2.out hz0 h80' ?_))
    have hsz : (stC s2 (Value.slice Fa s.fl.length Fc) (Value.slice (some ⟨bq, 0, none⟩) s.sn.length Nc)).size = zeroC.size := by rw [stC_size _ _ _ h80', hz0]
    have HB3 := bl_sets (B := w.heap.size) (b := w.heap.size + 1 + 1) (a := w) (by omega) (stC s2 (Value.slice Fa s.fl.length Fc) (Value.slice (some ⟨bq, 0, none⟩) s.sn.length Nc)).toList 0 wc KB2.out
    have HF3 := HF.out.below HB3
    have HN3 := HN.out.below HB3
    have BZ3 := KZ2.out.setAll _ hsz
    refine bodyPost_ret (st_result rfl _ _ (w.heap.size + 1 + 1) s2 _ _ rfl BZ3 h80') rfl ⟨_, rfl, ⟨_, _, rfl, h80', ?_, ?_⟩, HB3, own_gen own_F own_N⟩
    · rw [e1]; exact HF3
    · rw [e2]; exact HN3

theorem set_l1 (s : SS) (F N : Value) (a b c : Int) : (((stC s F N).setIfInBounds 6 (.int .i64 a)).setIfInBounds 7 (.int .i64 b)).setIfInBounds 8 (.int .i64 c) = stC (s.setL 1 ⟨a, b, c⟩) F N := by simp [stC, stL, SS.setL]
set_option maxRecDepth 100000 in
set_option maxHeartbeats 8000000 in
theorem rcv_learn1 (w : World) (v : Value) (s : SS) (k f v_ e : Int) (q : Nat) (p : Int × Int) (hS : StAt w v s) (x : Int) (hx : s.sn.getD q 0 = x) (hq : q < s.sn.length) (hh : learnS (s.l 1).S (s.l 1).E (s.l 1).U x 20 1 k 1 v_ e = p) :
    Calls Try.prog 45 #[v, .agg #[.int .i64 k, .int .i64 f, .int .i64 1, .int .i64 (q : Int), .int .i64 v_, .int .i64 e, .slice none 0 0, .slice none 0 0]] w (RetS w v (s.setL 1 ⟨(s.l 1).S, p.1, p.2⟩)) := by
  obtain ⟨F, N, rfl, h80, hF, hN⟩ := hS
  obtain ⟨Fa, Fc, rfl⟩ := hF.form
  obtain ⟨Na, Nc, rfl⟩ := hN.form
  obtain ⟨bq, rfl, hbq, hcq⟩ : ∃ b, Na = some ⟨b, 0, none⟩ ∧ b < w.heap.size ∧ w.cell? ⟨b, q, none⟩ = some (.int .i64 (s.sn.getD q 0)) := by
    rcases hN with ⟨h, _⟩ | ⟨b, c, h, h2, h3⟩
    · omega
    · injection h with h _ _
      exact ⟨b, h, h2, h3.1 q _ (by simp [List.getD_eq_getElem?_getD, List.getElem?_eq_getElem hq])⟩
  rw [hx] at hcq
  clear hx
  have hq1 : ¬ (s.sn.length : Int) ≤ (q : Int) := by omega
  have hq2 : ¬ s.sn.length ≤ q := by omega
  have hq3 : ¬ (q : Int) < 0 := by omega
  have HF := Lib.hid hF
  have HN := Lib.hid hN
  have HH := Lib.hid hh
  clear hF hN hh
  have hz58 := z58
  go_enter Try.func45, Try.ntmps45
  go_wp2_with (fail)
  obtain ⟨W0, hW⟩ : ∃ W0, W0 = (((w.alloc (Obj.cells (stC s (Value.slice Fa s.fl.length Fc) (Value.slice (some ⟨bq, 0, none⟩) s.sn.length Nc)) 58)).alloc (Obj.cells #[.int .i64 k, .int .i64 f, .int .i64 1, .int .i64 (q : Int), .int .i64 v_, .int .i64 e, .slice none 0 0, .slice none 0 0] 27)).alloc (Obj.cells zeroC 58)) := ⟨_, rfl⟩
  rw [← hW]
  have BS : Blk W0 w.heap.size (stC s (Value.slice Fa s.fl.length Fc) (Value.slice (some ⟨bq, 0, none⟩) s.sn.length Nc)) := by rw [hW]; exact ((Blk.new _ _ _).alloc _).alloc _
  have BM : Blk W0 (w.heap.size + 1) #[.int .i64 k, .int .i64 f, .int .i64 1, .int .i64 (q : Int), .int .i64 v_, .int .i64 e, .slice none 0 0, .slice none 0 0] := by rw [hW]; exact (Blk.new1 _ _ _ _).alloc _
  have BZ : Blk W0 (w.heap.size + 1 + 1) zeroC := by rw [hW]; exact Blk.new2 _ _ _ _ _
  have HB : Below w.heap.size w W0 := by rw [hW]; exact bl_alloc (bl_alloc (bl_alloc (Below.refl _ _) _) _) _
  have RF := HF.out.below HB
  have RN := HN.out.below HB
  clear hW
  have cS := BS.cell
  have cM := BM.cell
  have zS := BS.lt
  have KS := Lib.hid BS
  have KM := Lib.hid BM
  have KZ := Lib.hid BZ
  have KB := Lib.hid HB
  have KRF := Lib.hid RF
  have KRN := Lib.hid RN
  have zB := HB.size
  have zM := BM.lt
  have zZ := BZ.lt
  clear BS BM BZ HB RF RN
  have cq : W0.cell? ⟨bq, q, none⟩ = some (.int .i64 x) := by rw [KB.out.cell (p := ⟨bq, q, none⟩) hbq]; exact hcq
  have fS := KS.out.frozen
  have c13 : W0.cell? ⟨w.heap.size, 13, none⟩ = some (Value.slice (some ⟨bq, 0, none⟩) s.sn.length Nc) := (cS 13).trans rfl
  go_upto_region 18 with (fail)
  go_cut [] (fun w' => RcvLrn w (s.setL 1 ⟨(s.l 1).S, p.1, p.2⟩) (Value.slice Fa s.fl.length Fc) (Value.slice (some ⟨bq, 0, none⟩) s.sn.length Nc) w')
  case first =>
    refine wp_region_noPanic ?_
    refine wp_region_held_drew (S := fun w' => w'.cell? ⟨w.heap.size, 13, none⟩ = some (Value.slice (some ⟨bq, 0, none⟩) s.sn.length Nc) ∧ (∀ o, w'.cell? ⟨w.heap.size + 1, o, none⟩ = (#[.int .i64 k, .int .i64 f, .int .i64 1, .int .i64 (q : Int), .int .i64 v_, .int .i64 e, .slice none 0 0, .slice none 0 0] : Array Value)[o]?) ∧ w'.cell? ⟨bq, q, none⟩ = some (.int .i64 x)) (by kernel_rfl) ⟨c13, cM, cq⟩ (fun hHeld => ?_)
    refine wpAnyH_take (i := 0) (v := ?_) rfl (by kernel_rfl) (by kernel_rfl) (by kernel_rfl) (fun _ _ _ h => h) (Or.inl ⟨by rfl, ?hy⟩) (by assumption) ?_
    case hy => (intro w hSw; (try dsimp only at hSw); go_simp; all_goals (with_reducible rfl))
    try simp only [Act.put, List.setIfInBounds_toArray, List.set_cons_zero, List.set_cons_succ]
    refine wpAnyH_take (i := 1) (v := ?_) rfl (by kernel_rfl) (by kernel_rfl) (by kernel_rfl) (fun _ _ _ h => h) (Or.inl ⟨by rfl, ?hy⟩) (by assumption) ?_
    case hy => (intro w hSw; (try dsimp only at hSw); go_simp; all_goals (with_reducible rfl))
    try simp only [Act.put, List.setIfInBounds_toArray, List.set_cons_zero, List.set_cons_succ]
    refine wpAnyH_take (i := 2) (v := ?_) rfl (by kernel_rfl) (by kernel_rfl) (by kernel_rfl) (fun _ _ _ h => h) (Or.inl ⟨by rfl, ?hy⟩) (by assumption) ?_
    case hy => (intro w hSw; (try dsimp only at hSw); go_simp; all_goals (with_reducible rfl))
    try simp only [Act.put, List.setIfInBounds_toArray, List.set_cons_zero, List.set_cons_succ]
    refine wpAnyH_take (i := 3) (v := ?_) rfl (by kernel_rfl) (by kernel_rfl) (by kernel_rfl) (fun _ _ _ h => h) (Or.inl ⟨by rfl, ?hy⟩) (by assumption) ?_
    case hy => (intro w hSw; (try dsimp only at hSw); go_simp; all_goals (with_reducible rfl))
    try simp only [Act.put, List.setIfInBounds_toArray, List.set_cons_zero, List.set_cons_succ]
    refine wpAnyH_take (i := 4) (v := ?_) rfl (by kernel_rfl) (by kernel_rfl) (by kernel_rfl) (fun _ _ _ h => h) (Or.inl ⟨by rfl, ?hy⟩) (by assumption) ?_
    case hy => (intro w hSw; (try dsimp only at hSw); go_simp; all_goals (with_reducible rfl))
    try simp only [Act.put, List.setIfInBounds_toArray, List.set_cons_zero, List.set_cons_succ]
    refine wpAnyH_take (i := 5) (v := ?_) rfl (by kernel_rfl) (by kernel_rfl) (by kernel_rfl) (fun _ _ _ h => h) (Or.inl ⟨by rfl, ?hy⟩) (by assumption) ?_
    case hy => (intro w hSw; (try dsimp only at hSw); go_simp; all_goals (with_reducible rfl))
    try simp only [Act.put, List.setIfInBounds_toArray, List.set_cons_zero, List.set_cons_succ]
    refine wpAnyH_take (i := 7) (v := ?_) rfl (by kernel_rfl) (by kernel_rfl) (by kernel_rfl) (fun _ _ _ h => h) (Or.inl ⟨by rfl, ?hy⟩) (by assumption) ?_
    case hy => (intro w hSw; (try dsimp only at hSw); go_simp; all_goals (with_reducible rfl))
    try simp only [Act.put, List.setIfInBounds_toArray, List.set_cons_zero, List.set_cons_succ]
    refine wpAnyH_take (i := 8) (v := ?_) rfl (by kernel_rfl) (by kernel_rfl) (by kernel_rfl) (fun _ _ _ h => h) (Or.inl ⟨by rfl, ?hy⟩) (by assumption) ?_
    case hy => (intro w hSw; (try dsimp only at hSw); go_simp; all_goals (with_reducible rfl))
    try simp only [Act.put, List.setIfInBounds_toArray, List.set_cons_zero, List.set_cons_succ]
    refine wpAnyH_take (i := 9) (v := ?_) rfl (by kernel_rfl) (by kernel_rfl) (by kernel_rfl) (fun _ _ _ h => h) (Or.inl ⟨by rfl, ?hy⟩) (by assumption) ?_
    case hy => (intro w hSw; (try dsimp only at hSw); go_simp; all_goals (with_reducible rfl))
    try simp only [Act.put, List.setIfInBounds_toArray, List.set_cons_zero, List.set_cons_succ]
    refine wpAnyH_take (i := 10) (v := ?_) rfl (by kernel_rfl) (by kernel_rfl) (by kernel_rfl) (fun _ _ _ h => h) (Or.inl ⟨by rfl, ?hy⟩) (by assumption) ?_
    case hy => (intro w hSw; (try dsimp only at hSw); go_simp; all_goals (with_reducible rfl))
    try simp only [Act.put, List.setIfInBounds_toArray, List.set_cons_zero, List.set_cons_succ]
    refine wpAnyH_take (i := 11) (v := ?_) rfl (by kernel_rfl) (by kernel_rfl) (by kernel_rfl) (fun _ _ _ h => h) (Or.inl ⟨by rfl, ?hy⟩) (by assumption) ?_
    case hy => (intro w hSw; (try dsimp only at hSw); go_simp; all_goals (with_reducible rfl))
    try simp only [Act.put, List.setIfInBounds_toArray, List.set_cons_zero, List.set_cons_succ]
    refine wpAnyH_take (i := 12) (v := ?_) rfl (by kernel_rfl) (by kernel_rfl) (by kernel_rfl) (fun _ _ _ h => h) (Or.inl ⟨by rfl, ?hy⟩) (by assumption) ?_
    case hy => (intro w hSw; (try dsimp only at hSw); go_simp; all_goals (with_reducible rfl))
    try simp only [Act.put, List.setIfInBounds_toArray, List.set_cons_zero, List.set_cons_succ]
    refine wpAnyH_take (i := 13) (v := ?_) rfl (by kernel_rfl) (by kernel_rfl) (by kernel_rfl) (fun _ _ _ h => h) (Or.inl ⟨by rfl, ?hy⟩) (by assumption) ?_
    case hy => (intro w hSw; (try dsimp only at hSw); go_simp; all_goals (with_reducible rfl))
    try simp only [Act.put, List.setIfInBounds_toArray, List.set_cons_zero, List.set_cons_succ]
    refine wpAnyH_take (i := 15) (v := ?_) rfl (by kernel_rfl) (by kernel_rfl) (by kernel_rfl) (fun _ _ _ h => h) (Or.inl ⟨by rfl, ?hy⟩) (by assumption) ?_
    case hy => (intro w hSw; (try dsimp only at hSw); go_simp; all_goals (with_reducible rfl))
    try simp only [Act.put, List.setIfInBounds_toArray, List.set_cons_zero, List.set_cons_succ]
    refine wpAnyH_ready (rs := [6]) (by kernel_rfl) (by simp) ?_
    refine AllReadyH.cons rfl (fun K hK => ?_) AllReadyH.nil
    go_simp
    refine hK.out _ _ ⟨c13, cM, cq⟩ (fun hHeld => ?_)
    clear hK K
    try simp only [Act.put, List.setIfInBounds_toArray, List.set_cons_zero, List.set_cons_succ]
    refine wpAnyH_ready (rs := [14]) (by kernel_rfl) (by simp) ?_
    refine AllReadyH.cons rfl (fun K hK => ?_) AllReadyH.nil
    go_simp
    go_at_call 17; refine (learn_v (s.l 1).S (s.l 1).E (s.l 1).U x 20 1 k f 1 (q : Int) v_ e (.slice none 0 0) (.slice none 0 0) _ _ HH.out).mono ?_; rintro r w1 ⟨rfl, hb⟩; have BS1 := Blk.below ((by (focus (repeat (with_reducible first | exact KS.out | exact KZ.out | exact KB.out | apply Blk.drew | apply Blk.alloc | apply Below.drew)))) : Blk _ w.heap.size (stC s (Value.slice Fa s.fl.length Fc) (Value.slice (some ⟨bq, 0, none⟩) s.sn.length Nc))) hb; have BZ1 := Lib.hid (Blk.below ((by (focus (repeat (with_reducible first | exact KS.out | exact KZ.out | exact KB.out | apply Blk.drew | apply Blk.alloc | apply Below.drew)))) : Blk _ (w.heap.size + 1 + 1) zeroC) hb); have HB1 := Lib.hid (bl_trans ((by (focus (repeat (with_reducible first | exact KS.out | exact KZ.out | exact KB.out | apply Blk.drew | apply Blk.alloc | apply Below.drew)))) : Below w.heap.size w _) hb); have cS1 := BS1.cell; have cM1 := (Blk.below ((by (focus (repeat (with_reducible first | exact KM.out | apply Blk.drew)))) : Blk _ (w.heap.size + 1) (#[.int .i64 k, .int .i64 f, .int .i64 1, .int .i64 (q : Int), .int .i64 v_, .int .i64 e, .slice none 0 0, .slice none 0 0])) hb).cell; have cq1 : w1.cell? ⟨bq, q, none⟩ = some (.int .i64 x) := (by rw [HB1.out.cell (p := ⟨bq, q, none⟩) hbq]; exact hcq); have c131 : w1.cell? ⟨w.heap.size, 13, none⟩ = some (Value.slice (some ⟨bq, 0, none⟩) s.sn.length Nc) := (cS1 13).trans rfl; have B9 := ((BS1.set 6 (.int .i64 (s.l 1).S)).set 7 (.int .i64 p.1)).set 8 (.int .i64 p.2); have c132 := (B9.cell 13).trans (show _ = some (Value.slice (some ⟨bq, 0, none⟩) s.sn.length Nc) from rfl); have BM1 := Blk.below ((by (focus (repeat (with_reducible first | exact KM.out | apply Blk.drew)))) : Blk _ (w.heap.size + 1) (#[.int .i64 k, .int .i64 f, .int .i64 1, .int .i64 (q : Int), .int .i64 v_, .int .i64 e, .slice none 0 0, .slice none 0 0])) hb; have cM2 := (((BM1.other (show w.heap.size + 1 ≠ w.heap.size from (by omega)) 6 (.int .i64 (s.l 1).S)).other (show w.heap.size + 1 ≠ w.heap.size from (by omega)) 7 (.int .i64 p.1)).other (show w.heap.size + 1 ≠ w.heap.size from (by omega)) 8 (.int .i64 p.2)).cell; have cq2 : (((w1.setCell ⟨w.heap.size, 6, none⟩ (.int .i64 (s.l 1).S)).setCell ⟨w.heap.size, 7, none⟩ (.int .i64 p.1)).setCell ⟨w.heap.size, 8, none⟩ (.int .i64 p.2)).cell? ⟨bq, q, none⟩ = some (.int .i64 x) := (by rw [(bl_set (bl_set (bl_set HB1.out (Nat.le_refl _) 6 (.int .i64 (s.l 1).S)) (Nat.le_refl _) 7 (.int .i64 p.1)) (Nat.le_refl _) 8 (.int .i64 p.2)).cell (p := ⟨bq, q, none⟩) hbq]; exact hcq); clear B9 BM1; have fS1 := BS1.frozen; have zS1 := BS1.lt; have KS1 := Lib.hid BS1; clear BS1 hb
    refine hK.out _ _ ⟨c131, cM1, cq1⟩ (fun hHeld => ?_)
    clear hK K
    try simp only [Act.put, List.setIfInBounds_toArray, List.set_cons_zero, List.set_cons_succ]
    refine wpAnyH_take (i := 16) (v := ?_) rfl (by kernel_rfl) (by kernel_rfl) (by kernel_rfl) (fun _ _ _ h => h) (Or.inl ⟨by rfl, ?hy⟩) (by assumption) ?_
    case hy => (intro w hSw; (try dsimp only at hSw); go_simp; all_goals (with_reducible rfl))
    try simp only [Act.put, List.setIfInBounds_toArray, List.set_cons_zero, List.set_cons_succ]
    refine wpAnyH_ready (rs := [17]) (by kernel_rfl) (by simp) ?_
    refine AllReadyH.cons rfl (fun K hK => ?_) AllReadyH.nil
    go_simp
    refine hK.out _ _ ⟨c132, cM2, cq2⟩ (fun hHeld => ?_)
    clear hK K
    try simp only [Act.put, List.setIfInBounds_toArray, List.set_cons_zero, List.set_cons_succ]
    refine wpAnyH_done (by kernel_rfl) ?_ _
    refine NoPanic.normal ?_
    all_goals
      have B2 := Blk.cast (((KS1.out.set 6 (.int .i64 (s.l 1).S)).set 7 (.int .i64 p.1)).set 8 (.int .i64 p.2)) (set_l1 _ _ _ _ _ _)
      have BZ2 := ((BZ1.out.other (show w.heap.size + 1 + 1 ≠ w.heap.size from (by omega)) 6 (.int .i64 (s.l 1).S)).other (show w.heap.size + 1 + 1 ≠ w.heap.size from (by omega)) 7 (.int .i64 p.1)).other (show w.heap.size + 1 + 1 ≠ w.heap.size from (by omega)) 8 (.int .i64 p.2)
      have HB2 := bl_set (bl_set (bl_set HB1.out (Nat.le_refl _) 6 (.int .i64 (s.l 1).S)) (Nat.le_refl _) 7 (.int .i64 p.1)) (Nat.le_refl _) 8 (.int .i64 p.2)
      go_wp2_with fail
      go_meet
      exact ⟨B2, BZ2, HB2⟩
  case rest =>
    obtain ⟨B2, BZ2, HB2⟩ := hcut
    have hz0 : zeroC.size = 96 := stC_size zeroSt _ _ rfl
    have h80' : (s.setL 1 ⟨(s.l 1).S, p.1, p.2⟩).ow.length = 80 := h80
    have K2 := Lib.hid B2
    have KZ2 := Lib.hid BZ2
    have KB2 := Lib.hid HB2
    clear B2 BZ2 HB2
    generalize hs2 : s.setL 1 ⟨(s.l 1).S, p.1, p.2⟩ = s2 at *
    have e1 : s2.fl = s.fl := by rw [← hs2]; rfl
    have e2 : s2.sn = s.sn := by rw [← hs2]; rfl
    go_wp2_with (first | (refine st_load rfl _ rfl w.heap.size rfl s2 _ _ K2.out h80' ?_) | (refine st_store rfl _ _ rfl (w.heap.size + 1 + 1) s2 _ _ _ _ _ _ rfl rfl zeroC KZ2.out hz0 h80' ?_))
    have hsz : (stC s2 (Value.slice Fa s.fl.length Fc) (Value.slice (some ⟨bq, 0, none⟩) s.sn.length Nc)).size = zeroC.size := by rw [stC_size _ _ _ h80', hz0]
    have HB3 := bl_sets (B := w.heap.size) (b := w.heap.size + 1 + 1) (a := w) (by omega) (stC s2 (Value.slice Fa s.fl.length Fc) (Value.slice (some ⟨bq, 0, none⟩) s.sn.length Nc)).toList 0 wc KB2.out
    have HF3 := HF.out.below HB3
    have HN3 := HN.out.below HB3
    have BZ3 := KZ2.out.setAll _ hsz
    refine bodyPost_ret (st_result rfl _ _ (w.heap.size + 1 + 1) s2 _ _ rfl BZ3 h80') rfl ⟨_, rfl, ⟨_, _, rfl, h80', ?_, ?_⟩, HB3, own_gen own_F own_N⟩
    · rw [e1]; exact HF3
    · rw [e2]; exact HN3

theorem set_l2 (s : SS) (F N : Value) (a b c : Int) : (((stC s F N).setIfInBounds 9 (.int .i64 a)).setIfInBounds 10 (.int .i64 b)).setIfInBounds 11 (.int .i64 c) = stC (s.setL 2 ⟨a, b, c⟩) F N := by simp [stC, stL, SS.setL]
set_option maxRecDepth 100000 in
set_option maxHeartbeats 8000000 in
theorem rcv_learn2 (w : World) (v : Value) (s : SS) (k f v_ e : Int) (q : Nat) (p : Int × Int) (hS : StAt w v s) (x : Int) (hx : s.sn.getD q 0 = x) (hq : q < s.sn.length) (hh : learnS (s.l 2).S (s.l 2).E (s.l 2).U x 20 1 k 2 v_ e = p) :
    Calls Try.prog 45 #[v, .agg #[.int .i64 k, .int .i64 f, .int .i64 2, .int .i64 (q : Int), .int .i64 v_, .int .i64 e, .slice none 0 0, .slice none 0 0]] w (RetS w v (s.setL 2 ⟨(s.l 2).S, p.1, p.2⟩)) := by
  obtain ⟨F, N, rfl, h80, hF, hN⟩ := hS
  obtain ⟨Fa, Fc, rfl⟩ := hF.form
  obtain ⟨Na, Nc, rfl⟩ := hN.form
  obtain ⟨bq, rfl, hbq, hcq⟩ : ∃ b, Na = some ⟨b, 0, none⟩ ∧ b < w.heap.size ∧ w.cell? ⟨b, q, none⟩ = some (.int .i64 (s.sn.getD q 0)) := by
    rcases hN with ⟨h, _⟩ | ⟨b, c, h, h2, h3⟩
    · omega
    · injection h with h _ _
      exact ⟨b, h, h2, h3.1 q _ (by simp [List.getD_eq_getElem?_getD, List.getElem?_eq_getElem hq])⟩
  rw [hx] at hcq
  clear hx
  have hq1 : ¬ (s.sn.length : Int) ≤ (q : Int) := by omega
  have hq2 : ¬ s.sn.length ≤ q := by omega
  have hq3 : ¬ (q : Int) < 0 := by omega
  have HF := Lib.hid hF
  have HN := Lib.hid hN
  have HH := Lib.hid hh
  clear hF hN hh
  have hz58 := z58
  go_enter Try.func45, Try.ntmps45
  go_wp2_with (fail)
  obtain ⟨W0, hW⟩ : ∃ W0, W0 = (((w.alloc (Obj.cells (stC s (Value.slice Fa s.fl.length Fc) (Value.slice (some ⟨bq, 0, none⟩) s.sn.length Nc)) 58)).alloc (Obj.cells #[.int .i64 k, .int .i64 f, .int .i64 2, .int .i64 (q : Int), .int .i64 v_, .int .i64 e, .slice none 0 0, .slice none 0 0] 27)).alloc (Obj.cells zeroC 58)) := ⟨_, rfl⟩
  rw [← hW]
  have BS : Blk W0 w.heap.size (stC s (Value.slice Fa s.fl.length Fc) (Value.slice (some ⟨bq, 0, none⟩) s.sn.length Nc)) := by rw [hW]; exact ((Blk.new _ _ _).alloc _).alloc _
  have BM : Blk W0 (w.heap.size + 1) #[.int .i64 k, .int .i64 f, .int .i64 2, .int .i64 (q : Int), .int .i64 v_, .int .i64 e, .slice none 0 0, .slice none 0 0] := by rw [hW]; exact (Blk.new1 _ _ _ _).alloc _
  have BZ : Blk W0 (w.heap.size + 1 + 1) zeroC := by rw [hW]; exact Blk.new2 _ _ _ _ _
  have HB : Below w.heap.size w W0 := by rw [hW]; exact bl_alloc (bl_alloc (bl_alloc (Below.refl _ _) _) _) _
  have RF := HF.out.below HB
  have RN := HN.out.below HB
  clear hW
  have cS := BS.cell
  have cM := BM.cell
  have zS := BS.lt
  have KS := Lib.hid BS
  have KM := Lib.hid BM
  have KZ := Lib.hid BZ
  have KB := Lib.hid HB
  have KRF := Lib.hid RF
  have KRN := Lib.hid RN
  have zB := HB.size
  have zM := BM.lt
  have zZ := BZ.lt
  clear BS BM BZ HB RF RN
  have cq : W0.cell? ⟨bq, q, none⟩ = some (.int .i64 x) := by rw [KB.out.cell (p := ⟨bq, q, none⟩) hbq]; exact hcq
  have fS := KS.out.frozen
  have c13 : W0.cell? ⟨w.heap.size, 13, none⟩ = some (Value.slice (some ⟨bq, 0, none⟩) s.sn.length Nc) := (cS 13).trans rfl
  go_upto_region 18 with (fail)
  go_cut [] (fun w' => RcvLrn w (s.setL 2 ⟨(s.l 2).S, p.1, p.2⟩) (Value.slice Fa s.fl.length Fc) (Value.slice (some ⟨bq, 0, none⟩) s.sn.length Nc) w')
  case first =>
    refine wp_region_noPanic ?_
    refine wp_region_held_drew (S := fun w' => w'.cell? ⟨w.heap.size, 13, none⟩ = some (Value.slice (some ⟨bq, 0, none⟩) s.sn.length Nc) ∧ (∀ o, w'.cell? ⟨w.heap.size + 1, o, none⟩ = (#[.int .i64 k, .int .i64 f, .int .i64 2, .int .i64 (q : Int), .int .i64 v_, .int .i64 e, .slice none 0 0, .slice none 0 0] : Array Value)[o]?) ∧ w'.cell? ⟨bq, q, none⟩ = some (.int .i64 x)) (by kernel_rfl) ⟨c13, cM, cq⟩ (fun hHeld => ?_)
    refine wpAnyH_take (i := 0) (v := ?_) rfl (by kernel_rfl) (by kernel_rfl) (by kernel_rfl) (fun _ _ _ h => h) (Or.inl ⟨by rfl, ?hy⟩) (by assumption) ?_
    case hy => (intro w hSw; (try dsimp only at hSw); go_simp; all_goals (with_reducible rfl))
    try simp only [Act.put, List.setIfInBounds_toArray, List.set_cons_zero, List.set_cons_succ]
    refine wpAnyH_take (i := 1) (v := ?_) rfl (by kernel_rfl) (by kernel_rfl) (by kernel_rfl) (fun _ _ _ h => h) (Or.inl ⟨by rfl, ?hy⟩) (by assumption) ?_
    case hy => (intro w hSw; (try dsimp only at hSw); go_simp; all_goals (with_reducible rfl))
    try simp only [Act.put, List.setIfInBounds_toArray, List.set_cons_zero, List.set_cons_succ]
    refine wpAnyH_take (i := 2) (v := ?_) rfl (by kernel_rfl) (by kernel_rfl) (by kernel_rfl) (fun _ _ _ h => h) (Or.inl ⟨by rfl, ?hy⟩) (by assumption) ?_
    case hy => (intro w hSw; (try dsimp only at hSw); go_simp; all_goals (with_reducible rfl))
    try simp only [Act.put, List.setIfInBounds_toArray, List.set_cons_zero, List.set_cons_succ]
    refine wpAnyH_take (i := 3) (v := ?_) rfl (by kernel_rfl) (by kernel_rfl) (by kernel_rfl) (fun _ _ _ h => h) (Or.inl ⟨by rfl, ?hy⟩) (by assumption) ?_
    case hy => (intro w hSw; (try dsimp only at hSw); go_simp; all_goals (with_reducible rfl))
    try simp only [Act.put, List.setIfInBounds_toArray, List.set_cons_zero, List.set_cons_succ]
    refine wpAnyH_take (i := 4) (v := ?_) rfl (by kernel_rfl) (by kernel_rfl) (by kernel_rfl) (fun _ _ _ h => h) (Or.inl ⟨by rfl, ?hy⟩) (by assumption) ?_
    case hy => (intro w hSw; (try dsimp only at hSw); go_simp; all_goals (with_reducible rfl))
    try simp only [Act.put, List.setIfInBounds_toArray, List.set_cons_zero, List.set_cons_succ]
    refine wpAnyH_take (i := 5) (v := ?_) rfl (by kernel_rfl) (by kernel_rfl) (by kernel_rfl) (fun _ _ _ h => h) (Or.inl ⟨by rfl, ?hy⟩) (by assumption) ?_
    case hy => (intro w hSw; (try dsimp only at hSw); go_simp; all_goals (with_reducible rfl))
    try simp only [Act.put, List.setIfInBounds_toArray, List.set_cons_zero, List.set_cons_succ]
    refine wpAnyH_take (i := 7) (v := ?_) rfl (by kernel_rfl) (by kernel_rfl) (by kernel_rfl) (fun _ _ _ h => h) (Or.inl ⟨by rfl, ?hy⟩) (by assumption) ?_
    case hy => (intro w hSw; (try dsimp only at hSw); go_simp; all_goals (with_reducible rfl))
    try simp only [Act.put, List.setIfInBounds_toArray, List.set_cons_zero, List.set_cons_succ]
    refine wpAnyH_take (i := 8) (v := ?_) rfl (by kernel_rfl) (by kernel_rfl) (by kernel_rfl) (fun _ _ _ h => h) (Or.inl ⟨by rfl, ?hy⟩) (by assumption) ?_
    case hy => (intro w hSw; (try dsimp only at hSw); go_simp; all_goals (with_reducible rfl))
    try simp only [Act.put, List.setIfInBounds_toArray, List.set_cons_zero, List.set_cons_succ]
    refine wpAnyH_take (i := 9) (v := ?_) rfl (by kernel_rfl) (by kernel_rfl) (by kernel_rfl) (fun _ _ _ h => h) (Or.inl ⟨by rfl, ?hy⟩) (by assumption) ?_
    case hy => (intro w hSw; (try dsimp only at hSw); go_simp; all_goals (with_reducible rfl))
    try simp only [Act.put, List.setIfInBounds_toArray, List.set_cons_zero, List.set_cons_succ]
    refine wpAnyH_take (i := 10) (v := ?_) rfl (by kernel_rfl) (by kernel_rfl) (by kernel_rfl) (fun _ _ _ h => h) (Or.inl ⟨by rfl, ?hy⟩) (by assumption) ?_
    case hy => (intro w hSw; (try dsimp only at hSw); go_simp; all_goals (with_reducible rfl))
    try simp only [Act.put, List.setIfInBounds_toArray, List.set_cons_zero, List.set_cons_succ]
    refine wpAnyH_take (i := 11) (v := ?_) rfl (by kernel_rfl) (by kernel_rfl) (by kernel_rfl) (fun _ _ _ h => h) (Or.inl ⟨by rfl, ?hy⟩) (by assumption) ?_
    case hy => (intro w hSw; (try dsimp only at hSw); go_simp; all_goals (with_reducible rfl))
    try simp only [Act.put, List.setIfInBounds_toArray, List.set_cons_zero, List.set_cons_succ]
    refine wpAnyH_take (i := 12) (v := ?_) rfl (by kernel_rfl) (by kernel_rfl) (by kernel_rfl) (fun _ _ _ h => h) (Or.inl ⟨by rfl, ?hy⟩) (by assumption) ?_
    case hy => (intro w hSw; (try dsimp only at hSw); go_simp; all_goals (with_reducible rfl))
    try simp only [Act.put, List.setIfInBounds_toArray, List.set_cons_zero, List.set_cons_succ]
    refine wpAnyH_take (i := 13) (v := ?_) rfl (by kernel_rfl) (by kernel_rfl) (by kernel_rfl) (fun _ _ _ h => h) (Or.inl ⟨by rfl, ?hy⟩) (by assumption) ?_
    case hy => (intro w hSw; (try dsimp only at hSw); go_simp; all_goals (with_reducible rfl))
    try simp only [Act.put, List.setIfInBounds_toArray, List.set_cons_zero, List.set_cons_succ]
    refine wpAnyH_take (i := 15) (v := ?_) rfl (by kernel_rfl) (by kernel_rfl) (by kernel_rfl) (fun _ _ _ h => h) (Or.inl ⟨by rfl, ?hy⟩) (by assumption) ?_
    case hy => (intro w hSw; (try dsimp only at hSw); go_simp; all_goals (with_reducible rfl))
    try simp only [Act.put, List.setIfInBounds_toArray, List.set_cons_zero, List.set_cons_succ]
    refine wpAnyH_ready (rs := [6]) (by kernel_rfl) (by simp) ?_
    refine AllReadyH.cons rfl (fun K hK => ?_) AllReadyH.nil
    go_simp
    refine hK.out _ _ ⟨c13, cM, cq⟩ (fun hHeld => ?_)
    clear hK K
    try simp only [Act.put, List.setIfInBounds_toArray, List.set_cons_zero, List.set_cons_succ]
    refine wpAnyH_ready (rs := [14]) (by kernel_rfl) (by simp) ?_
    refine AllReadyH.cons rfl (fun K hK => ?_) AllReadyH.nil
    go_simp
    go_at_call 17; refine (learn_v (s.l 2).S (s.l 2).E (s.l 2).U x 20 1 k f 2 (q : Int) v_ e (.slice none 0 0) (.slice none 0 0) _ _ HH.out).mono ?_; rintro r w1 ⟨rfl, hb⟩; have BS1 := Blk.below ((by (focus (repeat (with_reducible first | exact KS.out | exact KZ.out | exact KB.out | apply Blk.drew | apply Blk.alloc | apply Below.drew)))) : Blk _ w.heap.size (stC s (Value.slice Fa s.fl.length Fc) (Value.slice (some ⟨bq, 0, none⟩) s.sn.length Nc))) hb; have BZ1 := Lib.hid (Blk.below ((by (focus (repeat (with_reducible first | exact KS.out | exact KZ.out | exact KB.out | apply Blk.drew | apply Blk.alloc | apply Below.drew)))) : Blk _ (w.heap.size + 1 + 1) zeroC) hb); have HB1 := Lib.hid (bl_trans ((by (focus (repeat (with_reducible first | exact KS.out | exact KZ.out | exact KB.out | apply Blk.drew | apply Blk.alloc | apply Below.drew)))) : Below w.heap.size w _) hb); have cS1 := BS1.cell; have cM1 := (Blk.below ((by (focus (repeat (with_reducible first | exact KM.out | apply Blk.drew)))) : Blk _ (w.heap.size + 1) (#[.int .i64 k, .int .i64 f, .int .i64 2, .int .i64 (q : Int), .int .i64 v_, .int .i64 e, .slice none 0 0, .slice none 0 0])) hb).cell; have cq1 : w1.cell? ⟨bq, q, none⟩ = some (.int .i64 x) := (by rw [HB1.out.cell (p := ⟨bq, q, none⟩) hbq]; exact hcq); have c131 : w1.cell? ⟨w.heap.size, 13, none⟩ = some (Value.slice (some ⟨bq, 0, none⟩) s.sn.length Nc) := (cS1 13).trans rfl; have B9 := ((BS1.set 9 (.int .i64 (s.l 2).S)).set 10 (.int .i64 p.1)).set 11 (.int .i64 p.2); have c132 := (B9.cell 13).trans (show _ = some (Value.slice (some ⟨bq, 0, none⟩) s.sn.length Nc) from rfl); have BM1 := Blk.below ((by (focus (repeat (with_reducible first | exact KM.out | apply Blk.drew)))) : Blk _ (w.heap.size + 1) (#[.int .i64 k, .int .i64 f, .int .i64 2, .int .i64 (q : Int), .int .i64 v_, .int .i64 e, .slice none 0 0, .slice none 0 0])) hb; have cM2 := (((BM1.other (show w.heap.size + 1 ≠ w.heap.size from (by omega)) 9 (.int .i64 (s.l 2).S)).other (show w.heap.size + 1 ≠ w.heap.size from (by omega)) 10 (.int .i64 p.1)).other (show w.heap.size + 1 ≠ w.heap.size from (by omega)) 11 (.int .i64 p.2)).cell; have cq2 : (((w1.setCell ⟨w.heap.size, 9, none⟩ (.int .i64 (s.l 2).S)).setCell ⟨w.heap.size, 10, none⟩ (.int .i64 p.1)).setCell ⟨w.heap.size, 11, none⟩ (.int .i64 p.2)).cell? ⟨bq, q, none⟩ = some (.int .i64 x) := (by rw [(bl_set (bl_set (bl_set HB1.out (Nat.le_refl _) 9 (.int .i64 (s.l 2).S)) (Nat.le_refl _) 10 (.int .i64 p.1)) (Nat.le_refl _) 11 (.int .i64 p.2)).cell (p := ⟨bq, q, none⟩) hbq]; exact hcq); clear B9 BM1; have fS1 := BS1.frozen; have zS1 := BS1.lt; have KS1 := Lib.hid BS1; clear BS1 hb
    refine hK.out _ _ ⟨c131, cM1, cq1⟩ (fun hHeld => ?_)
    clear hK K
    try simp only [Act.put, List.setIfInBounds_toArray, List.set_cons_zero, List.set_cons_succ]
    refine wpAnyH_take (i := 16) (v := ?_) rfl (by kernel_rfl) (by kernel_rfl) (by kernel_rfl) (fun _ _ _ h => h) (Or.inl ⟨by rfl, ?hy⟩) (by assumption) ?_
    case hy => (intro w hSw; (try dsimp only at hSw); go_simp; all_goals (with_reducible rfl))
    try simp only [Act.put, List.setIfInBounds_toArray, List.set_cons_zero, List.set_cons_succ]
    refine wpAnyH_ready (rs := [17]) (by kernel_rfl) (by simp) ?_
    refine AllReadyH.cons rfl (fun K hK => ?_) AllReadyH.nil
    go_simp
    refine hK.out _ _ ⟨c132, cM2, cq2⟩ (fun hHeld => ?_)
    clear hK K
    try simp only [Act.put, List.setIfInBounds_toArray, List.set_cons_zero, List.set_cons_succ]
    refine wpAnyH_done (by kernel_rfl) ?_ _
    refine NoPanic.normal ?_
    all_goals
      have B2 := Blk.cast (((KS1.out.set 9 (.int .i64 (s.l 2).S)).set 10 (.int .i64 p.1)).set 11 (.int .i64 p.2)) (set_l2 _ _ _ _ _ _)
      have BZ2 := ((BZ1.out.other (show w.heap.size + 1 + 1 ≠ w.heap.size from (by omega)) 9 (.int .i64 (s.l 2).S)).other (show w.heap.size + 1 + 1 ≠ w.heap.size from (by omega)) 10 (.int .i64 p.1)).other (show w.heap.size + 1 + 1 ≠ w.heap.size from (by omega)) 11 (.int .i64 p.2)
      have HB2 := bl_set (bl_set (bl_set HB1.out (Nat.le_refl _) 9 (.int .i64 (s.l 2).S)) (Nat.le_refl _) 10 (.int .i64 p.1)) (Nat.le_refl _) 11 (.int .i64 p.2)
      go_wp2_with fail
      go_meet
      exact ⟨B2, BZ2, HB2⟩
  case rest =>
    obtain ⟨B2, BZ2, HB2⟩ := hcut
    have hz0 : zeroC.size = 96 := stC_size zeroSt _ _ rfl
    have h80' : (s.setL 2 ⟨(s.l 2).S, p.1, p.2⟩).ow.length = 80 := h80
    have K2 := Lib.hid B2
    have KZ2 := Lib.hid BZ2
    have KB2 := Lib.hid HB2
    clear B2 BZ2 HB2
    generalize hs2 : s.setL 2 ⟨(s.l 2).S, p.1, p.2⟩ = s2 at *
    have e1 : s2.fl = s.fl := by rw [← hs2]; rfl
    have e2 : s2.sn = s.sn := by rw [← hs2]; rfl
    go_wp2_with (first | (refine st_load rfl _ rfl w.heap.size rfl s2 _ _ K2.out h80' ?_) | (refine st_store rfl _ _ rfl (w.heap.size + 1 + 1) s2 _ _ _ _ _ _ rfl rfl zeroC KZ2.out hz0 h80' ?_))
    have hsz : (stC s2 (Value.slice Fa s.fl.length Fc) (Value.slice (some ⟨bq, 0, none⟩) s.sn.length Nc)).size = zeroC.size := by rw [stC_size _ _ _ h80', hz0]
    have HB3 := bl_sets (B := w.heap.size) (b := w.heap.size + 1 + 1) (a := w) (by omega) (stC s2 (Value.slice Fa s.fl.length Fc) (Value.slice (some ⟨bq, 0, none⟩) s.sn.length Nc)).toList 0 wc KB2.out
    have HF3 := HF.out.below HB3
    have HN3 := HN.out.below HB3
    have BZ3 := KZ2.out.setAll _ hsz
    refine bodyPost_ret (st_result rfl _ _ (w.heap.size + 1 + 1) s2 _ _ rfl BZ3 h80') rfl ⟨_, rfl, ⟨_, _, rfl, h80', ?_, ?_⟩, HB3, own_gen own_F own_N⟩
    · rw [e1]; exact HF3
    · rw [e2]; exact HN3

end Go.Proofs.Ytmgnpjaemjpamaa
