/- The contract of State.receive: a message for the witness. -/
import Derived.Test.YtmgnpjaemjpamaaX
import Derived.Test.YtmgnpjaemjpamaaQ
set_option linter.unusedSimpArgs false
set_option linter.unusedVariables false
namespace Go.Proofs.Ytmgnpjaemjpamaa
open Go.RowKit
attribute [local go_sem] st95 st0 st1 st2 st3 st4 st5 st6 st7 st8 st9 st10 st11 st12 st13 st14

theorem set_W (s : SS) (F N : Value) (a b c : Int) : (((stC s F N).setIfInBounds 0 (.int .i64 a)).setIfInBounds 1 (.int .i64 b)).setIfInBounds 2 (.int .i64 c) = stC { s with E := a, H := b, U := c } F N := by simp [stC, stL]
theorem set_rt (s : SS) (F N : Value) (h : s.ow.length = 80) (b : Bool) : (stC s F N).setIfInBounds 95 (.bool b) = stC { s with rt := b } F N := by
  apply Array.ext_getElem?
  intro i
  rw [Array.getElem?_setIfInBounds, stC_size _ _ _ h, stC_at, stC_at]
  by_cases hi : 95 = i
  · subst hi
    rw [if_pos rfl, if_pos (by decide), ← stC_at, st95 _ _ _ (by exact h)]
  · rw [if_neg hi]
    rcases Nat.lt_or_ge i 15 with h15 | h15
    · have e1 : ∀ (q : SS), (stL q F N)[i]? = ([.int .i64 q.E, .int .i64 q.H, .int .i64 q.U, .int .i64 (q.l 0).S, .int .i64 (q.l 0).E, .int .i64 (q.l 0).U, .int .i64 (q.l 1).S, .int .i64 (q.l 1).E, .int .i64 (q.l 1).U, .int .i64 (q.l 2).S, .int .i64 (q.l 2).E, .int .i64 (q.l 2).U, F, N, .int .i64 q.now] : List Value)[i]? := by
        intro q
        show (([_, _, _, _, _, _, _, _, _, _, _, _, _, _, _] : List Value) ++ _)[i]? = _
        rw [List.getElem?_append_left (by simpa using h15)]
      rw [e1, e1]
    · obtain ⟨j, rfl⟩ : ∃ j, i = 15 + j := ⟨i - 15, by omega⟩
      have e1 : ∀ (q : SS), (stL q F N)[15 + j]? = (q.ow.map (Value.int .i64) ++ [.bool q.rt])[j]? := by
        intro q
        rw [Nat.add_comm]
        simp only [stL, List.getElem?_cons_succ]
      rw [e1, e1]
      rcases Nat.lt_or_ge j 80 with h8 | h8
      · rw [List.getElem?_append_left (by simpa [h] using h8), List.getElem?_append_left (by simpa [h] using h8)]
      · rw [List.getElem?_eq_none (by simp [h]; omega), List.getElem?_eq_none (by simp [h]; omega)]
theorem wit3 (w : World) (E H U : Int) : Blk (w.alloc (Obj.cells #[.int .i64 E, .int .i64 H, .int .i64 U] 23)) w.heap.size #[.int .i64 E, .int .i64 H, .int .i64 U] := Blk.new _ _ _
theorem app_msgs_l {w : World} {ops : Array Oper} {rest : List Oper} {o : Oper} {a : Act} {Q : Exit → Act → World → Prop} (hgd : o.guard = none) (s x : Operand)
    (ho : o.op = .call { callee := .builtin .append, args := #[s, x], argTypes := #[32, 32] })
    (base g0 c0 n : Nat) (xs : List Value) (hs : a.eval s = .slice (some ⟨g0, 0, none⟩) n c0) (hown : w.ownsRow base 27 8 (.slice (some ⟨g0, 0, none⟩) n c0) n xs)
    (X : Value) (m : Nat) (news : List Value) (hx : a.eval x = X) (hX : SrcAt w X m 8 news) (hb : n + m ≤ 10000) (hbase : base ≤ w.heap.size) (hlt0 : g0 < w.heap.size)
    (h : ∀ g cap w', w'.ownsRow base 27 8 (.slice (some ⟨g, 0, none⟩) (n + m) cap) (n + m) (xs ++ news) → w.grownBy w' (some g0) → (g = g0 ∨ g = w.heap.size) → g < w'.heap.size → wpList Try.prog ops Q rest (a.put o.dst (.slice (some ⟨g, 0, none⟩) (n + m) cap)) w') :
    wpList Try.prog ops Q (o :: rest) a w :=
  wpList_step fun K hK => app_msgs (E := K (a.put o.dst undef) w) hgd s x ho base g0 c0 n xs hs hown X m news hx hX hb hbase hlt0 (fun g cap w' h1 h2 h3 h4 => hK _ _ (h g cap w' h1 h2 h3 h4))
/-- Behind the appends of receive. -/
def RcvMid (w : World) (b6 : Nat) (s : SS) (m : Nat) (N : Value) (cm : List Value) (E H U : Int) (w' : World) : Prop :=
  ∃ g c, Blk w' w.heap.size (stC s (.slice (some ⟨g, 0, none⟩) (s.fl.length + m) c) N) ∧ Blk w' b6 #[.int .i64 E, .int .i64 H, .int .i64 U] ∧ Blk w' (w.heap.size + 1 + 1) zeroC ∧ Below w.heap.size w w' ∧ w.heap.size + 1 + 1 < g ∧
    RowAt w' (.slice (some ⟨g, 0, none⟩) (s.fl.length + m) c) (s.fl.length + m) (s.fl.flatMap mC ++ cm) ∧ RowAt w' N s.sn.length (s.sn.map (Value.int .i64))

set_option maxRecDepth 100000 in
set_option maxHeartbeats 8000000 in
theorem rcv_none (w : World) (v : Value) (s : SS) (k f n v_ e : Int) (E' H' U' : Int) (hS : StAt w v s) (h2 : s.fl.length ≤ 1000) (hrt : s.rt = true) (hE : s.E ≤ E') (hh : handleS s.E s.H s.U s.now 20 k f e = ((E', H', U'), none)) :
    Calls Try.prog 45 #[v, .agg #[.int .i64 k, .int .i64 f, .int .i64 4, .int .i64 n, .int .i64 v_, .int .i64 e, .slice none 0 0, .slice none 0 0]] w (RetS w v { s with E := E', H := H', U := U', rt := true }) := by
  obtain ⟨F, N, rfl, h80, hF, hN⟩ := hS
  obtain ⟨Fa, Fc, rfl⟩ := hF.form
  obtain ⟨Na, Nc, rfl⟩ := hN.form
  have HF := Lib.hid hF
  have HN := Lib.hid hN
  have HH := Lib.hid hh
  clear hF hN hh
  have hz58 := z58
  go_enter Try.func45, Try.ntmps45
  go_wp2_with (fail)
  obtain ⟨W0, hW⟩ : ∃ W0, W0 = (((w.alloc (Obj.cells (stC s (Value.slice Fa s.fl.length Fc) (Value.slice Na s.sn.length Nc)) 58)).alloc (Obj.cells #[.int .i64 k, .int .i64 f, .int .i64 4, .int .i64 n, .int .i64 v_, .int .i64 e, .slice none 0 0, .slice none 0 0] 27)).alloc (Obj.cells zeroC 58)) := ⟨_, rfl⟩
  rw [← hW]
  have BS : Blk W0 w.heap.size (stC s (Value.slice Fa s.fl.length Fc) (Value.slice Na s.sn.length Nc)) := by rw [hW]; exact ((Blk.new _ _ _).alloc _).alloc _
  have BM : Blk W0 (w.heap.size + 1) #[.int .i64 k, .int .i64 f, .int .i64 4, .int .i64 n, .int .i64 v_, .int .i64 e, .slice none 0 0, .slice none 0 0] := by rw [hW]; exact (Blk.new1 _ _ _ _).alloc _
  have BZ : Blk W0 (w.heap.size + 1 + 1) zeroC := by rw [hW]; exact Blk.new2 _ _ _ _ _
  have HB : Below w.heap.size w W0 := by rw [hW]; exact bl_alloc (bl_alloc (bl_alloc (Below.refl _ _) _) _) _
  have RF := HF.out.below HB
  have RN := HN.out.below HB
  clear hW
  have cS := BS.cell
  have cM := BM.cell
  have zS := BS.lt
  have KS := Lib.hid BS
  have KM := Lib.hid BM
  have KZ := Lib.hid BZ
  have KB := Lib.hid HB
  have KRF := Lib.hid RF
  have KRN := Lib.hid RN
  have zB := HB.size
  have zM := BM.lt
  have zZ := BZ.lt
  clear BS BM BZ HB RF RN
  go_upto_region 5 with (go_at_call 12; refine (hand_v s.E s.H s.U s.now 20 k f 4 n v_ e (.slice none 0 0) (.slice none 0 0) _ _ HH.out).mono ?_; rintro r w1 ⟨x, rfl, hx, hb⟩; have BS1 := KS.out.below hb; have KZ1 := Lib.hid (KZ.out.below hb); have cS1 := BS1.cell; have fS1 := BS1.frozen; have zS1 := BS1.lt; have zZ1 := KZ1.out.lt; have zH1 := hb.size; have KS1 := Lib.hid BS1; have KB1 := Lib.hid (bl_trans KB.out hb); have KRF1 := Lib.hid (KRF.out.below hb); have KRN1 := Lib.hid (KRN.out.below hb); have hx1 : x = .slice none 0 0 := hx; subst hx1; clear BS1 hb hx)
  obtain ⟨W2, hW2⟩ : ∃ W2, W2 = ((((w1.setCell { block := w.heap.size, off := 0 } (Value.int IntKind.i64 E')).setCell { block := w.heap.size, off := 1 } (Value.int IntKind.i64 H')).setCell { block := w.heap.size, off := 2 } (Value.int IntKind.i64 U')).alloc (Obj.cells #[Value.int IntKind.i64 E', Value.int IntKind.i64 H', Value.int IntKind.i64 U'] 23)) := ⟨_, rfl⟩
  rw [← hW2]
  have BS2 : Blk W2 w.heap.size (stC { s with E := E', H := H', U := U' } (Value.slice Fa s.fl.length Fc) (Value.slice Na s.sn.length Nc)) := by rw [hW2]; exact Blk.cast ((((KS1.out.set 0 _).set 1 _).set 2 _).alloc _) (set_W _ _ _ _ _ _)
  have B62 : Blk W2 w1.heap.size #[.int .i64 E', .int .i64 H', .int .i64 U'] := by rw [hW2]; have := wit3 (((w1.setCell { block := w.heap.size, off := 0 } (Value.int IntKind.i64 E')).setCell { block := w.heap.size, off := 1 } (Value.int IntKind.i64 H')).setCell { block := w.heap.size, off := 2 } (Value.int IntKind.i64 U')) E' H' U'; simpa [World.setCell] using this
  have BZ2 : Blk W2 (w.heap.size + 1 + 1) zeroC := by rw [hW2]; exact (((KZ1.out.other (by omega) _ _).other (by omega) _ _).other (by omega) _ _).alloc _
  have HB2 : Below w.heap.size w W2 := by rw [hW2]; exact bl_alloc (bl_set (bl_set (bl_set KB1.out (Nat.le_refl _) _ _) (Nat.le_refl _) _ _) (Nat.le_refl _) _ _) _
  have RF2 := HF.out.below HB2
  have RN2 := HN.out.below HB2
  have z12 : w1.heap.size < W2.heap.size := B62.lt
  clear hW2 cS1 fS1 zS1 KRF1 KRN1 KS1 KZ1 KB1
  have cS2 := BS2.cell
  have fS2 := BS2.frozen
  have zS2 := BS2.lt
  have zZ2 := BZ2.lt
  have zB2 := HB2.size
  have KS2 := Lib.hid BS2
  have K62 := Lib.hid B62
  have KZ2 := Lib.hid BZ2
  have KB2 := Lib.hid HB2
  have KRF2 := Lib.hid RF2
  have KRN2 := Lib.hid RN2
  clear BS2 B62 BZ2 HB2 RF2 RN2
  go_cut [] (fun w' => RcvMid w w1.heap.size { s with E := E', H := H', U := U' } 0 (Value.slice Na s.sn.length Nc) [] E' H' U' w')
  case first =>
    go_wp2_with (first | (refine app_msgs_l rfl _ _ rfl w.heap.size _ _ 0 [] rfl (own_lit (cs := #[]) ?_ rfl ?_ (by decide)) (Value.slice Fa s.fl.length Fc) s.fl.length (s.fl.flatMap mC) rfl (RowAt.src ?_ (flat_len _) (flat_one _)) (by omega) ?_ ?_ ?_; (first | exact alloc_at _ _ | exact alloc2_at _ _ _ | exact map_at _ _ _); (focus (first | omega | (simp; done) | (simp; omega))); (focus (repeat (with_reducible first | exact KRF2.out | apply RowAt.drew | apply RowAt.alloc))); (focus (first | omega | (simp; done) | (simp; omega))); (focus (first | omega | (simp; done) | (simp; omega))); intro g1 cap1 w1' own1 grw1 at1 lt1; simp only [Nat.zero_add, List.nil_append] at own1; (try simp at at1); have zg1 := grw1.size; (try simp at zg1); have BS1 : Blk w1' w.heap.size (stC { s with E := E', H := H', U := U' } (Value.slice Fa s.fl.length Fc) (Value.slice Na s.sn.length Nc)) := (by (focus (repeat (with_reducible first | exact KS2.out | exact K62.out | exact KZ2.out | exact Blk.new _ _ _ | exact Blk.new1 _ _ _ _ | apply Blk.drew | apply Blk.alloc | refine Blk.grown ?_ grw1 ?_ | refine Blk.grown ?_ grw2 ?_ | omega)))); have cS3 := BS1.cell; have fS3 := BS1.frozen; have zS3 := BS1.lt; clear BS1) | (refine app_msgs_l rfl _ _ rfl w.heap.size _ _ _ (s.fl.flatMap mC) rfl ?_ _ 0 [] rfl (RowAt.src (w := _) (.inl ⟨rfl, rfl, none, 0, rfl, rfl⟩) rfl (by intro u hu; cases hu)) (by omega) ?_ ?_ ?_; (first | exact own1 | exact own1.alloc _); (focus (first | omega | (simp; done) | (simp; omega))); (focus (first | omega | (simp; done) | (simp; omega))); intro g2 cap2 w2' own2 grw2 at2 lt2; (try simp at at2); have BS2 : Blk w2' w.heap.size (stC { s with E := E', H := H', U := U' } (Value.slice Fa s.fl.length Fc) (Value.slice Na s.sn.length Nc)) := (by (focus (repeat (with_reducible first | exact KS2.out | exact K62.out | exact KZ2.out | exact Blk.new _ _ _ | exact Blk.new1 _ _ _ _ | apply Blk.drew | apply Blk.alloc | refine Blk.grown ?_ grw1 ?_ | refine Blk.grown ?_ grw2 ?_ | omega)))); have cS4 := BS2.cell; have fS4 := BS2.frozen; have zS4 := BS2.lt; have KS4 := Lib.hid BS2; clear BS2))
    all_goals
      have HB3 : Below w.heap.size w w2' := by (focus (repeat (with_reducible first | exact KB2.out | apply Below.drew | apply bl_alloc | refine bl_grown ?_ grw1 ?_ | refine bl_grown ?_ grw2 ?_ | omega)))
      have BZ3 : Blk w2' (w.heap.size + 1 + 1) zeroC := by (focus (repeat (with_reducible first | exact KS2.out | exact K62.out | exact KZ2.out | exact Blk.new _ _ _ | exact Blk.new1 _ _ _ _ | apply Blk.drew | apply Blk.alloc | refine Blk.grown ?_ grw1 ?_ | refine Blk.grown ?_ grw2 ?_ | omega)))
      have B63 : Blk w2' w1.heap.size #[.int .i64 E', .int .i64 H', .int .i64 U'] := by (focus (repeat (with_reducible first | exact KS2.out | exact K62.out | exact KZ2.out | exact Blk.new _ _ _ | exact Blk.new1 _ _ _ _ | apply Blk.drew | apply Blk.alloc | refine Blk.grown ?_ grw1 ?_ | refine Blk.grown ?_ grw2 ?_ | omega)))
      have HB4 := bl_set HB3 (Nat.le_refl _) 12 (Value.slice (some ⟨g2, 0, none⟩) (s.fl.length + 0) cap2)
      have RG := own_row own2
      go_meet
      exact ⟨g2, cap2, Blk.cast (KS4.out.set 12 _) (set_F _ _ _ _), B63.other (by omega) _ _, BZ3.other (by omega) _ _, HB4, by omega, RG.setOther (fun b hb => by simp [Value.ownBlock] at hb; omega), HN.out.below HB4⟩
  case rest =>
    obtain ⟨gF, cF, BS, B6, BZ, HB, hgF, RF, RN⟩ := hcut
    have cS := BS.cell
    have fS := BS.frozen
    have zS := BS.lt
    have c6 := B6.cell
    have h95 := st95 { s with E := E', H := H', U := U' } (.slice (some ⟨gF, 0, none⟩) (s.fl.length + 0) cF) (Value.slice Na s.sn.length Nc) h80
    have KS := Lib.hid BS
    have KZ := Lib.hid BZ
    have KB := Lib.hid HB
    have KRF := Lib.hid RF
    have KRN := Lib.hid RN
    clear BS BZ HB RF RN B6
    have hz0 : zeroC.size = 96 := stC_size zeroSt _ _ rfl
    go_wp2_with (fail)
    refine wp_loop_rounds 1 ?_
    rw [rounds_succ]
    have B4 := Blk.cast (KS.out.set 95 (.bool true)) (set_rt _ _ _ (by exact h80) _)
    have BZ4 := KZ.out.other (show w.heap.size + 1 + 1 ≠ w.heap.size by omega) 95 (.bool true)
    go_wp2_with (first | (refine st_load rfl _ rfl w.heap.size rfl _ _ _ B4 h80 ?_) | (refine st_store rfl _ _ rfl (w.heap.size + 1 + 1) _ _ _ _ _ _ _ rfl rfl zeroC BZ4 hz0 h80 ?_))
    have hsz : (stC { s with E := E', H := H', U := U', rt := true } (Value.slice (some ⟨gF, 0, none⟩) (s.fl.length + 0) cF) (Value.slice Na s.sn.length Nc)).size = zeroC.size := by rw [stC_size _ _ _ (by exact h80), hz0]
    refine bodyPost_ret (st_result rfl _ _ (w.heap.size + 1 + 1) { s with E := E', H := H', U := U', rt := true } _ _ rfl (BZ4.setAll _ hsz) h80) rfl ⟨_, rfl, ⟨_, _, rfl, h80, ?_, ?_⟩, bl_sets (by omega) _ _ _ (bl_set KB.out (Nat.le_refl _) _ _), own_gen (own_fresh (by omega)) own_N⟩
    · have := (KRF.out.setOther (i := 95) (v := .bool true) (fun b hb => by simp [Value.ownBlock] at hb; omega : ∀ b, _ → b ≠ w.heap.size)).setAllOther (b' := w.heap.size + 1 + 1) (fun b hb => by simp [Value.ownBlock] at hb; omega) 0 (stC { s with E := E', H := H', U := U', rt := true } (Value.slice (some ⟨gF, 0, none⟩) (s.fl.length + 0) cF) (Value.slice Na s.sn.length Nc)).toList
      simpa [mC] using this
    · have := HN.out.below (bl_sets (by omega) (stC { s with E := E', H := H', U := U', rt := true } (Value.slice (some ⟨gF, 0, none⟩) (s.fl.length + 0) cF) (Value.slice Na s.sn.length Nc)).toList 0 _ (bl_set KB.out (Nat.le_refl _) 95 (.bool true)) : Below w.heap.size w (World.setCells _ (w.heap.size + 1 + 1) 0 _))
      exact this

end Go.Proofs.Ytmgnpjaemjpamaa
