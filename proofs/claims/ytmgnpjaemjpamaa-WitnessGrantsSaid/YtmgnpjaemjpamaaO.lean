/- The contract of awake: the examples of the chapter answer true. -/
import Derived.Test.YtmgnpjaemjpamaaN
import Derived.Deep.RegionHeld3
import Derived.Deep.RegionWith
set_option linter.unusedSimpArgs false
set_option linter.unusedVariables false
namespace Go.Proofs.Ytmgnpjaemjpamaa
open Go.RowKit

theorem bl_alloc {w W : World} (h : Below w.heap.size w W) (o : Obj) : Below w.heap.size w (W.alloc o) := h.alloc h.size o
theorem bl_trans {w W W' : World} (h : Below w.heap.size w W) (hb : Below W.heap.size W W') : Below w.heap.size w W' := h.trans (hb.mono h.size)

theorem Blk.new1 (w : World) (o : Obj) (cs : Array Value) (t : TypeId) : Blk ((w.alloc o).alloc (.cells cs t)) (w.heap.size + 1) cs := ⟨t, map_at _ _ _⟩
theorem Blk.new2 (w : World) (o o' : Obj) (cs : Array Value) (t : TypeId) : Blk (((w.alloc o).alloc o').alloc (.cells cs t)) (w.heap.size + 1 + 1) cs := ⟨t, by have := map_at (w.alloc o) o' (.cells cs t); simpa using this⟩

set_option maxHeartbeats 4000000 in
theorem awake_c (w : World) : Calls Try.prog 11 #[] w fun e w' => e = .returned (.bool true) ∧ Below w.heap.size w w' := by
  go_enter Try.func11, Try.ntmps11
  go_wp2_with fail
  refine (aw1 _).mono ?_
  rintro r w1 ⟨rfl, hb⟩
  (try unfold Msg8)
  (try unfold nilS)
  have H1 : Hid (Below w.heap.size w w1) := Lib.hid (bl_trans (by repeat (with_reducible first | exact Below.refl _ _ | apply Below.drew | apply bl_alloc | apply bl_drewN | fail)) hb)
  have Z1 := H1.out.size
  have BA : Blk w1 (w.heap.size) #[.int .i64 0, .int .i64 0, .int .i64 0] := Blk.below (Blk.new _ _ _) hb
  clear hb
  have cA := BA.cell
  have fA := BA.frozen
  have zA := BA.lt
  have KA := Lib.hid BA
  clear BA
  go_wp2_with fail
  refine (aw2 _).mono ?_
  rintro r w2 ⟨x, rfl, ⟨m2, hm2, rfl, hc2⟩, hb⟩
  (try unfold Msg8)
  (try unfold nilS)
  have H2 : Hid (Below w.heap.size w w2) := Lib.hid (bl_trans (by repeat (with_reducible first | exact H1.out | apply Below.drew | apply bl_alloc | apply bl_drewN | fail)) hb)
  have Z2 := H2.out.size
  have BA : Blk w2 (w.heap.size) #[.int .i64 0, .int .i64 0, .int .i64 0] := Blk.below (by repeat (with_reducible first | exact KA.out | exact Blk.new _ _ _ | exact Blk.new1 _ _ _ _ | exact Blk.new2 _ _ _ _ _ | apply Blk.drew | apply Blk.alloc)) hb
  have BL : Blk w2 (m2) #[.int .i64 16, .int .i64 4, .int .i64 0, .int .i64 0, .int .i64 10, .int .i64 1, .slice none 0 0, .slice none 0 0] := ⟨_, hc2⟩
  clear cA fA zA KA
  clear H1
  clear hb
  have cA := BA.cell
  have fA := BA.frozen
  have zA := BA.lt
  have KA := Lib.hid BA
  clear BA
  have cL := BL.cell
  have fL := BL.frozen
  have zL := BL.lt
  have KL := Lib.hid BL
  clear BL
  go_wp2_with fail
  have nL : m2 ≠ w.heap.size := (by simp at hm2; omega)
  have nW : w2.heap.size ≠ w.heap.size := (by omega)
  go_region_with ((go_at_call 17; refine (aw3 _).mono ?_; rintro r w3 ⟨rfl, hb⟩; (try unfold Msg8); (try unfold nilS); have H3 : Hid (Below w.heap.size w w3) := Lib.hid (bl_trans (by repeat (with_reducible first | exact H2.out | apply Below.drew | apply bl_alloc | apply bl_drewN | fail)) hb); have Z3 := H3.out.size; have BA : Blk w3 (w.heap.size) #[.int .i64 0, .int .i64 0, .int .i64 0] := Blk.below (by repeat (with_reducible first | exact KA.out | exact Blk.new _ _ _ | exact Blk.new1 _ _ _ _ | exact Blk.new2 _ _ _ _ _ | apply Blk.drew | apply Blk.alloc)) hb; have BL : Blk w3 (m2) #[.int .i64 16, .int .i64 4, .int .i64 0, .int .i64 0, .int .i64 10, .int .i64 1, .slice none 0 0, .slice none 0 0] := Blk.below (by repeat (with_reducible first | exact KL.out | exact Blk.new _ _ _ | exact Blk.new1 _ _ _ _ | exact Blk.new2 _ _ _ _ _ | apply Blk.drew | apply Blk.alloc)) hb; have BW : Blk w3 (w2.heap.size) #[.int .i64 1, .int .i64 0, .int .i64 15] := Blk.below ((by repeat (with_reducible first | exact Blk.new _ _ _ | exact Blk.new1 _ _ _ _ | exact Blk.new2 _ _ _ _ _ | apply Blk.drew | apply Blk.alloc))) hb; clear cA fA zA KA cL fL zL KL; clear H2; clear hb; have cA := BA.cell; have fA := BA.frozen; have zA := BA.lt; have KA := Lib.hid BA; clear BA; have cL := BL.cell; have fL := BL.frozen; have zL := BL.lt; have KL := Lib.hid BL; clear BL; have cW := BW.cell; have fW := BW.frozen; have zW := BW.lt; have KW := Lib.hid BW; clear BW))
  all_goals
    go_wp2_with fail
    refine (aw4 _).mono ?_
    rintro r w4 ⟨rfl, hb⟩
    (try unfold Msg8)
    (try unfold nilS)
    have H4 : Hid (Below w.heap.size w w4) := Lib.hid (bl_trans (by repeat (with_reducible first | exact H3.out | apply Below.drew | apply bl_alloc | apply bl_drewN | (refine bl_set ?_ (Nat.le_refl _) _ _))) hb)
    have Z4 := H4.out.size
    have BA : Blk w4 (w.heap.size) #[.int .i64 0, .int .i64 1, .int .i64 12] := Blk.below (Blk.cast (((KA.out.set 0 _).set 1 _).set 2 _) rfl) hb
    have BL : Blk w4 (m2) #[.int .i64 16, .int .i64 4, .int .i64 0, .int .i64 0, .int .i64 10, .int .i64 1, .slice none 0 0, .slice none 0 0] := Blk.below (((KL.out.other nL _ _).other nL _ _).other nL _ _) hb
    have BW : Blk w4 (w2.heap.size) #[.int .i64 1, .int .i64 0, .int .i64 15] := Blk.below (((KW.out.other nW _ _).other nW _ _).other nW _ _) hb
    clear cA fA zA KA cL fL zL KL cW fW zW KW
    clear H3
    clear hb
    have cA := BA.cell
    have fA := BA.frozen
    have zA := BA.lt
    have KA := Lib.hid BA
    clear BA
    have cL := BL.cell
    have fL := BL.frozen
    have zL := BL.lt
    have KL := Lib.hid BL
    clear BL
    have cW := BW.cell
    have fW := BW.frozen
    have zW := BW.lt
    have KW := Lib.hid BW
    clear BW
    go_wp2_with fail
    refine (aw5 _).mono ?_
    rintro r w5 ⟨x, rfl, ⟨m5, hm5, rfl, hc5⟩, hb⟩
    (try unfold Msg8)
    (try unfold nilS)
    have H5 : Hid (Below w.heap.size w w5) := Lib.hid (bl_trans (by repeat (with_reducible first | exact H4.out | apply Below.drew | apply bl_alloc | apply bl_drewN | fail)) hb)
    have Z5 := H5.out.size
    have BA : Blk w5 (w.heap.size) #[.int .i64 0, .int .i64 1, .int .i64 12] := Blk.below (by repeat (with_reducible first | exact KA.out | exact Blk.new _ _ _ | exact Blk.new1 _ _ _ _ | exact Blk.new2 _ _ _ _ _ | apply Blk.drew | apply Blk.alloc)) hb
    have BL : Blk w5 (m2) #[.int .i64 16, .int .i64 4, .int .i64 0, .int .i64 0, .int .i64 10, .int .i64 1, .slice none 0 0, .slice none 0 0] := Blk.below (by repeat (with_reducible first | exact KL.out | exact Blk.new _ _ _ | exact Blk.new1 _ _ _ _ | exact Blk.new2 _ _ _ _ _ | apply Blk.drew | apply Blk.alloc)) hb
    have BW : Blk w5 (w2.heap.size) #[.int .i64 1, .int .i64 0, .int .i64 15] := Blk.below (by repeat (with_reducible first | exact KW.out | exact Blk.new _ _ _ | exact Blk.new1 _ _ _ _ | exact Blk.new2 _ _ _ _ _ | apply Blk.drew | apply Blk.alloc)) hb
    have BN : Blk w5 (w4.heap.size) #[.int .i64 15, .int .i64 1, .int .i64 4, .int .i64 0, .int .i64 0, .int .i64 2, .slice none 0 0, .slice none 0 0] := Blk.below ((by repeat (with_reducible first | exact Blk.new _ _ _ | exact Blk.new1 _ _ _ _ | exact Blk.new2 _ _ _ _ _ | apply Blk.drew | apply Blk.alloc))) hb
    have BR : Blk w5 (m5) #[.int .i64 12, .int .i64 4, .int .i64 1, .int .i64 0, .int .i64 0, .int .i64 1, .slice none 0 0, .slice none 0 0] := ⟨_, hc5⟩
    clear cA fA zA KA cL fL zL KL cW fW zW KW
    clear H4
    clear hb
    have cA := BA.cell
    have fA := BA.frozen
    have zA := BA.lt
    have KA := Lib.hid BA
    clear BA
    have cL := BL.cell
    have fL := BL.frozen
    have zL := BL.lt
    have KL := Lib.hid BL
    clear BL
    have cW := BW.cell
    have fW := BW.frozen
    have zW := BW.lt
    have KW := Lib.hid BW
    clear BW
    have cN := BN.cell
    have fN := BN.frozen
    have zN := BN.lt
    have KN := Lib.hid BN
    clear BN
    have cR := BR.cell
    have fR := BR.frozen
    have zR := BR.lt
    have KR := Lib.hid BR
    clear BR
    go_wp2_with fail
    refine (aw6 _).mono ?_
    rintro r w6 ⟨x, rfl, ⟨m6, hm6, rfl, hc6⟩, hb⟩
    (try unfold Msg8)
    (try unfold nilS)
    have H6 : Hid (Below w.heap.size w w6) := Lib.hid (bl_trans (by repeat (with_reducible first | exact H5.out | apply Below.drew | apply bl_alloc | apply bl_drewN | fail)) hb)
    have Z6 := H6.out.size
    have BA : Blk w6 (w.heap.size) #[.int .i64 0, .int .i64 1, .int .i64 12] := Blk.below (by repeat (with_reducible first | exact KA.out | exact Blk.new _ _ _ | exact Blk.new1 _ _ _ _ | exact Blk.new2 _ _ _ _ _ | apply Blk.drew | apply Blk.alloc)) hb
    have BL : Blk w6 (m2) #[.int .i64 16, .int .i64 4, .int .i64 0, .int .i64 0, .int .i64 10, .int .i64 1, .slice none 0 0, .slice none 0 0] := Blk.below (by repeat (with_reducible first | exact KL.out | exact Blk.new _ _ _ | exact Blk.new1 _ _ _ _ | exact Blk.new2 _ _ _ _ _ | apply Blk.drew | apply Blk.alloc)) hb
    have BW : Blk w6 (w2.heap.size) #[.int .i64 1, .int .i64 0, .int .i64 15] := Blk.below (by repeat (with_reducible first | exact KW.out | exact Blk.new _ _ _ | exact Blk.new1 _ _ _ _ | exact Blk.new2 _ _ _ _ _ | apply Blk.drew | apply Blk.alloc)) hb
    have BN : Blk w6 (w4.heap.size) #[.int .i64 15, .int .i64 1, .int .i64 4, .int .i64 0, .int .i64 0, .int .i64 2, .slice none 0 0, .slice none 0 0] := Blk.below (by repeat (with_reducible first | exact KN.out | exact Blk.new _ _ _ | exact Blk.new1 _ _ _ _ | exact Blk.new2 _ _ _ _ _ | apply Blk.drew | apply Blk.alloc)) hb
    have BR : Blk w6 (m5) #[.int .i64 12, .int .i64 4, .int .i64 1, .int .i64 0, .int .i64 0, .int .i64 1, .slice none 0 0, .slice none 0 0] := Blk.below (by repeat (with_reducible first | exact KR.out | exact Blk.new _ _ _ | exact Blk.new1 _ _ _ _ | exact Blk.new2 _ _ _ _ _ | apply Blk.drew | apply Blk.alloc)) hb
    have BG : Blk w6 (m6) #[.int .i64 16, .int .i64 4, .int .i64 1, .int .i64 0, .int .i64 10, .int .i64 2, .slice none 0 0, .slice none 0 0] := ⟨_, hc6⟩
    clear cA fA zA KA cL fL zL KL cW fW zW KW cN fN zN KN cR fR zR KR
    clear H5
    clear hb
    have cA := BA.cell
    have fA := BA.frozen
    have zA := BA.lt
    have KA := Lib.hid BA
    clear BA
    have cL := BL.cell
    have fL := BL.frozen
    have zL := BL.lt
    have KL := Lib.hid BL
    clear BL
    have cW := BW.cell
    have fW := BW.frozen
    have zW := BW.lt
    have KW := Lib.hid BW
    clear BW
    have cN := BN.cell
    have fN := BN.frozen
    have zN := BN.lt
    have KN := Lib.hid BN
    clear BN
    have cR := BR.cell
    have fR := BR.frozen
    have zR := BR.lt
    have KR := Lib.hid BR
    clear BR
    have cG := BG.cell
    have fG := BG.frozen
    have zG := BG.lt
    have KG := Lib.hid BG
    clear BG
    go_wp2_with fail
    refine (aw7 _).mono ?_
    rintro r w7 ⟨rfl, hb⟩
    (try unfold Msg8)
    (try unfold nilS)
    have H7 : Hid (Below w.heap.size w w7) := Lib.hid (bl_trans (by repeat (with_reducible first | exact H6.out | apply Below.drew | apply bl_alloc | apply bl_drewN | fail)) hb)
    have Z7 := H7.out.size
    have BA : Blk w7 (w.heap.size) #[.int .i64 0, .int .i64 1, .int .i64 12] := Blk.below (by repeat (with_reducible first | exact KA.out | exact Blk.new _ _ _ | exact Blk.new1 _ _ _ _ | exact Blk.new2 _ _ _ _ _ | apply Blk.drew | apply Blk.alloc)) hb
    have BL : Blk w7 (m2) #[.int .i64 16, .int .i64 4, .int .i64 0, .int .i64 0, .int .i64 10, .int .i64 1, .slice none 0 0, .slice none 0 0] := Blk.below (by repeat (with_reducible first | exact KL.out | exact Blk.new _ _ _ | exact Blk.new1 _ _ _ _ | exact Blk.new2 _ _ _ _ _ | apply Blk.drew | apply Blk.alloc)) hb
    have BW : Blk w7 (w2.heap.size) #[.int .i64 1, .int .i64 0, .int .i64 15] := Blk.below (by repeat (with_reducible first | exact KW.out | exact Blk.new _ _ _ | exact Blk.new1 _ _ _ _ | exact Blk.new2 _ _ _ _ _ | apply Blk.drew | apply Blk.alloc)) hb
    have BR : Blk w7 (m5) #[.int .i64 12, .int .i64 4, .int .i64 1, .int .i64 0, .int .i64 0, .int .i64 1, .slice none 0 0, .slice none 0 0] := Blk.below (by repeat (with_reducible first | exact KR.out | exact Blk.new _ _ _ | exact Blk.new1 _ _ _ _ | exact Blk.new2 _ _ _ _ _ | apply Blk.drew | apply Blk.alloc)) hb
    have BG : Blk w7 (m6) #[.int .i64 16, .int .i64 4, .int .i64 1, .int .i64 0, .int .i64 10, .int .i64 2, .slice none 0 0, .slice none 0 0] := Blk.below (by repeat (with_reducible first | exact KG.out | exact Blk.new _ _ _ | exact Blk.new1 _ _ _ _ | exact Blk.new2 _ _ _ _ _ | apply Blk.drew | apply Blk.alloc)) hb
    clear cA fA zA KA cL fL zL KL cW fW zW KW cN fN zN KN cR fR zR KR cG fG zG KG
    clear H6
    clear hb
    have cA := BA.cell
    have fA := BA.frozen
    have zA := BA.lt
    have KA := Lib.hid BA
    clear BA
    have cL := BL.cell
    have fL := BL.frozen
    have zL := BL.lt
    have KL := Lib.hid BL
    clear BL
    have cW := BW.cell
    have fW := BW.frozen
    have zW := BW.lt
    have KW := Lib.hid BW
    clear BW
    have cR := BR.cell
    have fR := BR.frozen
    have zR := BR.lt
    have KR := Lib.hid BR
    clear BR
    have cG := BG.cell
    have fG := BG.frozen
    have zG := BG.lt
    have KG := Lib.hid BG
    clear BG
    go_wp2_with fail
    have yR := zR
    have yG := zG
    have y1 : m2 < w7.heap.size + 1 := (by omega)
    have y2 : m2 < w7.heap.size + 1 + 1 := (by omega)
    have y3 : m2 ≠ w7.heap.size + 1 := (by omega)
    have y4 : m2 ≠ w7.heap.size + 1 + 1 := (by omega)
    go_region_held3 (fun w' => (∀ o, w'.cell? ⟨m2, o, none⟩ = (#[.int .i64 16, .int .i64 4, .int .i64 0, .int .i64 0, .int .i64 10, .int .i64 1, .slice none 0 0, .slice none 0 0] : Array Value)[o]?) ∧ (∀ o, w'.cell? ⟨w7.heap.size, o, none⟩ = (#[.int .i64 0, .int .i64 2, .int .i64 0] : Array Value)[o]?)) (first | exact ⟨cL, cC⟩ | (refine ⟨Blk.cell ?_, Blk.cell ?_⟩ <;> (repeat (with_reducible first | exact KL.out | exact KC.out | exact Blk.new _ _ _ | exact Blk.new1 _ _ _ _ | apply Blk.drew | apply Blk.alloc | omega | refine Blk.other ?_ ?_ _ _)); done)) (first | (go_at_call 17; (with_reducible refine (aw8 (World.drew (World.alloc (World.alloc (World.alloc _ _) _) _))).mono ?_); rintro r w8 ⟨rfl, hb⟩; (try unfold Msg8); (try unfold nilS); have H8 : Hid (Below w.heap.size w w8) := Lib.hid (bl_trans (by repeat (with_reducible first | exact H7.out | apply Below.drew | apply bl_alloc | apply bl_drewN | fail)) hb); have Z8 := H8.out.size; have BA : Blk w8 (w.heap.size) #[.int .i64 0, .int .i64 1, .int .i64 12] := Blk.below (by repeat (with_reducible first | exact KA.out | exact Blk.new _ _ _ | exact Blk.new1 _ _ _ _ | exact Blk.new2 _ _ _ _ _ | apply Blk.drew | apply Blk.alloc)) hb; have BL : Blk w8 (m2) #[.int .i64 16, .int .i64 4, .int .i64 0, .int .i64 0, .int .i64 10, .int .i64 1, .slice none 0 0, .slice none 0 0] := Blk.below (by repeat (with_reducible first | exact KL.out | exact Blk.new _ _ _ | exact Blk.new1 _ _ _ _ | exact Blk.new2 _ _ _ _ _ | apply Blk.drew | apply Blk.alloc)) hb; have BW : Blk w8 (w2.heap.size) #[.int .i64 1, .int .i64 0, .int .i64 15] := Blk.below (by repeat (with_reducible first | exact KW.out | exact Blk.new _ _ _ | exact Blk.new1 _ _ _ _ | exact Blk.new2 _ _ _ _ _ | apply Blk.drew | apply Blk.alloc)) hb; have BR : Blk w8 (m5) #[.int .i64 12, .int .i64 4, .int .i64 1, .int .i64 0, .int .i64 0, .int .i64 1, .slice none 0 0, .slice none 0 0] := Blk.below (by repeat (with_reducible first | exact KR.out | exact Blk.new _ _ _ | exact Blk.new1 _ _ _ _ | exact Blk.new2 _ _ _ _ _ | apply Blk.drew | apply Blk.alloc)) hb; have BG : Blk w8 (m6) #[.int .i64 16, .int .i64 4, .int .i64 1, .int .i64 0, .int .i64 10, .int .i64 2, .slice none 0 0, .slice none 0 0] := Blk.below (by repeat (with_reducible first | exact KG.out | exact Blk.new _ _ _ | exact Blk.new1 _ _ _ _ | exact Blk.new2 _ _ _ _ _ | apply Blk.drew | apply Blk.alloc)) hb; have BC : Blk w8 (w7.heap.size) #[.int .i64 0, .int .i64 2, .int .i64 0] := Blk.below ((by repeat (with_reducible first | exact Blk.new _ _ _ | exact Blk.new1 _ _ _ _ | exact Blk.new2 _ _ _ _ _ | apply Blk.drew | apply Blk.alloc))) hb; have BD : Blk w8 (w7.heap.size + 1) #[.int .i64 18, .int .i64 0, .int .i64 4, .int .i64 0, .int .i64 0, .int .i64 1, .slice none 0 0, .slice none 0 0] := Blk.below ((by repeat (with_reducible first | exact Blk.new _ _ _ | exact Blk.new1 _ _ _ _ | exact Blk.new2 _ _ _ _ _ | apply Blk.drew | apply Blk.alloc))) hb; have BE : Blk w8 (w7.heap.size + 1 + 1) #[.int .i64 0, .int .i64 0, .int .i64 0] := Blk.below ((by repeat (with_reducible first | exact Blk.new _ _ _ | exact Blk.new1 _ _ _ _ | exact Blk.new2 _ _ _ _ _ | apply Blk.drew | apply Blk.alloc))) hb; clear cA fA zA KA cL fL zL KL cW fW zW KW cR fR zR KR cG fG zG KG; clear H7; clear hb; have cA := BA.cell; have fA := BA.frozen; have zA := BA.lt; have KA := Lib.hid BA; clear BA; have cL := BL.cell; have fL := BL.frozen; have zL := BL.lt; have KL := Lib.hid BL; clear BL; have cW := BW.cell; have fW := BW.frozen; have zW := BW.lt; have KW := Lib.hid BW; clear BW; have cR := BR.cell; have fR := BR.frozen; have zR := BR.lt; have KR := Lib.hid BR; clear BR; have cG := BG.cell; have fG := BG.frozen; have zG := BG.lt; have KG := Lib.hid BG; clear BG; have cC := BC.cell; have fC := BC.frozen; have zC := BC.lt; have KC := Lib.hid BC; clear BC; have cD := BD.cell; have fD := BD.frozen; have zD := BD.lt; have KD := Lib.hid BD; clear BD; have cE := BE.cell; have fE := BE.frozen; have zE := BE.lt; have KE := Lib.hid BE; clear BE) | (go_at_call 17; refine (aw8 _).mono ?_; rintro r w8 ⟨rfl, hb⟩; (try unfold Msg8); (try unfold nilS); have H8 : Hid (Below w.heap.size w w8) := Lib.hid (bl_trans (by repeat (with_reducible first | exact H7.out | apply Below.drew | apply bl_alloc | apply bl_drewN | fail)) hb); have Z8 := H8.out.size; have BA : Blk w8 (w.heap.size) #[.int .i64 0, .int .i64 1, .int .i64 12] := Blk.below (by repeat (with_reducible first | exact KA.out | exact Blk.new _ _ _ | exact Blk.new1 _ _ _ _ | exact Blk.new2 _ _ _ _ _ | apply Blk.drew | apply Blk.alloc)) hb; have BL : Blk w8 (m2) #[.int .i64 16, .int .i64 4, .int .i64 0, .int .i64 0, .int .i64 10, .int .i64 1, .slice none 0 0, .slice none 0 0] := Blk.below (by repeat (with_reducible first | exact KL.out | exact Blk.new _ _ _ | exact Blk.new1 _ _ _ _ | exact Blk.new2 _ _ _ _ _ | apply Blk.drew | apply Blk.alloc)) hb; have BW : Blk w8 (w2.heap.size) #[.int .i64 1, .int .i64 0, .int .i64 15] := Blk.below (by repeat (with_reducible first | exact KW.out | exact Blk.new _ _ _ | exact Blk.new1 _ _ _ _ | exact Blk.new2 _ _ _ _ _ | apply Blk.drew | apply Blk.alloc)) hb; have BR : Blk w8 (m5) #[.int .i64 12, .int .i64 4, .int .i64 1, .int .i64 0, .int .i64 0, .int .i64 1, .slice none 0 0, .slice none 0 0] := Blk.below (by repeat (with_reducible first | exact KR.out | exact Blk.new _ _ _ | exact Blk.new1 _ _ _ _ | exact Blk.new2 _ _ _ _ _ | apply Blk.drew | apply Blk.alloc)) hb; have BG : Blk w8 (m6) #[.int .i64 16, .int .i64 4, .int .i64 1, .int .i64 0, .int .i64 10, .int .i64 2, .slice none 0 0, .slice none 0 0] := Blk.below (by repeat (with_reducible first | exact KG.out | exact Blk.new _ _ _ | exact Blk.new1 _ _ _ _ | exact Blk.new2 _ _ _ _ _ | apply Blk.drew | apply Blk.alloc)) hb; have BC : Blk w8 (w7.heap.size) #[.int .i64 0, .int .i64 2, .int .i64 0] := Blk.below ((by repeat (with_reducible first | exact Blk.new _ _ _ | exact Blk.new1 _ _ _ _ | exact Blk.new2 _ _ _ _ _ | apply Blk.drew | apply Blk.alloc))) hb; have BD : Blk w8 (w7.heap.size + 1) #[.int .i64 18, .int .i64 0, .int .i64 4, .int .i64 0, .int .i64 0, .int .i64 1, .slice none 0 0, .slice none 0 0] := Blk.below ((by repeat (with_reducible first | exact Blk.new _ _ _ | exact Blk.new1 _ _ _ _ | exact Blk.new2 _ _ _ _ _ | apply Blk.drew | apply Blk.alloc))) hb; clear cA fA zA KA cL fL zL KL cW fW zW KW cR fR zR KR cG fG zG KG; clear H7; clear hb; have cA := BA.cell; have fA := BA.frozen; have zA := BA.lt; have KA := Lib.hid BA; clear BA; have cL := BL.cell; have fL := BL.frozen; have zL := BL.lt; have KL := Lib.hid BL; clear BL; have cW := BW.cell; have fW := BW.frozen; have zW := BW.lt; have KW := Lib.hid BW; clear BW; have cR := BR.cell; have fR := BR.frozen; have zR := BR.lt; have KR := Lib.hid BR; clear BR; have cG := BG.cell; have fG := BG.frozen; have zG := BG.lt; have KG := Lib.hid BG; clear BG; have cC := BC.cell; have fC := BC.frozen; have zC := BC.lt; have KC := Lib.hid BC; clear BC; have cD := BD.cell; have fD := BD.frozen; have zD := BD.lt; have KD := Lib.hid BD; clear BD))
    · go_wp2_with fail
      refine (aw9 _).mono ?_
      rintro r w9 ⟨rfl, hb⟩
      (try unfold Msg8)
      (try unfold nilS)
      have H9 : Hid (Below w.heap.size w w9) := Lib.hid (bl_trans (by repeat (with_reducible first | exact H8.out | apply Below.drew | apply bl_alloc | apply bl_drewN | fail)) hb)
      have Z9 := H9.out.size
      have BA : Blk w9 (w.heap.size) #[.int .i64 0, .int .i64 1, .int .i64 12] := Blk.below (by (repeat (with_reducible first | exact KA.out | exact Blk.new _ _ _ | exact Blk.new1 _ _ _ _ | apply Blk.drew | apply Blk.alloc | omega | refine Blk.other ?_ ?_ _ _))) hb
      have BR : Blk w9 (m5) #[.int .i64 12, .int .i64 4, .int .i64 1, .int .i64 0, .int .i64 0, .int .i64 1, .slice none 0 0, .slice none 0 0] := Blk.below (by (repeat (with_reducible first | exact KR.out | exact Blk.new _ _ _ | exact Blk.new1 _ _ _ _ | apply Blk.drew | apply Blk.alloc | omega | refine Blk.other ?_ ?_ _ _))) hb
      have BG : Blk w9 (m6) #[.int .i64 16, .int .i64 4, .int .i64 1, .int .i64 0, .int .i64 10, .int .i64 2, .slice none 0 0, .slice none 0 0] := Blk.below (by (repeat (with_reducible first | exact KG.out | exact Blk.new _ _ _ | exact Blk.new1 _ _ _ _ | apply Blk.drew | apply Blk.alloc | omega | refine Blk.other ?_ ?_ _ _))) hb
      have BC : Blk w9 (w7.heap.size) #[.int .i64 0, .int .i64 2, .int .i64 0] := Blk.below (by (repeat (with_reducible first | exact KC.out | exact Blk.new _ _ _ | exact Blk.new1 _ _ _ _ | apply Blk.drew | apply Blk.alloc | omega | refine Blk.other ?_ ?_ _ _))) hb
      have BD : Blk w9 (w7.heap.size + 1) #[.int .i64 18, .int .i64 0, .int .i64 4, .int .i64 0, .int .i64 0, .int .i64 1, .slice none 0 0, .slice none 0 0] := Blk.below (by (repeat (with_reducible first | exact KD.out | exact Blk.new _ _ _ | exact Blk.new1 _ _ _ _ | apply Blk.drew | apply Blk.alloc | omega | refine Blk.other ?_ ?_ _ _))) hb
      have BE : Blk w9 (w8.heap.size) #[.int .i64 0, .int .i64 2, .int .i64 0] := Blk.below (Blk.new _ _ _) hb
      clear cA fA zA KA cL fL zL KL cW fW zW KW cR fR zR KR cG fG zG KG cC fC zC KC cD fD zD KD
      clear H8
      clear hb
      have cA := BA.cell
      have fA := BA.frozen
      have zA := BA.lt
      have KA := Lib.hid BA
      clear BA
      have cR := BR.cell
      have fR := BR.frozen
      have zR := BR.lt
      have KR := Lib.hid BR
      clear BR
      have cG := BG.cell
      have fG := BG.frozen
      have zG := BG.lt
      have KG := Lib.hid BG
      clear BG
      have cC := BC.cell
      have fC := BC.frozen
      have zC := BC.lt
      have KC := Lib.hid BC
      clear BC
      have cD := BD.cell
      have fD := BD.frozen
      have zD := BD.lt
      have KD := Lib.hid BD
      clear BD
      have cE := BE.cell
      have fE := BE.frozen
      have zE := BE.lt
      have KE := Lib.hid BE
      clear BE
      go_wp2_with fail
      refine (aw10 _).mono ?_
      rintro r w10 ⟨rfl, hb⟩
      (try unfold Msg8)
      (try unfold nilS)
      have H10 : Hid (Below w.heap.size w w10) := Lib.hid (bl_trans (by repeat (with_reducible first | exact H9.out | apply Below.drew | apply bl_alloc | apply bl_drewN | fail)) hb)
      have Z10 := H10.out.size
      have BA : Blk w10 (w.heap.size) #[.int .i64 0, .int .i64 1, .int .i64 12] := Blk.below (by repeat (with_reducible first | exact KA.out | exact Blk.new _ _ _ | exact Blk.new1 _ _ _ _ | exact Blk.new2 _ _ _ _ _ | apply Blk.drew | apply Blk.alloc)) hb
      have BR : Blk w10 (m5) #[.int .i64 12, .int .i64 4, .int .i64 1, .int .i64 0, .int .i64 0, .int .i64 1, .slice none 0 0, .slice none 0 0] := Blk.below (by repeat (with_reducible first | exact KR.out | exact Blk.new _ _ _ | exact Blk.new1 _ _ _ _ | exact Blk.new2 _ _ _ _ _ | apply Blk.drew | apply Blk.alloc)) hb
      have BG : Blk w10 (m6) #[.int .i64 16, .int .i64 4, .int .i64 1, .int .i64 0, .int .i64 10, .int .i64 2, .slice none 0 0, .slice none 0 0] := Blk.below (by repeat (with_reducible first | exact KG.out | exact Blk.new _ _ _ | exact Blk.new1 _ _ _ _ | exact Blk.new2 _ _ _ _ _ | apply Blk.drew | apply Blk.alloc)) hb
      have BC : Blk w10 (w7.heap.size) #[.int .i64 0, .int .i64 2, .int .i64 0] := Blk.below (by repeat (with_reducible first | exact KC.out | exact Blk.new _ _ _ | exact Blk.new1 _ _ _ _ | exact Blk.new2 _ _ _ _ _ | apply Blk.drew | apply Blk.alloc)) hb
      have BD : Blk w10 (w7.heap.size + 1) #[.int .i64 18, .int .i64 0, .int .i64 4, .int .i64 0, .int .i64 0, .int .i64 1, .slice none 0 0, .slice none 0 0] := Blk.below (by repeat (with_reducible first | exact KD.out | exact Blk.new _ _ _ | exact Blk.new1 _ _ _ _ | exact Blk.new2 _ _ _ _ _ | apply Blk.drew | apply Blk.alloc)) hb
      have BE : Blk w10 (w8.heap.size) #[.int .i64 0, .int .i64 2, .int .i64 0] := Blk.below (by repeat (with_reducible first | exact KE.out | exact Blk.new _ _ _ | exact Blk.new1 _ _ _ _ | exact Blk.new2 _ _ _ _ _ | apply Blk.drew | apply Blk.alloc)) hb
      clear cA fA zA KA cR fR zR KR cG fG zG KG cC fC zC KC cD fD zD KD cE fE zE KE
      clear H9
      clear hb
      have cA := BA.cell
      have fA := BA.frozen
      have zA := BA.lt
      have KA := Lib.hid BA
      clear BA
      have cR := BR.cell
      have fR := BR.frozen
      have zR := BR.lt
      have KR := Lib.hid BR
      clear BR
      have cG := BG.cell
      have fG := BG.frozen
      have zG := BG.lt
      have KG := Lib.hid BG
      clear BG
      have cC := BC.cell
      have fC := BC.frozen
      have zC := BC.lt
      have KC := Lib.hid BC
      clear BC
      have cD := BD.cell
      have fD := BD.frozen
      have zD := BD.lt
      have KD := Lib.hid BD
      clear BD
      have cE := BE.cell
      have fE := BE.frozen
      have zE := BE.lt
      have KE := Lib.hid BE
      clear BE
      go_wp2
      go_ret
      exact ⟨rfl, H10.out⟩
    · go_wp2_with fail
      refine (aw9 _).mono ?_
      rintro r w9 ⟨rfl, hb⟩
      (try unfold Msg8)
      (try unfold nilS)
      have H9 : Hid (Below w.heap.size w w9) := Lib.hid (bl_trans (by repeat (with_reducible first | exact H8.out | apply Below.drew | apply bl_alloc | apply bl_drewN | (refine bl_set ?_ (by omega) _ _))) hb)
      have Z9 := H9.out.size
      have BA : Blk w9 (w.heap.size) #[.int .i64 0, .int .i64 1, .int .i64 12] := Blk.below (by (repeat (with_reducible first | exact KA.out | exact Blk.new _ _ _ | exact Blk.new1 _ _ _ _ | apply Blk.drew | apply Blk.alloc | omega | refine Blk.other ?_ ?_ _ _))) hb
      have BR : Blk w9 (m5) #[.int .i64 12, .int .i64 4, .int .i64 1, .int .i64 0, .int .i64 0, .int .i64 1, .slice none 0 0, .slice none 0 0] := Blk.below (by (repeat (with_reducible first | exact KR.out | exact Blk.new _ _ _ | exact Blk.new1 _ _ _ _ | apply Blk.drew | apply Blk.alloc | omega | refine Blk.other ?_ ?_ _ _))) hb
      have BG : Blk w9 (m6) #[.int .i64 16, .int .i64 4, .int .i64 1, .int .i64 0, .int .i64 10, .int .i64 2, .slice none 0 0, .slice none 0 0] := Blk.below (by (repeat (with_reducible first | exact KG.out | exact Blk.new _ _ _ | exact Blk.new1 _ _ _ _ | apply Blk.drew | apply Blk.alloc | omega | refine Blk.other ?_ ?_ _ _))) hb
      have BC : Blk w9 (w7.heap.size) #[.int .i64 0, .int .i64 2, .int .i64 0] := Blk.below (by (repeat (with_reducible first | exact KC.out | exact Blk.new _ _ _ | exact Blk.new1 _ _ _ _ | apply Blk.drew | apply Blk.alloc | omega | refine Blk.other ?_ ?_ _ _))) hb
      have BD : Blk w9 (w7.heap.size + 1) #[.int .i64 18, .int .i64 0, .int .i64 4, .int .i64 0, .int .i64 0, .int .i64 1, .slice none 0 0, .slice none 0 0] := Blk.below (by (repeat (with_reducible first | exact KD.out | exact Blk.new _ _ _ | exact Blk.new1 _ _ _ _ | apply Blk.drew | apply Blk.alloc | omega | refine Blk.other ?_ ?_ _ _))) hb
      have BE : Blk w9 (w7.heap.size + 1 + 1) #[.int .i64 0, .int .i64 2, .int .i64 0] := Blk.below (Blk.cast (((KE.out.set 0 _).set 1 _).set 2 _) rfl) hb
      clear cA fA zA KA cL fL zL KL cW fW zW KW cR fR zR KR cG fG zG KG cC fC zC KC cD fD zD KD cE fE zE KE
      clear H8
      clear hb
      have cA := BA.cell
      have fA := BA.frozen
      have zA := BA.lt
      have KA := Lib.hid BA
      clear BA
      have cR := BR.cell
      have fR := BR.frozen
      have zR := BR.lt
      have KR := Lib.hid BR
      clear BR
      have cG := BG.cell
      have fG := BG.frozen
      have zG := BG.lt
      have KG := Lib.hid BG
      clear BG
      have cC := BC.cell
      have fC := BC.frozen
      have zC := BC.lt
      have KC := Lib.hid BC
      clear BC
      have cD := BD.cell
      have fD := BD.frozen
      have zD := BD.lt
      have KD := Lib.hid BD
      clear BD
      have cE := BE.cell
      have fE := BE.frozen
      have zE := BE.lt
      have KE := Lib.hid BE
      clear BE
      go_wp2_with fail
      refine (aw10 _).mono ?_
      rintro r w10 ⟨rfl, hb⟩
      (try unfold Msg8)
      (try unfold nilS)
      have H10 : Hid (Below w.heap.size w w10) := Lib.hid (bl_trans (by repeat (with_reducible first | exact H9.out | apply Below.drew | apply bl_alloc | apply bl_drewN | fail)) hb)
      have Z10 := H10.out.size
      have BA : Blk w10 (w.heap.size) #[.int .i64 0, .int .i64 1, .int .i64 12] := Blk.below (by repeat (with_reducible first | exact KA.out | exact Blk.new _ _ _ | exact Blk.new1 _ _ _ _ | exact Blk.new2 _ _ _ _ _ | apply Blk.drew | apply Blk.alloc)) hb
      have BR : Blk w10 (m5) #[.int .i64 12, .int .i64 4, .int .i64 1, .int .i64 0, .int .i64 0, .int .i64 1, .slice none 0 0, .slice none 0 0] := Blk.below (by repeat (with_reducible first | exact KR.out | exact Blk.new _ _ _ | exact Blk.new1 _ _ _ _ | exact Blk.new2 _ _ _ _ _ | apply Blk.drew | apply Blk.alloc)) hb
      have BG : Blk w10 (m6) #[.int .i64 16, .int .i64 4, .int .i64 1, .int .i64 0, .int .i64 10, .int .i64 2, .slice none 0 0, .slice none 0 0] := Blk.below (by repeat (with_reducible first | exact KG.out | exact Blk.new _ _ _ | exact Blk.new1 _ _ _ _ | exact Blk.new2 _ _ _ _ _ | apply Blk.drew | apply Blk.alloc)) hb
      have BC : Blk w10 (w7.heap.size) #[.int .i64 0, .int .i64 2, .int .i64 0] := Blk.below (by repeat (with_reducible first | exact KC.out | exact Blk.new _ _ _ | exact Blk.new1 _ _ _ _ | exact Blk.new2 _ _ _ _ _ | apply Blk.drew | apply Blk.alloc)) hb
      have BD : Blk w10 (w7.heap.size + 1) #[.int .i64 18, .int .i64 0, .int .i64 4, .int .i64 0, .int .i64 0, .int .i64 1, .slice none 0 0, .slice none 0 0] := Blk.below (by repeat (with_reducible first | exact KD.out | exact Blk.new _ _ _ | exact Blk.new1 _ _ _ _ | exact Blk.new2 _ _ _ _ _ | apply Blk.drew | apply Blk.alloc)) hb
      have BE : Blk w10 (w7.heap.size + 1 + 1) #[.int .i64 0, .int .i64 2, .int .i64 0] := Blk.below (by repeat (with_reducible first | exact KE.out | exact Blk.new _ _ _ | exact Blk.new1 _ _ _ _ | exact Blk.new2 _ _ _ _ _ | apply Blk.drew | apply Blk.alloc)) hb
      clear cA fA zA KA cR fR zR KR cG fG zG KG cC fC zC KC cD fD zD KD cE fE zE KE
      clear H9
      clear hb
      have cA := BA.cell
      have fA := BA.frozen
      have zA := BA.lt
      have KA := Lib.hid BA
      clear BA
      have cR := BR.cell
      have fR := BR.frozen
      have zR := BR.lt
      have KR := Lib.hid BR
      clear BR
      have cG := BG.cell
      have fG := BG.frozen
      have zG := BG.lt
      have KG := Lib.hid BG
      clear BG
      have cC := BC.cell
      have fC := BC.frozen
      have zC := BC.lt
      have KC := Lib.hid BC
      clear BC
      have cD := BD.cell
      have fD := BD.frozen
      have zD := BD.lt
      have KD := Lib.hid BD
      clear BD
      have cE := BE.cell
      have fE := BE.frozen
      have zE := BE.lt
      have KE := Lib.hid BE
      clear BE
      go_wp2
      go_ret
      exact ⟨rfl, H10.out⟩

end Go.Proofs.Ytmgnpjaemjpamaa
