/- Contracts of State.holders. -/
import Derived.Test.YtmgnpjaemjpamaaY
set_option linter.unusedSimpArgs false
set_option linter.unusedVariables false
namespace Go.Proofs.Ytmgnpjaemjpamaa
open Go.RowKit
attribute [local go_sem] st0 st1 st2 st3 st4 st5 st6 st7 st8 st9 st10 st11 st12 st13 st14

theorem holds_v {S E U now : Int} {c : Bool} (h : holdsB S E U now = c) (w : World) : Calls Try.prog 25 #[.agg #[.int .i64 S, .int .i64 E, .int .i64 U], .int .i64 now] w fun e w' => e = .returned (.bool c) ∧ Below w.heap.size w w' := by
  subst h; exact holds_c _ _ _ _ _

set_option maxRecDepth 100000 in
set_option maxHeartbeats 2000000 in
theorem holders_none (w : World) (s : SS) (F N : Value) (h0 : holdsB (s.l 0).S (s.l 0).E (s.l 0).U s.now = false) (h1 : holdsB (s.l 1).S (s.l 1).E (s.l 1).U s.now = false) (h2 : holdsB (s.l 2).S (s.l 2).E (s.l 2).U s.now = false) :
    Calls Try.prog 29 #[.agg (stC s F N)] w fun r w' => r = .returned (.tuple #[.int .i64 0, .bool true]) ∧ Below w.heap.size w w' := by
  go_enter Try.func29, Try.ntmps29
  go_wp2
  have BS := Blk.new w (stC s F N) 58
  have HB := bl_alloc (Below.refl _ w) (.cells (stC s F N) 58)
  generalize w.alloc (.cells (stC s F N) 58) = W at BS HB ⊢
  have cS := BS.cell
  have KS := Lib.hid BS
  have KB := Lib.hid HB
  clear BS HB
  refine wp_loop_rounds 4 ?_
  rw [rounds_succ]
  go_wp2_with fail
  go_region_held3 (fun w' => ∀ o, w'.cell? ⟨w.heap.size, o, none⟩ = (stC s F N)[o]?) (first | exact cS | (refine Blk.cell ?_; (focus (repeat (with_reducible first | exact KS.out | exact Blk.new _ _ _ | apply Blk.drew))); done)) ((go_at_call 25; refine (holds_v h0 _).mono ?_; rintro r w1 ⟨rfl, hb⟩; have NS : Blk w1 w.heap.size (stC s F N) := Blk.below (by focus (repeat (with_reducible first | exact KS.out | apply Blk.drew))) hb; have NB : Hid (Below w.heap.size w w1) := Lib.hid (bl_trans (by focus (repeat (with_reducible first | exact KB.out | apply Below.drew))) hb); have KS := Lib.hid NS; have cS := NS.cell; have KB := NB; clear hb NS NB))
  go_wp2_with fail
  rw [rounds_succ]
  go_wp2_with fail
  go_region_held3 (fun w' => ∀ o, w'.cell? ⟨w.heap.size, o, none⟩ = (stC s F N)[o]?) (first | exact cS | (refine Blk.cell ?_; (focus (repeat (with_reducible first | exact KS.out | exact Blk.new _ _ _ | apply Blk.drew))); done)) ((go_at_call 25; refine (holds_v h1 _).mono ?_; rintro r w2 ⟨rfl, hb⟩; have NS : Blk w2 w.heap.size (stC s F N) := Blk.below (by focus (repeat (with_reducible first | exact KS.out | apply Blk.drew))) hb; have NB : Hid (Below w.heap.size w w2) := Lib.hid (bl_trans (by focus (repeat (with_reducible first | exact KB.out | apply Below.drew))) hb); have KS := Lib.hid NS; have cS := NS.cell; have KB := NB; clear hb NS NB))
  go_wp2_with fail
  rw [rounds_succ]
  go_wp2_with fail
  go_region_held3 (fun w' => ∀ o, w'.cell? ⟨w.heap.size, o, none⟩ = (stC s F N)[o]?) (first | exact cS | (refine Blk.cell ?_; (focus (repeat (with_reducible first | exact KS.out | exact Blk.new _ _ _ | apply Blk.drew))); done)) ((go_at_call 25; refine (holds_v h2 _).mono ?_; rintro r w3 ⟨rfl, hb⟩; have NS : Blk w3 w.heap.size (stC s F N) := Blk.below (by focus (repeat (with_reducible first | exact KS.out | apply Blk.drew))) hb; have NB : Hid (Below w.heap.size w w3) := Lib.hid (bl_trans (by focus (repeat (with_reducible first | exact KB.out | apply Below.drew))) hb); have KS := Lib.hid NS; have cS := NS.cell; have KB := NB; clear hb NS NB))
  go_wp2_with fail
  rw [rounds_succ]
  go_wp2
  go_ret2
  exact ⟨rfl, by focus (repeat (with_reducible first | exact KB.out | apply Below.drew | apply bl_drewN))⟩

set_option maxRecDepth 100000 in
set_option maxHeartbeats 2000000 in
theorem holders_0 (w : World) (s : SS) (F N : Value) (h0 : holdsB (s.l 0).S (s.l 0).E (s.l 0).U s.now = true) (h1 : holdsB (s.l 1).S (s.l 1).E (s.l 1).U s.now = false) (h2 : holdsB (s.l 2).S (s.l 2).E (s.l 2).U s.now = false) (hH : (s.H == 0) = true) (hE : (s.l 0).E ≤ s.E) (hU : s.now < s.U) :
    Calls Try.prog 29 #[.agg (stC s F N)] w fun r w' => r = .returned (.tuple #[.int .i64 1, .bool true]) ∧ Below w.heap.size w w' := by
  go_enter Try.func29, Try.ntmps29
  go_wp2
  have BS := Blk.new w (stC s F N) 58
  have HB := bl_alloc (Below.refl _ w) (.cells (stC s F N) 58)
  generalize w.alloc (.cells (stC s F N) 58) = W at BS HB ⊢
  have cS := BS.cell
  have KS := Lib.hid BS
  have KB := Lib.hid HB
  clear BS HB
  refine wp_loop_rounds 4 ?_
  rw [rounds_succ]
  go_wp2_with fail
  go_region_held3 (fun w' => ∀ o, w'.cell? ⟨w.heap.size, o, none⟩ = (stC s F N)[o]?) (first | exact cS | (refine Blk.cell ?_; (focus (repeat (with_reducible first | exact KS.out | exact Blk.new _ _ _ | apply Blk.drew))); done)) ((go_at_call 25; refine (holds_v h0 _).mono ?_; rintro r w1 ⟨rfl, hb⟩; have NS : Blk w1 w.heap.size (stC s F N) := Blk.below (by focus (repeat (with_reducible first | exact KS.out | apply Blk.drew))) hb; have NB : Hid (Below w.heap.size w w1) := Lib.hid (bl_trans (by focus (repeat (with_reducible first | exact KB.out | apply Below.drew))) hb); have KS := Lib.hid NS; have cS := NS.cell; have KB := NB; clear hb NS NB))
  go_wp2_with fail
  go_region_held3 (fun w' => ∀ o, w'.cell? ⟨w.heap.size, o, none⟩ = (stC s F N)[o]?) (first | exact cS | (refine Blk.cell ?_; (focus (repeat (with_reducible first | exact KS.out | exact Blk.new _ _ _ | apply Blk.drew))); done)) (fail)
  go_wp2
  rw [rounds_succ]
  go_wp2_with fail
  go_region_held3 (fun w' => ∀ o, w'.cell? ⟨w.heap.size, o, none⟩ = (stC s F N)[o]?) (first | exact cS | (refine Blk.cell ?_; (focus (repeat (with_reducible first | exact KS.out | exact Blk.new _ _ _ | apply Blk.drew))); done)) ((go_at_call 25; refine (holds_v h1 _).mono ?_; rintro r w2 ⟨rfl, hb⟩; have NS : Blk w2 w.heap.size (stC s F N) := Blk.below (by focus (repeat (with_reducible first | exact KS.out | apply Blk.drew))) hb; have NB : Hid (Below w.heap.size w w2) := Lib.hid (bl_trans (by focus (repeat (with_reducible first | exact KB.out | apply Below.drew))) hb); have KS := Lib.hid NS; have cS := NS.cell; have KB := NB; clear hb NS NB))
  go_wp2_with fail
  rw [rounds_succ]
  go_wp2_with fail
  go_region_held3 (fun w' => ∀ o, w'.cell? ⟨w.heap.size, o, none⟩ = (stC s F N)[o]?) (first | exact cS | (refine Blk.cell ?_; (focus (repeat (with_reducible first | exact KS.out | exact Blk.new _ _ _ | apply Blk.drew))); done)) ((go_at_call 25; refine (holds_v h2 _).mono ?_; rintro r w3 ⟨rfl, hb⟩; have NS : Blk w3 w.heap.size (stC s F N) := Blk.below (by focus (repeat (with_reducible first | exact KS.out | apply Blk.drew))) hb; have NB : Hid (Below w.heap.size w w3) := Lib.hid (bl_trans (by focus (repeat (with_reducible first | exact KB.out | apply Below.drew))) hb); have KS := Lib.hid NS; have cS := NS.cell; have KB := NB; clear hb NS NB))
  go_wp2_with fail
  rw [rounds_succ]
  go_wp2
  go_ret2
  exact ⟨rfl, by focus (repeat (with_reducible first | exact KB.out | apply Below.drew | apply bl_drewN))⟩

set_option maxRecDepth 100000 in
set_option maxHeartbeats 2000000 in
theorem holders_1 (w : World) (s : SS) (F N : Value) (h0 : holdsB (s.l 0).S (s.l 0).E (s.l 0).U s.now = false) (h1 : holdsB (s.l 1).S (s.l 1).E (s.l 1).U s.now = true) (h2 : holdsB (s.l 2).S (s.l 2).E (s.l 2).U s.now = false) (hH : (s.H == 1) = true) (hE : (s.l 1).E ≤ s.E) (hU : s.now < s.U) :
    Calls Try.prog 29 #[.agg (stC s F N)] w fun r w' => r = .returned (.tuple #[.int .i64 1, .bool true]) ∧ Below w.heap.size w w' := by
  go_enter Try.func29, Try.ntmps29
  go_wp2
  have BS := Blk.new w (stC s F N) 58
  have HB := bl_alloc (Below.refl _ w) (.cells (stC s F N) 58)
  generalize w.alloc (.cells (stC s F N) 58) = W at BS HB ⊢
  have cS := BS.cell
  have KS := Lib.hid BS
  have KB := Lib.hid HB
  clear BS HB
  refine wp_loop_rounds 4 ?_
  rw [rounds_succ]
  go_wp2_with fail
  go_region_held3 (fun w' => ∀ o, w'.cell? ⟨w.heap.size, o, none⟩ = (stC s F N)[o]?) (first | exact cS | (refine Blk.cell ?_; (focus (repeat (with_reducible first | exact KS.out | exact Blk.new _ _ _ | apply Blk.drew))); done)) ((go_at_call 25; refine (holds_v h0 _).mono ?_; rintro r w1 ⟨rfl, hb⟩; have NS : Blk w1 w.heap.size (stC s F N) := Blk.below (by focus (repeat (with_reducible first | exact KS.out | apply Blk.drew))) hb; have NB : Hid (Below w.heap.size w w1) := Lib.hid (bl_trans (by focus (repeat (with_reducible first | exact KB.out | apply Below.drew))) hb); have KS := Lib.hid NS; have cS := NS.cell; have KB := NB; clear hb NS NB))
  go_wp2_with fail
  rw [rounds_succ]
  go_wp2_with fail
  go_region_held3 (fun w' => ∀ o, w'.cell? ⟨w.heap.size, o, none⟩ = (stC s F N)[o]?) (first | exact cS | (refine Blk.cell ?_; (focus (repeat (with_reducible first | exact KS.out | exact Blk.new _ _ _ | apply Blk.drew))); done)) ((go_at_call 25; refine (holds_v h1 _).mono ?_; rintro r w2 ⟨rfl, hb⟩; have NS : Blk w2 w.heap.size (stC s F N) := Blk.below (by focus (repeat (with_reducible first | exact KS.out | apply Blk.drew))) hb; have NB : Hid (Below w.heap.size w w2) := Lib.hid (bl_trans (by focus (repeat (with_reducible first | exact KB.out | apply Below.drew))) hb); have KS := Lib.hid NS; have cS := NS.cell; have KB := NB; clear hb NS NB))
  go_wp2_with fail
  go_region_held3 (fun w' => ∀ o, w'.cell? ⟨w.heap.size, o, none⟩ = (stC s F N)[o]?) (first | exact cS | (refine Blk.cell ?_; (focus (repeat (with_reducible first | exact KS.out | exact Blk.new _ _ _ | apply Blk.drew))); done)) (fail)
  go_wp2
  rw [rounds_succ]
  go_wp2_with fail
  go_region_held3 (fun w' => ∀ o, w'.cell? ⟨w.heap.size, o, none⟩ = (stC s F N)[o]?) (first | exact cS | (refine Blk.cell ?_; (focus (repeat (with_reducible first | exact KS.out | exact Blk.new _ _ _ | apply Blk.drew))); done)) ((go_at_call 25; refine (holds_v h2 _).mono ?_; rintro r w3 ⟨rfl, hb⟩; have NS : Blk w3 w.heap.size (stC s F N) := Blk.below (by focus (repeat (with_reducible first | exact KS.out | apply Blk.drew))) hb; have NB : Hid (Below w.heap.size w w3) := Lib.hid (bl_trans (by focus (repeat (with_reducible first | exact KB.out | apply Below.drew))) hb); have KS := Lib.hid NS; have cS := NS.cell; have KB := NB; clear hb NS NB))
  go_wp2_with fail
  rw [rounds_succ]
  go_wp2
  go_ret2
  exact ⟨rfl, by focus (repeat (with_reducible first | exact KB.out | apply Below.drew | apply bl_drewN))⟩

set_option maxRecDepth 100000 in
set_option maxHeartbeats 2000000 in
theorem holders_2 (w : World) (s : SS) (F N : Value) (h0 : holdsB (s.l 0).S (s.l 0).E (s.l 0).U s.now = false) (h1 : holdsB (s.l 1).S (s.l 1).E (s.l 1).U s.now = false) (h2 : holdsB (s.l 2).S (s.l 2).E (s.l 2).U s.now = true) (hH : (s.H == 2) = true) (hE : (s.l 2).E ≤ s.E) (hU : s.now < s.U) :
    Calls Try.prog 29 #[.agg (stC s F N)] w fun r w' => r = .returned (.tuple #[.int .i64 1, .bool true]) ∧ Below w.heap.size w w' := by
  go_enter Try.func29, Try.ntmps29
  go_wp2
  have BS := Blk.new w (stC s F N) 58
  have HB := bl_alloc (Below.refl _ w) (.cells (stC s F N) 58)
  generalize w.alloc (.cells (stC s F N) 58) = W at BS HB ⊢
  have cS := BS.cell
  have KS := Lib.hid BS
  have KB := Lib.hid HB
  clear BS HB
  refine wp_loop_rounds 4 ?_
  rw [rounds_succ]
  go_wp2_with fail
  go_region_held3 (fun w' => ∀ o, w'.cell? ⟨w.heap.size, o, none⟩ = (stC s F N)[o]?) (first | exact cS | (refine Blk.cell ?_; (focus (repeat (with_reducible first | exact KS.out | exact Blk.new _ _ _ | apply Blk.drew))); done)) ((go_at_call 25; refine (holds_v h0 _).mono ?_; rintro r w1 ⟨rfl, hb⟩; have NS : Blk w1 w.heap.size (stC s F N) := Blk.below (by focus (repeat (with_reducible first | exact KS.out | apply Blk.drew))) hb; have NB : Hid (Below w.heap.size w w1) := Lib.hid (bl_trans (by focus (repeat (with_reducible first | exact KB.out | apply Below.drew))) hb); have KS := Lib.hid NS; have cS := NS.cell; have KB := NB; clear hb NS NB))
  go_wp2_with fail
  rw [rounds_succ]
  go_wp2_with fail
  go_region_held3 (fun w' => ∀ o, w'.cell? ⟨w.heap.size, o, none⟩ = (stC s F N)[o]?) (first | exact cS | (refine Blk.cell ?_; (focus (repeat (with_reducible first | exact KS.out | exact Blk.new _ _ _ | apply Blk.drew))); done)) ((go_at_call 25; refine (holds_v h1 _).mono ?_; rintro r w2 ⟨rfl, hb⟩; have NS : Blk w2 w.heap.size (stC s F N) := Blk.below (by focus (repeat (with_reducible first | exact KS.out | apply Blk.drew))) hb; have NB : Hid (Below w.heap.size w w2) := Lib.hid (bl_trans (by focus (repeat (with_reducible first | exact KB.out | apply Below.drew))) hb); have KS := Lib.hid NS; have cS := NS.cell; have KB := NB; clear hb NS NB))
  go_wp2_with fail
  rw [rounds_succ]
  go_wp2_with fail
  go_region_held3 (fun w' => ∀ o, w'.cell? ⟨w.heap.size, o, none⟩ = (stC s F N)[o]?) (first | exact cS | (refine Blk.cell ?_; (focus (repeat (with_reducible first | exact KS.out | exact Blk.new _ _ _ | apply Blk.drew))); done)) ((go_at_call 25; refine (holds_v h2 _).mono ?_; rintro r w3 ⟨rfl, hb⟩; have NS : Blk w3 w.heap.size (stC s F N) := Blk.below (by focus (repeat (with_reducible first | exact KS.out | apply Blk.drew))) hb; have NB : Hid (Below w.heap.size w w3) := Lib.hid (bl_trans (by focus (repeat (with_reducible first | exact KB.out | apply Below.drew))) hb); have KS := Lib.hid NS; have cS := NS.cell; have KB := NB; clear hb NS NB))
  go_wp2_with fail
  go_region_held3 (fun w' => ∀ o, w'.cell? ⟨w.heap.size, o, none⟩ = (stC s F N)[o]?) (first | exact cS | (refine Blk.cell ?_; (focus (repeat (with_reducible first | exact KS.out | exact Blk.new _ _ _ | apply Blk.drew))); done)) (fail)
  go_wp2
  rw [rounds_succ]
  go_wp2
  go_ret2
  exact ⟨rfl, by focus (repeat (with_reducible first | exact KB.out | apply Below.drew | apply bl_drewN))⟩

end Go.Proofs.Ytmgnpjaemjpamaa
