/- Contracts of the methods of the witness's request. -/
import Derived.Test.YtmgnpjaemjpamaaB
import Derived.BigRegion
import Derived.RegionTactic
import Derived.ChangeAlike
namespace Go.Proofs.Ytmgnpjaemjpamaa
open Go.RowKit

theorem blk_cell {w : World} {b : Nat} {cs : Array Value} {t : TypeId} (h : w.heap[b]? = some (.cells cs t (0, 0))) (i : Nat) : w.cell? ⟨b, i, none⟩ = cs[i]? := by
  simp [World.cell?, h]
theorem blk_frozen {w : World} {b : Nat} {cs : Array Value} {t : TypeId} (h : w.heap[b]? = some (.cells cs t (0, 0))) (i : Nat) : w.frozen? ⟨b, i, none⟩ = false := by
  simp [World.frozen?, h]
theorem blk_set {w : World} {b : Nat} {cs : Array Value} {t : TypeId} (h : w.heap[b]? = some (.cells cs t (0, 0))) (i : Nat) (v : Value) : (w.setCell ⟨b, i, none⟩ v).heap[b]? = some (.cells (cs.setIfInBounds i v) t (0, 0)) := by
  simp [World.setCell, Array.getElem?_modify, h]
theorem blk_lt {w : World} {b : Nat} {o : Obj} (h : w.heap[b]? = some o) : b < w.heap.size := by
  rcases Nat.lt_or_ge b w.heap.size with h' | h'
  · exact h'
  · simp [Array.getElem?_eq_none h'] at h

theorem alloc_at (w : World) (o : Obj) : (w.alloc o).heap[w.heap.size]? = some o := by show (w.heap.push o)[w.heap.size]? = some o; rw [Array.getElem?_push, if_pos rfl]

def Msg8 (k f t n v e : Int) (vs bd : Value) : Array Value := #[.int .i64 k, .int .i64 f, .int .i64 t, .int .i64 n, .int .i64 v, .int .i64 e, vs, bd]
def Req (w : World) (b : Nat) (E H U now term k f t n v e : Int) (vs bd : Value) : Prop :=
  w.heap[b]? = some (.cells #[.int .i64 E, .int .i64 H, .int .i64 U, .int .i64 now, .int .i64 term, .int .i64 k, .int .i64 f, .int .i64 t, .int .i64 n, .int .i64 v, .int .i64 e, vs, bd] 72 (0, 0))

def heldB (H U now : Int) : Bool := (H != -1) && decide (now < U)
def ownB (E H U now f e : Int) : Bool := (e == E && H == f) && heldB H U now

section
variable {w : World} {b : Nat} {E H U now term k f t n v e : Int} {vs bd : Value}

theorem held_c (h : Req w b E H U now term k f t n v e vs bd) :
    Calls Try.prog 46 #[.pointer (some ⟨b, 0, none⟩)] w fun r w' => r = .returned (.bool (heldB H U now)) ∧ ∃ m, w' = w.drewN m := by
  have c0 : w.cell? ⟨b, 0, none⟩ = some (.int .i64 E) := blk_cell h 0
  have c1 : w.cell? ⟨b, 1, none⟩ = some (.int .i64 H) := blk_cell h 1
  have c2 : w.cell? ⟨b, 2, none⟩ = some (.int .i64 U) := blk_cell h 2
  have c3 : w.cell? ⟨b, 3, none⟩ = some (.int .i64 now) := blk_cell h 3
  clear h
  rcases hN : (H != -1) with _ | _
  · go_enter Try.func46, Try.ntmps46
    go_wp2
    go_quiet (fail)
    go_wp2
    go_ret
    exact ⟨by simp [heldB, hN], ⟨_, rfl⟩⟩
  · go_enter Try.func46, Try.ntmps46
    go_wp2
    go_quiet (fail)
    go_wp2
    go_ret
    exact ⟨by simp [heldB, hN], ⟨_, rfl⟩⟩

theorem Req.drewN (h : Req w b E H U now term k f t n v e vs bd) (m : Nat) : Req (w.drewN m) b E H U now term k f t n v e vs bd := h

theorem held_v (h : Req w b E H U now term k f t n v e vs bd) {c : Bool} (hh : heldB H U now = c) :
    Calls Try.prog 46 #[.pointer (some ⟨b, 0, none⟩)] w fun r w' => r = .returned (.bool c) ∧ ∃ m, w' = w.drewN m := by
  subst hh; exact held_c h

theorem own_c (h : Req w b E H U now term k f t n v e vs bd) :
    Calls Try.prog 48 #[.pointer (some ⟨b, 0, none⟩)] w fun r w' => r = .returned (.bool (ownB E H U now f e)) ∧ ∃ m, w' = w.drewN m := by
  have c0 : w.cell? ⟨b, 0, none⟩ = some (.int .i64 E) := blk_cell h 0
  have c1 : w.cell? ⟨b, 1, none⟩ = some (.int .i64 H) := blk_cell h 1
  have c6 : w.cell? ⟨b, 6, none⟩ = some (.int .i64 f) := blk_cell h 6
  have c10 : w.cell? ⟨b, 10, none⟩ = some (.int .i64 e) := blk_cell h 10
  have HR := Lib.hid h
  clear h
  rcases hE : (e == E) with _ | _
  · go_enter Try.func48, Try.ntmps48
    go_wp2
    go_quiet (fail)
    go_wp2
    go_ret
    exact ⟨by simp [ownB, hE], ⟨_, rfl⟩⟩
  rcases hF : (H == f) with _ | _
  · go_enter Try.func48, Try.ntmps48
    go_wp2
    go_quiet (fail)
    go_wp2
    go_ret
    exact ⟨by simp [ownB, hE, hF], ⟨_, rfl⟩⟩
  · go_enter Try.func48, Try.ntmps48
    go_wp2
    go_quiet ((go_at_call 46; exact Calls.quiet_of (held_c (HR.out.drewN _))))
    go_wp2
    go_ret
    exact ⟨by simp [ownB, hE, hF], ⟨_, rfl⟩⟩

def OneMsg (B : Nat) (x : Value) (w : World) (k t n v e : Int) : Prop :=
  ∃ m, B ≤ m ∧ x = .slice (some ⟨m, 0, none⟩) 1 1 ∧ w.heap[m]? = some (.cells (Msg8 k 4 t n v e (.slice none 0 0) (.slice none 0 0)) 27 (0, 0))

def RetMsg (w : World) (k t n v e : Int) (r : Ending) (w' : World) : Prop :=
  ∃ x, r = .returned x ∧ OneMsg w.heap.size x w' k t n v e ∧ Below w.heap.size w w'

theorem answer_c (h : Req w b E H U now term k f t n v e vs bd) (kind value : Int) :
    Calls Try.prog 50 #[.pointer (some ⟨b, 0, none⟩), .int .i64 kind, .int .i64 value] w (RetMsg w kind f n value E) := by
  have c0 : w.cell? ⟨b, 0, none⟩ = some (.int .i64 E) := blk_cell h 0
  have c6 : w.cell? ⟨b, 6, none⟩ = some (.int .i64 f) := blk_cell h 6
  have c8 : w.cell? ⟨b, 8, none⟩ = some (.int .i64 n) := blk_cell h 8
  clear h
  go_enter Try.func50, Try.ntmps50
  go_wp2
  go_region
  all_goals
    go_wp2
    go_ret
    exact ⟨_, rfl, ⟨w.heap.size, Nat.le_refl _, rfl, alloc_at _ _⟩, ((Below.refl _ _).alloc (Nat.le_refl _) _).drew⟩

theorem grant_c (h : Req w b E H U now term k f t n v e vs bd) :
    Calls Try.prog 47 #[.pointer (some ⟨b, 0, none⟩)] w (RetMsg w 16 f n term E) := by
  have c4 : w.cell? ⟨b, 4, none⟩ = some (.int .i64 term) := blk_cell h 4
  have HR := Lib.hid h
  clear h
  go_enter Try.func47, Try.ntmps47
  go_wp2_with (go_at_call 50; refine (answer_c HR.out _ _).mono ?_; rintro r w' ⟨x, rfl, hx⟩)
  go_ret
  exact ⟨_, rfl, hx⟩

theorem refuse_c (h : Req w b E H U now term k f t n v e vs bd) :
    Calls Try.prog 49 #[.pointer (some ⟨b, 0, none⟩)] w (RetMsg w 12 f n 0 E) := by
  have HR := Lib.hid h
  clear h
  go_enter Try.func49, Try.ntmps49
  go_wp2_with (go_at_call 50; refine (answer_c HR.out _ _).mono ?_; rintro r w' ⟨x, rfl, hx⟩)
  go_ret
  exact ⟨_, rfl, hx⟩
end

/-- What a handler leaves behind: the answer, and the request's block. -/
def RetReq (b : Nat) (w : World) (E H U now term k f t n v e : Int) (vs bd : Value) (kind value : Int) (r : Ending) (w' : World) : Prop :=
  ∃ x, r = .returned x ∧ OneMsg w.heap.size x w' kind f n value E ∧ Below b w w' ∧ Req w' b E H U now term k f t n v e vs bd

theorem Req.below {w w' : World} {b : Nat} {E H U now term k f t n v e : Int} {vs bd : Value} (h : Req w b E H U now term k f t n v e vs bd) (hb : Below w.heap.size w w') : Req w' b E H U now term k f t n v e vs bd := by
  unfold Req; rw [hb.block _ (blk_lt h)]; exact h

theorem bl_drewN {B : Nat} {a w : World} (h : Below B a w) (n : Nat) : Below B a (w.drewN n) := ⟨h.os, h.tape, h.output, h.size, h.block⟩

/-- The request's block written and perhaps draws made: then an answer. -/
theorem RetMsgReq {w w1 w2 : World} {b : Nat} {E H U E' H' U' now term k f t n v e : Int} {vs bd x : Value} {kind value : Int}
    (h : Req w b E H U now term k f t n v e vs bd) (h1 : Req w1 b E' H' U' now term k f t n v e vs bd) (hb : Below b w w1)
    (hx : OneMsg w1.heap.size x w2 kind f n value E' ∧ Below w1.heap.size w1 w2) : RetReq b w E' H' U' now term k f t n v e vs bd kind value (.returned x) w2 := by
  obtain ⟨⟨m, hm, rfl, hc⟩, h2⟩ := hx
  have hs := hb.size
  exact ⟨_, rfl, ⟨m, Nat.le_trans hs hm, rfl, hc⟩, hb.trans (h2.mono (Nat.le_trans (Nat.le_of_lt (blk_lt h)) hs)), h1.below h2⟩

theorem Req.setU {w : World} {b : Nat} {E H U now term k f t n v e : Int} {vs bd : Value} (h : Req w b E H U now term k f t n v e vs bd) (X : Int) : Req (w.setCell ⟨b, 2, none⟩ (.int .i64 X)) b E H X now term k f t n v e vs bd := blk_set h 2 _
theorem Req.setH {w : World} {b : Nat} {E H U now term k f t n v e : Int} {vs bd : Value} (h : Req w b E H U now term k f t n v e vs bd) (X : Int) : Req (w.setCell ⟨b, 1, none⟩ (.int .i64 X)) b E X U now term k f t n v e vs bd := blk_set h 1 _
theorem Req.setE {w : World} {b : Nat} {E H U now term k f t n v e : Int} {vs bd : Value} (h : Req w b E H U now term k f t n v e vs bd) (X : Int) : Req (w.setCell ⟨b, 0, none⟩ (.int .i64 X)) b X H U now term k f t n v e vs bd := blk_set h 0 _
theorem bl_set {B b : Nat} {a w : World} (h : Below B a w) (hB : B ≤ b) (i : Nat) (v : Value) : Below B a (w.setCell ⟨b, i, none⟩ v) := h.setCell hB v

section
variable {w : World} {b : Nat} {E H U now term k f t n v e : Int} {vs bd : Value}

theorem renew_no (h : Req w b E H U now term k f t n v e vs bd) (ho : ownB E H U now f e = false) :
    Calls Try.prog 36 #[.pointer (some ⟨b, 0, none⟩)] w (RetReq b w E H U now term k f t n v e vs bd 12 0) := by
  have HR := Lib.hid h
  clear h
  go_enter Try.func36, Try.ntmps36
  go_wp2_with (first | (go_at_call 48; refine (own_c HR.out).mono ?_; rintro r w' ⟨rfl, m, rfl⟩) | (go_at_call 49; refine (refuse_c (HR.out.drewN _)).mono ?_; rintro r w' ⟨x, rfl, hx⟩))
  go_ret
  exact RetMsgReq HR.out (HR.out.drewN _) (bl_drewN (Below.refl _ _) _) hx

theorem renew_yes (h : Req w b E H U now term k f t n v e vs bd) (ho : ownB E H U now f e = true) (h1 : 0 ≤ now) (h2 : 1 ≤ term) (h3 : now + term ≤ 1073741824) :
    Calls Try.prog 36 #[.pointer (some ⟨b, 0, none⟩)] w (RetReq b w E H (max U (now + term)) now term k f t n v e vs bd 16 term) := by
  have c2 : w.cell? ⟨b, 2, none⟩ = some (.int .i64 U) := blk_cell h 2
  have c3 : w.cell? ⟨b, 3, none⟩ = some (.int .i64 now) := blk_cell h 3
  have c4 : w.cell? ⟨b, 4, none⟩ = some (.int .i64 term) := blk_cell h 4
  have f2 : w.frozen? ⟨b, 2, none⟩ = false := blk_frozen h 2
  have HR := Lib.hid h
  clear h
  by_cases hU : U < now + term
  · rw [show max U (now + term) = now + term from by omega]
    go_enter Try.func36, Try.ntmps36
    go_wp2_with (first | (go_at_call 48; refine (own_c HR.out).mono ?_; rintro r w' ⟨rfl, m, rfl⟩))
    go_region
    go_wp2_with (first | (go_at_call 47; refine (grant_c ((HR.out.drewN _).setU _)).mono ?_; rintro r w' ⟨x, rfl, hx⟩))
    go_ret
    exact RetMsgReq HR.out ((HR.out.drewN _).setU _) (bl_set (bl_drewN (Below.refl _ _) _) (Nat.le_refl _) _ _) hx
  · rw [show max U (now + term) = U from by omega]
    have hU' : now + term ≤ U := by omega
    go_enter Try.func36, Try.ntmps36
    go_wp2_with (first | (go_at_call 48; refine (own_c HR.out).mono ?_; rintro r w' ⟨rfl, m, rfl⟩))
    go_region
    go_wp2_with (first | (go_at_call 47; refine (grant_c ((HR.out.drewN _).setU _)).mono ?_; rintro r w' ⟨x, rfl, hx⟩))
    go_ret
    exact RetMsgReq HR.out ((HR.out.drewN _).setU _) (bl_set (bl_drewN (Below.refl _ _) _) (Nat.le_refl _) _ _) hx

theorem release_no (h : Req w b E H U now term k f t n v e vs bd) (ho : (e == E && f == H) = false) :
    Calls Try.prog 37 #[.pointer (some ⟨b, 0, none⟩)] w (fun r w' => r = .returned (.slice none 0 0) ∧ ∃ m, w' = w.drewN m) := by
  have c0 : w.cell? ⟨b, 0, none⟩ = some (.int .i64 E) := blk_cell h 0
  have c1 : w.cell? ⟨b, 1, none⟩ = some (.int .i64 H) := blk_cell h 1
  have c6 : w.cell? ⟨b, 6, none⟩ = some (.int .i64 f) := blk_cell h 6
  have c10 : w.cell? ⟨b, 10, none⟩ = some (.int .i64 e) := blk_cell h 10
  clear h
  rcases hE : (e == E) with _ | _
  · clear ho
    go_enter Try.func37, Try.ntmps37
    go_wp2
    go_quiet (fail)
    go_wp2
    go_ret
    exact ⟨rfl, ⟨_, rfl⟩⟩
  · have hF : (f == H) = false := by simpa [hE] using ho
    clear ho
    go_enter Try.func37, Try.ntmps37
    go_wp2
    go_quiet (fail)
    go_wp2
    go_ret
    exact ⟨rfl, ⟨_, rfl⟩⟩

theorem release_yes (h : Req w b E H U now term k f t n v e vs bd) (hE : (e == E) = true) (hF : (f == H) = true) :
    Calls Try.prog 37 #[.pointer (some ⟨b, 0, none⟩)] w (fun r w' => r = .returned (.slice none 0 0) ∧ Below b w w' ∧ Req w' b E (-1) 0 now term k f t n v e vs bd) := by
  have c0 : w.cell? ⟨b, 0, none⟩ = some (.int .i64 E) := blk_cell h 0
  have c1 : w.cell? ⟨b, 1, none⟩ = some (.int .i64 H) := blk_cell h 1
  have c2 : w.cell? ⟨b, 2, none⟩ = some (.int .i64 U) := blk_cell h 2
  have c6 : w.cell? ⟨b, 6, none⟩ = some (.int .i64 f) := blk_cell h 6
  have c10 : w.cell? ⟨b, 10, none⟩ = some (.int .i64 e) := blk_cell h 10
  have f1 : w.frozen? ⟨b, 1, none⟩ = false := blk_frozen h 1
  have f2 : w.frozen? ⟨b, 2, none⟩ = false := blk_frozen h 2
  have HR := Lib.hid h
  clear h
  go_enter Try.func37, Try.ntmps37
  go_wp2
  go_quiet (fail)
  go_wp2
  go_ret
  exact ⟨rfl, bl_set (bl_set (bl_drewN (Below.refl _ _) _) (Nat.le_refl _) _ _) (Nat.le_refl _) _ _, ((HR.out.drewN _).setH _).setU _⟩

/-- No new epoch: as renew. -/
theorem acquire_no (h : Req w b E H U now term k f t n v e vs bd) (ho : (decide (E < e) && (!heldB H U now || H == f)) = false) (R : Value → World → Prop)
    (hr : ∀ m, Calls Try.prog 36 #[.pointer (some ⟨b, 0, none⟩)] (w.drewN m) (fun r w' => ∃ x, r = .returned x ∧ R x w')) :
    Calls Try.prog 35 #[.pointer (some ⟨b, 0, none⟩)] w (fun r w' => ∃ x, r = .returned x ∧ R x w') := by
  have c0 : w.cell? ⟨b, 0, none⟩ = some (.int .i64 E) := blk_cell h 0
  have c1 : w.cell? ⟨b, 1, none⟩ = some (.int .i64 H) := blk_cell h 1
  have c6 : w.cell? ⟨b, 6, none⟩ = some (.int .i64 f) := blk_cell h 6
  have c10 : w.cell? ⟨b, 10, none⟩ = some (.int .i64 e) := blk_cell h 10
  have HR := Lib.hid h
  have HS := Lib.hid hr
  clear h hr
  rcases hE : decide (E < e) with _ | _
  · clear ho
    go_enter Try.func35, Try.ntmps35
    go_wp2
    go_quiet (fail)
    go_wp2_with (go_at_call 36; refine (HS.out _).mono ?_; rintro r w' ⟨x, rfl, hx⟩)
    go_ret
    exact ⟨_, rfl, hx⟩
  · have hlt : E < e := of_decide_eq_true hE
    have hh : heldB H U now = true := by simp [hE] at ho; exact ho.1
    have hF : (H == f) = false := by simp [hE] at ho; simpa using ho.2
    clear ho hE
    go_enter Try.func35, Try.ntmps35
    go_wp2
    go_quiet ((go_at_call 46; exact Calls.quiet_of (held_v (HR.out.drewN _) hh)))
    go_wp2_with (go_at_call 36; refine (HS.out _).mono ?_; rintro r w' ⟨x, rfl, hx⟩)
    go_ret
    exact ⟨_, rfl, hx⟩

theorem Req.setAll (h : Req w b E H U now term k f t n v e vs bd) (X Y Z : Int) : Req (((w.setCell ⟨b, 0, none⟩ (.int .i64 X)).setCell ⟨b, 1, none⟩ (.int .i64 Y)).setCell ⟨b, 2, none⟩ (.int .i64 Z)) b X Y Z now term k f t n v e vs bd :=
  ((h.setE X).setH Y).setU Z

theorem acquire_yes (h : Req w b E H U now term k f t n v e vs bd) (hlt : E < e) (ho : (!heldB H U now || H == f) = true) (h1 : 0 ≤ now) (h2 : 1 ≤ term) (h3 : now + term ≤ 1073741824) :
    Calls Try.prog 35 #[.pointer (some ⟨b, 0, none⟩)] w (RetReq b w e f (now + term) now term k f t n v e vs bd 16 term) := by
  have c0 : w.cell? ⟨b, 0, none⟩ = some (.int .i64 E) := blk_cell h 0
  have c1 : w.cell? ⟨b, 1, none⟩ = some (.int .i64 H) := blk_cell h 1
  have c2 : w.cell? ⟨b, 2, none⟩ = some (.int .i64 U) := blk_cell h 2
  have c3 : w.cell? ⟨b, 3, none⟩ = some (.int .i64 now) := blk_cell h 3
  have c4 : w.cell? ⟨b, 4, none⟩ = some (.int .i64 term) := blk_cell h 4
  have c6 : w.cell? ⟨b, 6, none⟩ = some (.int .i64 f) := blk_cell h 6
  have c10 : w.cell? ⟨b, 10, none⟩ = some (.int .i64 e) := blk_cell h 10
  have f0 : w.frozen? ⟨b, 0, none⟩ = false := blk_frozen h 0
  have f1 : w.frozen? ⟨b, 1, none⟩ = false := blk_frozen h 1
  have f2 : w.frozen? ⟨b, 2, none⟩ = false := blk_frozen h 2
  have HR := Lib.hid h
  clear h
  rcases hh : heldB H U now with _ | _
  · clear ho
    go_enter Try.func35, Try.ntmps35
    go_wp2
    go_quiet ((go_at_call 46; exact Calls.quiet_of (held_v (HR.out.drewN _) hh)))
    go_wp2
    go_region
    go_wp2_with (first | (go_at_call 47; refine (grant_c ((HR.out.drewN _).setAll _ _ _)).mono ?_; rintro r w' ⟨x, rfl, hx⟩))
    go_ret
    exact RetMsgReq HR.out ((HR.out.drewN _).setAll _ _ _) (bl_set (bl_set (bl_set (bl_drewN (Below.refl _ _) _) (Nat.le_refl _) _ _) (Nat.le_refl _) _ _) (Nat.le_refl _) _ _) hx
  · have hF : (H == f) = true := by simp [hh] at ho; simpa using ho
    clear ho
    go_enter Try.func35, Try.ntmps35
    go_wp2
    go_quiet ((go_at_call 46; exact Calls.quiet_of (held_v (HR.out.drewN _) hh)))
    go_wp2
    go_region
    go_wp2_with (first | (go_at_call 47; refine (grant_c ((HR.out.drewN _).setAll _ _ _)).mono ?_; rintro r w' ⟨x, rfl, hx⟩))
    go_ret
    exact RetMsgReq HR.out ((HR.out.drewN _).setAll _ _ _) (bl_set (bl_set (bl_set (bl_drewN (Below.refl _ _) _) (Nat.le_refl _) _ _) (Nat.le_refl _) _ _) (Nat.le_refl _) _ _) hx
end
end Go.Proofs.Ytmgnpjaemjpamaa
