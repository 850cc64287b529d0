/- Contracts of the functions on leases, of witness and of its reference: formed, CheckLease, Ask, Renew, Holds, GiveUp. -/
import Derived.Test.YtmgnpjaemjpamaaG2
set_option linter.unusedSimpArgs false
set_option linter.unusedVariables false
namespace Go.Proofs.Ytmgnpjaemjpamaa
open Go.RowKit

def lOk (S E U : Int) : Bool := btw S 0 3 && (btw E 0 1073741824 && btw U 0 1073741824)

/-- Two blocks that a call begins with: the lease, the result; and that nothing older has turned. -/
def Duo (w w1 : World) (cs rs : Array Value) : Prop :=
  (∀ o, w1.cell? ⟨w.heap.size, o, none⟩ = cs[o]?) ∧ (∀ o, w1.cell? ⟨w.heap.size + 1, o, none⟩ = rs[o]?) ∧
  (∀ o, w1.frozen? ⟨w.heap.size, o, none⟩ = false) ∧ (∀ o, w1.frozen? ⟨w.heap.size + 1, o, none⟩ = false) ∧ Below w.heap.size w w1 ∧ w.heap.size + 1 < w1.heap.size
theorem duo_of {w w1 : World} {cs rs : Array Value} {t1 t2 : TypeId} (h : Below ((w.alloc (.cells cs t1)).alloc (.cells rs t2)).heap.size ((w.alloc (.cells cs t1)).alloc (.cells rs t2)) w1) : Duo w w1 cs rs := by
  have hz := h.size
  simp at hz
  have b0 : w1.heap[w.heap.size]? = some (.cells cs t1 (0, 0)) := by
    rw [h.block _ (by simp; omega), alloc_lt _ _ (by simp), alloc_at]
  have b1 : w1.heap[w.heap.size + 1]? = some (.cells rs t2 (0, 0)) := by
    rw [h.block _ (by simp)]; exact map_at _ _ _
  exact ⟨fun o => blk_cell b0 o, fun o => blk_cell b1 o, fun o => blk_frozen b0 o, fun o => blk_frozen b1 o, (((Below.refl _ _).alloc (Nat.le_refl _) _).alloc (by simp) _).trans (h.mono (by simp; omega)), by omega⟩

def Ret2 (w : World) (a b : Value) (r : Ending) (w' : World) : Prop := r = .returned (.tuple #[a, b]) ∧ Below w.heap.size w w'

def nilS : Value := .slice none 0 0
def zeroM : Array Value := Msg8 0 0 0 0 0 0 nilS nilS
def askE (S E U ep : Int) : Int := if lOk S E U then (if btw ep 1 1073741824 then (if ep < E then 13 else 0) else 2) else 3
def askM (S E U ep : Int) : Array Value := if askE S E U ep = 0 then Msg8 15 S 4 0 0 ep nilS nilS else zeroM
def renE (S E U : Int) : Int := if lOk S E U then (if U = 0 then 12 else 0) else 3
def renM (S E U : Int) : Array Value := if renE S E U = 0 then Msg8 17 S 4 0 0 E nilS nilS else zeroM
def giveL (S E U : Int) : Array Value := if lOk S E U then #[.int .i64 S, .int .i64 (min (E + 1) 1073741824), .int .i64 0] else #[.int .i64 S, .int .i64 E, .int .i64 U]
def giveM (S E U : Int) : Array Value := if lOk S E U then Msg8 18 S 4 0 0 E nilS nilS else zeroM
def holdsB (S E U now : Int) : Bool := lOk S E U && decide (now < U)

theorem formed_c (S E U : Int) (w : World) :
    Calls Try.prog 43 #[.agg #[.int .i64 S, .int .i64 E, .int .i64 U]] w fun e w' => e = .returned (.bool (lOk S E U)) ∧ Below w.heap.size w w' := by
  rcases hS : btw S 0 3 with _ | _
  · go_enter Try.func43, Try.ntmps43
    go_wp2_with (first | (go_at_call 34; refine (site_c _ _).mono ?_; rintro e w' ⟨rfl, rfl⟩) | (go_at_call 32; refine (time_c _ _).mono ?_; rintro e w' ⟨rfl, rfl⟩))
    go_ret
    exact ⟨by simp [lOk, hS], (Below.refl _ _).alloc (Nat.le_refl _) _⟩
  rcases hE : btw E 0 1073741824 with _ | _
  · go_enter Try.func43, Try.ntmps43
    go_wp2_with (first | (go_at_call 34; refine (site_c _ _).mono ?_; rintro e w' ⟨rfl, rfl⟩) | (go_at_call 32; refine (time_c _ _).mono ?_; rintro e w' ⟨rfl, rfl⟩))
    go_ret
    exact ⟨by simp [lOk, hS, hE], (Below.refl _ _).alloc (Nat.le_refl _) _⟩
  rcases hU : btw U 0 1073741824 with _ | _
  · go_enter Try.func43, Try.ntmps43
    go_wp2_with (first | (go_at_call 34; refine (site_c _ _).mono ?_; rintro e w' ⟨rfl, rfl⟩) | (go_at_call 32; refine (time_c _ _).mono ?_; rintro e w' ⟨rfl, rfl⟩))
    go_ret
    exact ⟨by simp [lOk, hS, hE, hU], (Below.refl _ _).alloc (Nat.le_refl _) _⟩
  · go_enter Try.func43, Try.ntmps43
    go_wp2_with (first | (go_at_call 34; refine (site_c _ _).mono ?_; rintro e w' ⟨rfl, rfl⟩) | (go_at_call 32; refine (time_c _ _).mono ?_; rintro e w' ⟨rfl, rfl⟩))
    go_ret
    exact ⟨by simp [lOk, hS, hE, hU], (Below.refl _ _).alloc (Nat.le_refl _) _⟩

theorem rform_c (S E U : Int) (w : World) :
    Calls Try.prog 44 #[.agg #[.int .i64 S, .int .i64 E, .int .i64 U]] w fun e w' => e = .returned (.int .i64 (okN (lOk S E U))) ∧ Below w.heap.size w w' := by
  rcases hS : btw S 0 3 with _ | _
  · go_enter Try.func44, Try.ntmps44
    go_wp2_with (first | (go_at_call 39; refine (rsite_c _ _).mono ?_; rintro e w' ⟨rfl, rfl⟩) | (go_at_call 38; refine (in_c _ _).mono ?_; rintro e w' ⟨rfl, rfl⟩))
    go_ret
    exact ⟨by simp [okN, lOk, hS], (Below.refl _ _).alloc (Nat.le_refl _) _⟩
  rcases hE : btw E 0 1073741824 with _ | _
  · go_enter Try.func44, Try.ntmps44
    go_wp2_with (first | (go_at_call 39; refine (rsite_c _ _).mono ?_; rintro e w' ⟨rfl, rfl⟩) | (go_at_call 38; refine (in_c _ _).mono ?_; rintro e w' ⟨rfl, rfl⟩))
    go_ret
    exact ⟨by simp [okN, lOk, hS, hE], (Below.refl _ _).alloc (Nat.le_refl _) _⟩
  rcases hU : btw U 0 1073741824 with _ | _
  · go_enter Try.func44, Try.ntmps44
    go_wp2_with (first | (go_at_call 39; refine (rsite_c _ _).mono ?_; rintro e w' ⟨rfl, rfl⟩) | (go_at_call 38; refine (in_c _ _).mono ?_; rintro e w' ⟨rfl, rfl⟩))
    go_ret
    exact ⟨by simp [okN, lOk, hS, hE, hU], (Below.refl _ _).alloc (Nat.le_refl _) _⟩
  · go_enter Try.func44, Try.ntmps44
    go_wp2_with (first | (go_at_call 39; refine (rsite_c _ _).mono ?_; rintro e w' ⟨rfl, rfl⟩) | (go_at_call 38; refine (in_c _ _).mono ?_; rintro e w' ⟨rfl, rfl⟩))
    go_ret
    exact ⟨by simp [okN, lOk, hS, hE, hU], (Below.refl _ _).alloc (Nat.le_refl _) _⟩

theorem formed_v {S E U : Int} {c : Bool} (h : lOk S E U = c) (w : World) : Calls Try.prog 43 #[.agg #[.int .i64 S, .int .i64 E, .int .i64 U]] w fun e w' => e = .returned (.bool c) ∧ Below w.heap.size w w' := by
  subst h; exact formed_c _ _ _ _
theorem rform_v {S E U : Int} {c : Bool} (h : lOk S E U = c) (w : World) : Calls Try.prog 44 #[.agg #[.int .i64 S, .int .i64 E, .int .i64 U]] w fun e w' => e = .returned (.int .i64 (okN c)) ∧ Below w.heap.size w w' := by
  subst h; exact rform_c _ _ _ _

theorem ask_c (S E U ep : Int) (w : World) : Calls Try.prog 19 #[.agg #[.int .i64 S, .int .i64 E, .int .i64 U], .int .i64 ep] w (Ret2 w (.agg (askM S E U ep)) (.int .i64 (askE S E U ep))) := by
  rcases hl : lOk S E U with _ | _
  · have hok : (okN false != 0) = true := rfl
    have he : askE S E U ep = 3 := by simp [askE, hl]
    have hm : askM S E U ep = zeroM := by simp [askM, he]
    rw [he, hm]
    clear he hm
    go_enter Try.func19, Try.ntmps19
    go_wp2_with (first | (go_at_call 43; refine (formed_v hl _).mono ?_; rintro r w1 ⟨rfl, hb⟩; have HB := Lib.hid (duo_of hb); clear hb; have q0 := HB.out.1; have q1 := HB.out.2.1; have f0 := HB.out.2.2.1; have f1 := HB.out.2.2.2.1; have hz := HB.out.2.2.2.2.2) | (go_at_call 33; refine (between_c _ _ _ _).mono ?_; rintro r w2 ⟨rfl, rfl⟩))
    exact bodyPost_ret (v := .tuple #[.agg zeroM, .int .i64 3]) (by simp [results, Try.results19, go_sem, q1, Msg8, nilS, zeroM]) rfl ⟨rfl, bl_set (bl_set (bl_set (bl_set (bl_set (bl_set (bl_set (bl_set (HB.out.2.2.2.2.1) (by omega) _ _) (by omega) _ _) (by omega) _ _) (by omega) _ _) (by omega) _ _) (by omega) _ _) (by omega) _ _) (by omega) _ _⟩
  have hok : (okN true != 0) = false := rfl
  rcases hb1 : btw ep 1 1073741824 with _ | _
  · have he : askE S E U ep = 2 := by simp [askE, hl, hb1]
    have hm : askM S E U ep = zeroM := by simp [askM, he]
    rw [he, hm]
    clear he hm
    go_enter Try.func19, Try.ntmps19
    go_wp2_with (first | (go_at_call 43; refine (formed_v hl _).mono ?_; rintro r w1 ⟨rfl, hb⟩; have HB := Lib.hid (duo_of hb); clear hb; have q0 := HB.out.1; have q1 := HB.out.2.1; have f0 := HB.out.2.2.1; have f1 := HB.out.2.2.2.1; have hz := HB.out.2.2.2.2.2) | (go_at_call 33; refine (between_c _ _ _ _).mono ?_; rintro r w2 ⟨rfl, rfl⟩))
    exact bodyPost_ret (v := .tuple #[.agg zeroM, .int .i64 2]) (by simp [results, Try.results19, go_sem, q1, Msg8, nilS, zeroM]) rfl ⟨rfl, bl_set (bl_set (bl_set (bl_set (bl_set (bl_set (bl_set (bl_set (HB.out.2.2.2.2.1) (by omega) _ _) (by omega) _ _) (by omega) _ _) (by omega) _ _) (by omega) _ _) (by omega) _ _) (by omega) _ _) (by omega) _ _⟩
  by_cases h3 : ep < E
  · have he : askE S E U ep = 13 := by simp [askE, hl, hb1, h3]
    have hm : askM S E U ep = zeroM := by simp [askM, he]
    rw [he, hm]
    clear he hm
    go_enter Try.func19, Try.ntmps19
    go_wp2_with (first | (go_at_call 43; refine (formed_v hl _).mono ?_; rintro r w1 ⟨rfl, hb⟩; have HB := Lib.hid (duo_of hb); clear hb; have q0 := HB.out.1; have q1 := HB.out.2.1; have f0 := HB.out.2.2.1; have f1 := HB.out.2.2.2.1; have hz := HB.out.2.2.2.2.2) | (go_at_call 33; refine (between_c _ _ _ _).mono ?_; rintro r w2 ⟨rfl, rfl⟩))
    exact bodyPost_ret (v := .tuple #[.agg zeroM, .int .i64 13]) (by simp [results, Try.results19, go_sem, q1, Msg8, nilS, zeroM]) rfl ⟨rfl, bl_set (bl_set (bl_set (bl_set (bl_set (bl_set (bl_set (bl_set (HB.out.2.2.2.2.1) (by omega) _ _) (by omega) _ _) (by omega) _ _) (by omega) _ _) (by omega) _ _) (by omega) _ _) (by omega) _ _) (by omega) _ _⟩
  · have he : askE S E U ep = 0 := by simp [askE, hl, hb1, h3]
    have hm : askM S E U ep = Msg8 15 S 4 0 0 ep nilS nilS := by simp [askM, he]
    rw [he, hm]
    clear he hm
    go_enter Try.func19, Try.ntmps19
    go_wp2_with (first | (go_at_call 43; refine (formed_v hl _).mono ?_; rintro r w1 ⟨rfl, hb⟩; have HB := Lib.hid (duo_of hb); clear hb; have q0 := HB.out.1; have q1 := HB.out.2.1; have f0 := HB.out.2.2.1; have f1 := HB.out.2.2.2.1; have hz := HB.out.2.2.2.2.2) | (go_at_call 33; refine (between_c _ _ _ _).mono ?_; rintro r w2 ⟨rfl, rfl⟩))
    exact bodyPost_ret (v := .tuple #[.agg (Msg8 15 S 4 0 0 ep nilS nilS), .int .i64 0]) (by simp [results, Try.results19, go_sem, q1, Msg8, nilS, zeroM]) rfl ⟨rfl, bl_set (bl_set (bl_set (bl_set (bl_set (bl_set (bl_set (bl_set (HB.out.2.2.2.2.1) (by omega) _ _) (by omega) _ _) (by omega) _ _) (by omega) _ _) (by omega) _ _) (by omega) _ _) (by omega) _ _) (by omega) _ _⟩

theorem rask_c (S E U ep : Int) (w : World) : Calls Try.prog 20 #[.agg #[.int .i64 S, .int .i64 E, .int .i64 U], .int .i64 ep] w (Ret2 w (.agg (askM S E U ep)) (.int .i64 (askE S E U ep))) := by
  rcases hl : lOk S E U with _ | _
  · have hok : (okN false != 0) = true := rfl
    have he : askE S E U ep = 3 := by simp [askE, hl]
    have hm : askM S E U ep = zeroM := by simp [askM, he]
    rw [he, hm]
    clear he hm
    go_enter Try.func20, Try.ntmps20
    go_wp2_with (first | (go_at_call 44; refine (rform_v hl _).mono ?_; rintro r w1 ⟨rfl, hb⟩; have HB := Lib.hid (duo_of hb); clear hb; have q0 := HB.out.1; have q1 := HB.out.2.1; have f0 := HB.out.2.2.1; have f1 := HB.out.2.2.2.1; have hz := HB.out.2.2.2.2.2) | fail)
    exact bodyPost_ret (v := .tuple #[.agg zeroM, .int .i64 3]) (by simp [results, Try.results20, go_sem, q1, Msg8, nilS, zeroM]) rfl ⟨rfl, bl_set (bl_set (bl_set (bl_set (bl_set (bl_set (bl_set (bl_set (HB.out.2.2.2.2.1) (by omega) _ _) (by omega) _ _) (by omega) _ _) (by omega) _ _) (by omega) _ _) (by omega) _ _) (by omega) _ _) (by omega) _ _⟩
  have hok : (okN true != 0) = false := rfl
  rcases hb1 : btw ep 1 1073741824 with _ | _
  · have he : askE S E U ep = 2 := by simp [askE, hl, hb1]
    have hm : askM S E U ep = zeroM := by simp [askM, he]
    rw [he, hm]
    clear he hm
    by_cases h1 : ep < 1
    · clear hb1
      go_enter Try.func20, Try.ntmps20
      go_wp2_with (first | (go_at_call 44; refine (rform_v hl _).mono ?_; rintro r w1 ⟨rfl, hb⟩; have HB := Lib.hid (duo_of hb); clear hb; have q0 := HB.out.1; have q1 := HB.out.2.1; have f0 := HB.out.2.2.1; have f1 := HB.out.2.2.2.1; have hz := HB.out.2.2.2.2.2) | fail)
      exact bodyPost_ret (v := .tuple #[.agg zeroM, .int .i64 2]) (by simp [results, Try.results20, go_sem, q1, Msg8, nilS, zeroM]) rfl ⟨rfl, bl_set (bl_set (bl_set (bl_set (bl_set (bl_set (bl_set (bl_set (HB.out.2.2.2.2.1) (by omega) _ _) (by omega) _ _) (by omega) _ _) (by omega) _ _) (by omega) _ _) (by omega) _ _) (by omega) _ _) (by omega) _ _⟩
    · have h2 : 1073741824 < ep := by simp [btw] at hb1; omega
      have h1d : decide (ep < 1) = false := decide_eq_false h1
      clear hb1 h1
      go_enter Try.func20, Try.ntmps20
      go_wp2_with (first | (go_at_call 44; refine (rform_v hl _).mono ?_; rintro r w1 ⟨rfl, hb⟩; have HB := Lib.hid (duo_of hb); clear hb; have q0 := HB.out.1; have q1 := HB.out.2.1; have f0 := HB.out.2.2.1; have f1 := HB.out.2.2.2.1; have hz := HB.out.2.2.2.2.2) | fail)
      exact bodyPost_ret (v := .tuple #[.agg zeroM, .int .i64 2]) (by simp [results, Try.results20, go_sem, q1, Msg8, nilS, zeroM]) rfl ⟨rfl, bl_set (bl_set (bl_set (bl_set (bl_set (bl_set (bl_set (bl_set (HB.out.2.2.2.2.1) (by omega) _ _) (by omega) _ _) (by omega) _ _) (by omega) _ _) (by omega) _ _) (by omega) _ _) (by omega) _ _) (by omega) _ _⟩
  by_cases h3 : ep < E
  · have he : askE S E U ep = 13 := by simp [askE, hl, hb1, h3]
    have hm : askM S E U ep = zeroM := by simp [askM, he]
    rw [he, hm]
    clear he hm
    obtain ⟨hb2, hb3⟩ : 1 ≤ ep ∧ ep ≤ 1073741824 := by simp [btw] at hb1; exact hb1
    have hb4 : decide (ep < 1) = false := decide_eq_false (by omega)
    clear hb1
    go_enter Try.func20, Try.ntmps20
    go_wp2_with (first | (go_at_call 44; refine (rform_v hl _).mono ?_; rintro r w1 ⟨rfl, hb⟩; have HB := Lib.hid (duo_of hb); clear hb; have q0 := HB.out.1; have q1 := HB.out.2.1; have f0 := HB.out.2.2.1; have f1 := HB.out.2.2.2.1; have hz := HB.out.2.2.2.2.2) | fail)
    exact bodyPost_ret (v := .tuple #[.agg zeroM, .int .i64 13]) (by simp [results, Try.results20, go_sem, q1, Msg8, nilS, zeroM]) rfl ⟨rfl, bl_set (bl_set (bl_set (bl_set (bl_set (bl_set (bl_set (bl_set (HB.out.2.2.2.2.1) (by omega) _ _) (by omega) _ _) (by omega) _ _) (by omega) _ _) (by omega) _ _) (by omega) _ _) (by omega) _ _) (by omega) _ _⟩
  · have he : askE S E U ep = 0 := by simp [askE, hl, hb1, h3]
    have hm : askM S E U ep = Msg8 15 S 4 0 0 ep nilS nilS := by simp [askM, he]
    rw [he, hm]
    clear he hm
    obtain ⟨hb2, hb3⟩ : 1 ≤ ep ∧ ep ≤ 1073741824 := by simp [btw] at hb1; exact hb1
    have hb4 : decide (ep < 1) = false := decide_eq_false (by omega)
    clear hb1
    go_enter Try.func20, Try.ntmps20
    go_wp2_with (first | (go_at_call 44; refine (rform_v hl _).mono ?_; rintro r w1 ⟨rfl, hb⟩; have HB := Lib.hid (duo_of hb); clear hb; have q0 := HB.out.1; have q1 := HB.out.2.1; have f0 := HB.out.2.2.1; have f1 := HB.out.2.2.2.1; have hz := HB.out.2.2.2.2.2) | fail)
    exact bodyPost_ret (v := .tuple #[.agg (Msg8 15 S 4 0 0 ep nilS nilS), .int .i64 0]) (by simp [results, Try.results20, go_sem, q1, Msg8, nilS, zeroM]) rfl ⟨rfl, bl_set (bl_set (bl_set (bl_set (bl_set (bl_set (bl_set (bl_set (HB.out.2.2.2.2.1) (by omega) _ _) (by omega) _ _) (by omega) _ _) (by omega) _ _) (by omega) _ _) (by omega) _ _) (by omega) _ _) (by omega) _ _⟩

theorem renew_c (S E U : Int) (w : World) : Calls Try.prog 21 #[.agg #[.int .i64 S, .int .i64 E, .int .i64 U]] w (Ret2 w (.agg (renM S E U)) (.int .i64 (renE S E U))) := by
  rcases hl : lOk S E U with _ | _
  · have hok : (okN false != 0) = true := rfl
    have he : renE S E U = 3 := by simp [renE, hl]
    have hm : renM S E U = zeroM := by simp [renM, he]
    rw [he, hm]
    clear he hm
    go_enter Try.func21, Try.ntmps21
    go_wp2_with (first | (go_at_call 43; refine (formed_v hl _).mono ?_; rintro r w1 ⟨rfl, hb⟩; have HB := Lib.hid (duo_of hb); clear hb; have q0 := HB.out.1; have q1 := HB.out.2.1; have f0 := HB.out.2.2.1; have f1 := HB.out.2.2.2.1; have hz := HB.out.2.2.2.2.2))
    exact bodyPost_ret (v := .tuple #[.agg zeroM, .int .i64 3]) (by simp [results, Try.results21, go_sem, q1, Msg8, nilS, zeroM]) rfl ⟨rfl, bl_set (bl_set (bl_set (bl_set (bl_set (bl_set (bl_set (bl_set (HB.out.2.2.2.2.1) (by omega) _ _) (by omega) _ _) (by omega) _ _) (by omega) _ _) (by omega) _ _) (by omega) _ _) (by omega) _ _) (by omega) _ _⟩
  have hok : (okN true != 0) = false := rfl
  rcases hu : (U == 0) with _ | _
  · have he : renE S E U = 0 := by simp [renE, hl]; simpa using hu
    have hm : renM S E U = Msg8 17 S 4 0 0 E nilS nilS := by simp [renM, he]
    rw [he, hm]
    clear he hm
    go_enter Try.func21, Try.ntmps21
    go_wp2_with (first | (go_at_call 43; refine (formed_v hl _).mono ?_; rintro r w1 ⟨rfl, hb⟩; have HB := Lib.hid (duo_of hb); clear hb; have q0 := HB.out.1; have q1 := HB.out.2.1; have f0 := HB.out.2.2.1; have f1 := HB.out.2.2.2.1; have hz := HB.out.2.2.2.2.2))
    exact bodyPost_ret (v := .tuple #[.agg (Msg8 17 S 4 0 0 E nilS nilS), .int .i64 0]) (by simp [results, Try.results21, go_sem, q1, Msg8, nilS, zeroM]) rfl ⟨rfl, bl_set (bl_set (bl_set (bl_set (bl_set (bl_set (bl_set (bl_set (HB.out.2.2.2.2.1) (by omega) _ _) (by omega) _ _) (by omega) _ _) (by omega) _ _) (by omega) _ _) (by omega) _ _) (by omega) _ _) (by omega) _ _⟩
  · have he : renE S E U = 12 := by simp [renE, hl]; simpa using hu
    have hm : renM S E U = zeroM := by simp [renM, he]
    rw [he, hm]
    clear he hm
    go_enter Try.func21, Try.ntmps21
    go_wp2_with (first | (go_at_call 43; refine (formed_v hl _).mono ?_; rintro r w1 ⟨rfl, hb⟩; have HB := Lib.hid (duo_of hb); clear hb; have q0 := HB.out.1; have q1 := HB.out.2.1; have f0 := HB.out.2.2.1; have f1 := HB.out.2.2.2.1; have hz := HB.out.2.2.2.2.2))
    exact bodyPost_ret (v := .tuple #[.agg zeroM, .int .i64 12]) (by simp [results, Try.results21, go_sem, q1, Msg8, nilS, zeroM]) rfl ⟨rfl, bl_set (bl_set (bl_set (bl_set (bl_set (bl_set (bl_set (bl_set (HB.out.2.2.2.2.1) (by omega) _ _) (by omega) _ _) (by omega) _ _) (by omega) _ _) (by omega) _ _) (by omega) _ _) (by omega) _ _) (by omega) _ _⟩

theorem rrenew_c (S E U : Int) (w : World) : Calls Try.prog 22 #[.agg #[.int .i64 S, .int .i64 E, .int .i64 U]] w (Ret2 w (.agg (renM S E U)) (.int .i64 (renE S E U))) := by
  rcases hl : lOk S E U with _ | _
  · have hok : (okN false != 0) = true := rfl
    have he : renE S E U = 3 := by simp [renE, hl]
    have hm : renM S E U = zeroM := by simp [renM, he]
    rw [he, hm]
    clear he hm
    go_enter Try.func22, Try.ntmps22
    go_wp2_with (first | (go_at_call 44; refine (rform_v hl _).mono ?_; rintro r w1 ⟨rfl, hb⟩; have HB := Lib.hid (duo_of hb); clear hb; have q0 := HB.out.1; have q1 := HB.out.2.1; have f0 := HB.out.2.2.1; have f1 := HB.out.2.2.2.1; have hz := HB.out.2.2.2.2.2))
    exact bodyPost_ret (v := .tuple #[.agg zeroM, .int .i64 3]) (by simp [results, Try.results22, go_sem, q1, Msg8, nilS, zeroM]) rfl ⟨rfl, bl_set (bl_set (bl_set (bl_set (bl_set (bl_set (bl_set (bl_set (HB.out.2.2.2.2.1) (by omega) _ _) (by omega) _ _) (by omega) _ _) (by omega) _ _) (by omega) _ _) (by omega) _ _) (by omega) _ _) (by omega) _ _⟩
  have hok : (okN true != 0) = false := rfl
  rcases hu : (U == 0) with _ | _
  · have he : renE S E U = 0 := by simp [renE, hl]; simpa using hu
    have hm : renM S E U = Msg8 17 S 4 0 0 E nilS nilS := by simp [renM, he]
    rw [he, hm]
    clear he hm
    go_enter Try.func22, Try.ntmps22
    go_wp2_with (first | (go_at_call 44; refine (rform_v hl _).mono ?_; rintro r w1 ⟨rfl, hb⟩; have HB := Lib.hid (duo_of hb); clear hb; have q0 := HB.out.1; have q1 := HB.out.2.1; have f0 := HB.out.2.2.1; have f1 := HB.out.2.2.2.1; have hz := HB.out.2.2.2.2.2))
    exact bodyPost_ret (v := .tuple #[.agg (Msg8 17 S 4 0 0 E nilS nilS), .int .i64 0]) (by simp [results, Try.results22, go_sem, q1, Msg8, nilS, zeroM]) rfl ⟨rfl, bl_set (bl_set (bl_set (bl_set (bl_set (bl_set (bl_set (bl_set (HB.out.2.2.2.2.1) (by omega) _ _) (by omega) _ _) (by omega) _ _) (by omega) _ _) (by omega) _ _) (by omega) _ _) (by omega) _ _) (by omega) _ _⟩
  · have he : renE S E U = 12 := by simp [renE, hl]; simpa using hu
    have hm : renM S E U = zeroM := by simp [renM, he]
    rw [he, hm]
    clear he hm
    go_enter Try.func22, Try.ntmps22
    go_wp2_with (first | (go_at_call 44; refine (rform_v hl _).mono ?_; rintro r w1 ⟨rfl, hb⟩; have HB := Lib.hid (duo_of hb); clear hb; have q0 := HB.out.1; have q1 := HB.out.2.1; have f0 := HB.out.2.2.1; have f1 := HB.out.2.2.2.1; have hz := HB.out.2.2.2.2.2))
    exact bodyPost_ret (v := .tuple #[.agg zeroM, .int .i64 12]) (by simp [results, Try.results22, go_sem, q1, Msg8, nilS, zeroM]) rfl ⟨rfl, bl_set (bl_set (bl_set (bl_set (bl_set (bl_set (bl_set (bl_set (HB.out.2.2.2.2.1) (by omega) _ _) (by omega) _ _) (by omega) _ _) (by omega) _ _) (by omega) _ _) (by omega) _ _) (by omega) _ _) (by omega) _ _⟩

theorem holds_c (S E U now : Int) (w : World) : Calls Try.prog 25 #[.agg #[.int .i64 S, .int .i64 E, .int .i64 U], .int .i64 now] w fun e w' => e = .returned (.bool (holdsB S E U now)) ∧ Below w.heap.size w w' := by
  rcases hl : lOk S E U with _ | _
  · have hok : (okN false == 0) = false := rfl
    go_enter Try.func25, Try.ntmps25
    go_wp2_with (first | (go_at_call 43; refine (formed_v hl _).mono ?_; rintro r w1 ⟨rfl, hb⟩; have hcq := (bcell hb).1; have HB := Lib.hid hb; clear hb))
    go_ret
    exact ⟨by simp [holdsB, hl], ((Below.refl _ _).alloc (Nat.le_refl _) _).trans (HB.out.mono (by simp))⟩
  · have hok : (okN true == 0) = true := rfl
    go_enter Try.func25, Try.ntmps25
    go_wp2_with (first | (go_at_call 43; refine (formed_v hl _).mono ?_; rintro r w1 ⟨rfl, hb⟩; have hcq := (bcell hb).1; have HB := Lib.hid hb; clear hb))
    go_ret
    exact ⟨by simp [holdsB, hl], ((Below.refl _ _).alloc (Nat.le_refl _) _).trans (HB.out.mono (by simp))⟩

theorem rholds_c (S E U now : Int) (w : World) : Calls Try.prog 26 #[.agg #[.int .i64 S, .int .i64 E, .int .i64 U], .int .i64 now] w fun e w' => e = .returned (.bool (holdsB S E U now)) ∧ Below w.heap.size w w' := by
  rcases hl : lOk S E U with _ | _
  · have hok : (okN false == 0) = false := rfl
    go_enter Try.func26, Try.ntmps26
    go_wp2_with (first | (go_at_call 44; refine (rform_v hl _).mono ?_; rintro r w1 ⟨rfl, hb⟩; have hcq := (bcell hb).1; have HB := Lib.hid hb; clear hb))
    go_ret
    exact ⟨by simp [holdsB, hl], ((Below.refl _ _).alloc (Nat.le_refl _) _).trans (HB.out.mono (by simp))⟩
  · have hok : (okN true == 0) = true := rfl
    go_enter Try.func26, Try.ntmps26
    go_wp2_with (first | (go_at_call 44; refine (rform_v hl _).mono ?_; rintro r w1 ⟨rfl, hb⟩; have hcq := (bcell hb).1; have HB := Lib.hid hb; clear hb))
    go_ret
    exact ⟨by simp [holdsB, hl], ((Below.refl _ _).alloc (Nat.le_refl _) _).trans (HB.out.mono (by simp))⟩

end Go.Proofs.Ytmgnpjaemjpamaa
