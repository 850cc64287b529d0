/- The contract of witness.Handle. -/
import Derived.Test.YtmgnpjaemjpamaaC
import Derived.Carry
set_option linter.unusedSimpArgs false
set_option linter.unusedVariables false
namespace Go.Proofs.Ytmgnpjaemjpamaa
open Go.RowKit

theorem bcell {W w1 : World} (hb : Below W.heap.size W w1) : (∀ b o, b < W.heap.size → w1.cell? ⟨b, o, none⟩ = W.cell? ⟨b, o, none⟩) ∧ (∀ b o, b < W.heap.size → w1.frozen? ⟨b, o, none⟩ = W.frozen? ⟨b, o, none⟩) :=
  ⟨fun b o h => hb.cell (p := ⟨b, o, none⟩) h, fun b o h => hb.frozen (p := ⟨b, o, none⟩) h⟩

/-- What Handle answers. -/
def renewS (E H U now term f e : Int) : (Int × Int × Int) × Option (Int × Int × Int) :=
  if ownB E H U now f e then ((E, H, max U (now + term)), some (16, E, term)) else ((E, H, U), some (12, E, 0))
def goodB (E H U now term f e : Int) : Bool := wOk E H U && (btw now 0 1073741824 && (btw term 1 (1073741824 - now) && (btw f 0 3 && btw e 0 1073741824)))
def acqB (E H U now f e : Int) : Bool := decide (E < e) && (!heldB H U now || H == f)
def handleS (E H U now term k f e : Int) : (Int × Int × Int) × Option (Int × Int × Int) :=
  if goodB E H U now term f e then
    if k = 15 then (if acqB E H U now f e then ((e, f, now + term), some (16, e, term)) else renewS E H U now term f e)
    else if k = 17 then renewS E H U now term f e
    else if k = 18 then (if e == E && f == H then ((E, -1, 0), none) else ((E, H, U), none))
    else ((E, H, U), none)
  else ((E, H, U), none)

def AnsIs (B : Nat) (x : Value) (w : World) (f n : Int) : Option (Int × Int × Int) → Prop
  | none => x = .slice none 0 0
  | some (k, e, v) => OneMsg B x w k f n v e

def HRet (w : World) (f n : Int) (s : (Int × Int × Int) × Option (Int × Int × Int)) (r : Ending) (w' : World) : Prop :=
  ∃ x, r = .returned (.tuple #[.agg #[.int .i64 s.1.1, .int .i64 s.1.2.1, .int .i64 s.1.2.2], x]) ∧ AnsIs w.heap.size x w' f n s.2 ∧ Below w.heap.size w w'

theorem bw0 (n hi : Int) (h : btw n 0 hi = true) : 0 ≤ n ∧ n ≤ hi := by simp [btw] at h; omega

theorem below3 {w w1 : World} {a b c : Obj} (h : Below (((w.alloc a).alloc b).alloc c).heap.size (((w.alloc a).alloc b).alloc c) w1) : Below w.heap.size w w1 :=
  ((((Below.refl _ _).alloc (Nat.le_refl _) a).alloc (by simp) b).alloc (by simp; omega) c).trans (h.mono (by simp; omega))

theorem handle_bad (E H U now term k f t n v e : Int) (vs bd : Value) (w : World) (hg : goodB E H U now term f e = false) :
    Calls Try.prog 12 #[.agg #[.int .i64 E, .int .i64 H, .int .i64 U], .int .i64 now, .int .i64 term, .agg (Msg8 k f t n v e vs bd)] w (HRet w f n ((E, H, U), none)) := by
  unfold Msg8
  rcases hw : wOk E H U with _ | _
  · clear hg
    have hok : (okN false != 0) = true := rfl
    go_enter Try.func12, Try.ntmps12
    go_wp2_with (first | (go_at_call 15; refine (check_c _ _ _ _).mono ?_; rw [hw]; rintro r w1 ⟨rfl, hb⟩; obtain ⟨hcq, hfq⟩ := bcell hb; have hz := hb.size; simp at hz; have HB := Lib.hid hb; clear hb) | (go_at_call 32; refine (time_c _ _).mono ?_; rintro r w2 ⟨rfl, rfl⟩) | (go_at_call 33; refine (between_c _ _ _ _).mono ?_; rintro r w2 ⟨rfl, rfl⟩) | (go_at_call 34; refine (site_c _ _).mono ?_; rintro r w2 ⟨rfl, rfl⟩))
    exact bodyPost_ret (v := .tuple #[.agg #[.int .i64 E, .int .i64 H, .int .i64 U], .slice none 0 0]) (by simp [results, Try.results12, go_sem, hcq, hfq, hz]) rfl ⟨_, rfl, rfl, bl_set (bl_set (bl_set (below3 HB.out) (by omega) _ _) (by omega) _ _) (by omega) _ _⟩
  have hok : (okN true != 0) = false := rfl
  rcases hn : btw now 0 1073741824 with _ | _
  · clear hg
    go_enter Try.func12, Try.ntmps12
    go_wp2_with (first | (go_at_call 15; refine (check_c _ _ _ _).mono ?_; rw [hw]; rintro r w1 ⟨rfl, hb⟩; obtain ⟨hcq, hfq⟩ := bcell hb; have hz := hb.size; simp at hz; have HB := Lib.hid hb; clear hb) | (go_at_call 32; refine (time_c _ _).mono ?_; rintro r w2 ⟨rfl, rfl⟩) | (go_at_call 33; refine (between_c _ _ _ _).mono ?_; rintro r w2 ⟨rfl, rfl⟩) | (go_at_call 34; refine (site_c _ _).mono ?_; rintro r w2 ⟨rfl, rfl⟩))
    exact bodyPost_ret (v := .tuple #[.agg #[.int .i64 E, .int .i64 H, .int .i64 U], .slice none 0 0]) (by simp [results, Try.results12, go_sem, hcq, hfq, hz]) rfl ⟨_, rfl, rfl, bl_set (bl_set (bl_set (below3 HB.out) (by omega) _ _) (by omega) _ _) (by omega) _ _⟩
  obtain ⟨hn1, hn2⟩ := bw0 _ _ hn
  rcases ht : btw term 1 (1073741824 - now) with _ | _
  · clear hg
    go_enter Try.func12, Try.ntmps12
    go_wp2_with (first | (go_at_call 15; refine (check_c _ _ _ _).mono ?_; rw [hw]; rintro r w1 ⟨rfl, hb⟩; obtain ⟨hcq, hfq⟩ := bcell hb; have hz := hb.size; simp at hz; have HB := Lib.hid hb; clear hb) | (go_at_call 32; refine (time_c _ _).mono ?_; rintro r w2 ⟨rfl, rfl⟩) | (go_at_call 33; refine (between_c _ _ _ _).mono ?_; rintro r w2 ⟨rfl, rfl⟩) | (go_at_call 34; refine (site_c _ _).mono ?_; rintro r w2 ⟨rfl, rfl⟩))
    exact bodyPost_ret (v := .tuple #[.agg #[.int .i64 E, .int .i64 H, .int .i64 U], .slice none 0 0]) (by simp [results, Try.results12, go_sem, hcq, hfq, hz]) rfl ⟨_, rfl, rfl, bl_set (bl_set (bl_set (below3 HB.out) (by omega) _ _) (by omega) _ _) (by omega) _ _⟩
  rcases hf : btw f 0 3 with _ | _
  · clear hg
    go_enter Try.func12, Try.ntmps12
    go_wp2_with (first | (go_at_call 15; refine (check_c _ _ _ _).mono ?_; rw [hw]; rintro r w1 ⟨rfl, hb⟩; obtain ⟨hcq, hfq⟩ := bcell hb; have hz := hb.size; simp at hz; have HB := Lib.hid hb; clear hb) | (go_at_call 32; refine (time_c _ _).mono ?_; rintro r w2 ⟨rfl, rfl⟩) | (go_at_call 33; refine (between_c _ _ _ _).mono ?_; rintro r w2 ⟨rfl, rfl⟩) | (go_at_call 34; refine (site_c _ _).mono ?_; rintro r w2 ⟨rfl, rfl⟩))
    exact bodyPost_ret (v := .tuple #[.agg #[.int .i64 E, .int .i64 H, .int .i64 U], .slice none 0 0]) (by simp [results, Try.results12, go_sem, hcq, hfq, hz]) rfl ⟨_, rfl, rfl, bl_set (bl_set (bl_set (below3 HB.out) (by omega) _ _) (by omega) _ _) (by omega) _ _⟩
  · have he : btw e 0 1073741824 = false := by simpa [goodB, hw, hn, ht, hf] using hg
    clear hg
    go_enter Try.func12, Try.ntmps12
    go_wp2_with (first | (go_at_call 15; refine (check_c _ _ _ _).mono ?_; rw [hw]; rintro r w1 ⟨rfl, hb⟩; obtain ⟨hcq, hfq⟩ := bcell hb; have hz := hb.size; simp at hz; have HB := Lib.hid hb; clear hb) | (go_at_call 32; refine (time_c _ _).mono ?_; rintro r w2 ⟨rfl, rfl⟩) | (go_at_call 33; refine (between_c _ _ _ _).mono ?_; rintro r w2 ⟨rfl, rfl⟩) | (go_at_call 34; refine (site_c _ _).mono ?_; rintro r w2 ⟨rfl, rfl⟩))
    exact bodyPost_ret (v := .tuple #[.agg #[.int .i64 E, .int .i64 H, .int .i64 U], .slice none 0 0]) (by simp [results, Try.results12, go_sem, hcq, hfq, hz]) rfl ⟨_, rfl, rfl, bl_set (bl_set (bl_set (below3 HB.out) (by omega) _ _) (by omega) _ _) (by omega) _ _⟩

end Go.Proofs.Ytmgnpjaemjpamaa
