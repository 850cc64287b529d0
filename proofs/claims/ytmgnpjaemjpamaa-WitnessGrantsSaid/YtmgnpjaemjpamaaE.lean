/- The contract of witness.Handle, for all arguments. -/
import Derived.Test.YtmgnpjaemjpamaaE0
set_option linter.unusedSimpArgs false
set_option linter.unusedVariables false
namespace Go.Proofs.Ytmgnpjaemjpamaa
open Go.RowKit

def fe (key : Int) (f : FuncId) (b born : Nat) : MapEntry := ⟨.int .i64 key, .func (.func f) #[.pointer (some ⟨b, 0, none⟩)] #[], born⟩

theorem ins15 (w : World) (o : Obj) (x : Value) :
    (Instr.mapUpdate 74 (.map (some (w.heap.size + 1))) (.int .i64 15) x).run Try.prog ((w.alloc o).alloc (.map #[] 0)) = .ok () ((w.alloc o).alloc (.map #[⟨.int .i64 15, x, 0⟩] 1)) := by
  have := ins (w.alloc o) #[] 0 15 x rfl
  simpa using this
theorem ins17 (w : World) (o : Obj) (x y : Value) :
    (Instr.mapUpdate 74 (.map (some (w.heap.size + 1))) (.int .i64 17) y).run Try.prog ((w.alloc o).alloc (.map #[⟨.int .i64 15, x, 0⟩] 1)) = .ok () ((w.alloc o).alloc (.map #[⟨.int .i64 15, x, 0⟩, ⟨.int .i64 17, y, 1⟩] 2)) := by
  have := ins (w.alloc o) #[⟨.int .i64 15, x, 0⟩] 1 17 y rfl
  simpa using this
theorem ins18 (w : World) (o : Obj) (x y z : Value) :
    (Instr.mapUpdate 74 (.map (some (w.heap.size + 1))) (.int .i64 18) z).run Try.prog ((w.alloc o).alloc (.map #[⟨.int .i64 15, x, 0⟩, ⟨.int .i64 17, y, 1⟩] 2)) = .ok () ((w.alloc o).alloc (.map #[⟨.int .i64 15, x, 0⟩, ⟨.int .i64 17, y, 1⟩, ⟨.int .i64 18, z, 2⟩] 3)) := by
  have := ins (w.alloc o) #[⟨.int .i64 15, x, 0⟩, ⟨.int .i64 17, y, 1⟩] 2 18 z rfl
  simpa using this
theorem map_at (w : World) (a b : Obj) : ((w.alloc a).alloc b).heap[w.heap.size + 1]? = some b := by
  have := alloc_at (w.alloc a) b
  simpa using this
theorem look15 (w : World) (o : Obj) (x y z : Value) :
    (Instr.lookup 74 (.map (some (w.heap.size + 1))) (.int .i64 15) true).run Try.prog ((w.alloc o).alloc (.map #[⟨.int .i64 15, x, 0⟩, ⟨.int .i64 17, y, 1⟩, ⟨.int .i64 18, z, 2⟩] 3)) = .ok (.tuple #[x, .bool true]) ((w.alloc o).alloc (.map #[⟨.int .i64 15, x, 0⟩, ⟨.int .i64 17, y, 1⟩, ⟨.int .i64 18, z, 2⟩] 3)) :=
  look_yes _ _ _ 3 0 15 x (map_at _ _ _) rfl
theorem look17 (w : World) (o : Obj) (x y z : Value) :
    (Instr.lookup 74 (.map (some (w.heap.size + 1))) (.int .i64 17) true).run Try.prog ((w.alloc o).alloc (.map #[⟨.int .i64 15, x, 0⟩, ⟨.int .i64 17, y, 1⟩, ⟨.int .i64 18, z, 2⟩] 3)) = .ok (.tuple #[y, .bool true]) ((w.alloc o).alloc (.map #[⟨.int .i64 15, x, 0⟩, ⟨.int .i64 17, y, 1⟩, ⟨.int .i64 18, z, 2⟩] 3)) :=
  look_yes _ _ _ 3 1 17 y (map_at _ _ _) rfl
theorem look18 (w : World) (o : Obj) (x y z : Value) :
    (Instr.lookup 74 (.map (some (w.heap.size + 1))) (.int .i64 18) true).run Try.prog ((w.alloc o).alloc (.map #[⟨.int .i64 15, x, 0⟩, ⟨.int .i64 17, y, 1⟩, ⟨.int .i64 18, z, 2⟩] 3)) = .ok (.tuple #[z, .bool true]) ((w.alloc o).alloc (.map #[⟨.int .i64 15, x, 0⟩, ⟨.int .i64 17, y, 1⟩, ⟨.int .i64 18, z, 2⟩] 3)) :=
  look_yes _ _ _ 3 2 18 z (map_at _ _ _) rfl
theorem lookno (w : World) (o : Obj) (x y z : Value) (k : Int) (h1 : k ≠ 15) (h2 : k ≠ 17) (h3 : k ≠ 18) :
    (Instr.lookup 74 (.map (some (w.heap.size + 1))) (.int .i64 k) true).run Try.prog ((w.alloc o).alloc (.map #[⟨.int .i64 15, x, 0⟩, ⟨.int .i64 17, y, 1⟩, ⟨.int .i64 18, z, 2⟩] 3)) = .ok (.tuple #[.nilFunc, .bool false]) ((w.alloc o).alloc (.map #[⟨.int .i64 15, x, 0⟩, ⟨.int .i64 17, y, 1⟩, ⟨.int .i64 18, z, 2⟩] 3)) :=
  look_no _ _ _ 3 k (map_at _ _ _) (by
    have e1 : (k == 15) = false := by simpa using h1
    have e2 : (k == 17) = false := by simpa using h2
    have e3 : (k == 18) = false := by simpa using h3
    simp [Instr.findNow, Instr.sameNow, e1, e2, e3])

theorem cell_two (W : World) (x y : Obj) (b o : Nat) (h : b < W.heap.size) : ((W.alloc x).alloc y).cell? ⟨b, o, none⟩ = W.cell? ⟨b, o, none⟩ := by
  unfold World.cell?
  rw [alloc_lt _ _ (by simp; omega), alloc_lt _ _ h]

/-- What a handler does, at a request. -/
def Handler (F : FuncId) (E H U now term k f t n v e : Int) (vs bd : Value) (s : (Int × Int × Int) × Option (Int × Int × Int)) : Prop :=
  ∀ W b, Req W b E H U now term k f t n v e vs bd → Calls Try.prog F #[.pointer (some ⟨b, 0, none⟩)] W fun r w' =>
    ∃ x, r = .returned x ∧ AnsIs W.heap.size x w' f n s.2 ∧ Below b W w' ∧ Req w' b s.1.1 s.1.2.1 s.1.2.2 now term k f t n v e vs bd

theorem req_new (w1 : World) (m : Obj) {E H U now term k f t n v e : Int} {vs bd : Value} : Req ((w1.alloc (.cells #[.int .i64 E, .int .i64 H, .int .i64 U, .int .i64 now, .int .i64 term, .int .i64 k, .int .i64 f, .int .i64 t, .int .i64 n, .int .i64 v, .int .i64 e, vs, bd] 72)).alloc m) w1.heap.size E H U now term k f t n v e vs bd := alloc2_at _ _ _

theorem AnsIs.mono {B B' : Nat} {x : Value} {w : World} {f n : Int} {o : Option (Int × Int × Int)} (h : AnsIs B x w f n o) (hB : B' ≤ B) : AnsIs B' x w f n o := by
  cases o with
  | none => exact h
  | some q => obtain ⟨m, hm, h⟩ := h; exact ⟨m, Nat.le_trans hB hm, h⟩
theorem AnsIs.step {B : Nat} {x : Value} {w w' : World} {f n : Int} {o : Option (Int × Int × Int)} (h : AnsIs B x w f n o) (hb : ∀ k, B ≤ k → w'.heap[k]? = w.heap[k]?) : AnsIs B x w' f n o := by
  cases o with
  | none => exact h
  | some q => obtain ⟨m, hm, hx, h⟩ := h; exact ⟨m, hm, hx, by rw [hb m hm]; exact h⟩

theorem handle_15 (E H U now term f t n v e : Int) (vs bd : Value) (w : World) (E' H' U' : Int) (ans : Option (Int × Int × Int)) (hg : goodB E H U now term f e = true) (ha : Handler 35 E H U now term 15 f t n v e vs bd ((E', H', U'), ans)) :
    Calls Try.prog 12 #[.agg #[.int .i64 E, .int .i64 H, .int .i64 U], .int .i64 now, .int .i64 term, .agg (Msg8 15 f t n v e vs bd)] w (HRet w f n ((E', H', U'), ans)) := by
  unfold Msg8
  have hw : wOk E H U = true := by simp [goodB] at hg; exact hg.1
  have hn : btw now 0 1073741824 = true := by simp [goodB] at hg; exact hg.2.1
  have ht : btw term 1 (1073741824 - now) = true := by simp [goodB] at hg; exact hg.2.2.1
  have hf : btw f 0 3 = true := by simp [goodB] at hg; exact hg.2.2.2.1
  have he : btw e 0 1073741824 = true := by simp [goodB] at hg; exact hg.2.2.2.2
  clear hg
  have hok : (okN true != 0) = false := rfl
  obtain ⟨hn1, hn2⟩ := bw0 _ _ hn
  have hmm := @run_makeMap Try.prog
  have m1 := ins15
  have m2 := ins17
  have m3 := ins18
  have m4 := look15
  have mc := cell_two
  have HA := Lib.hid ha
  clear ha
  go_enter Try.func12, Try.ntmps12
  go_wp2_with (first | (go_at_call 15; refine (check_c _ _ _ _).mono ?_; rw [hw]; rintro r w1 ⟨rfl, hb⟩; obtain ⟨hcq, hfq⟩ := bcell hb; have hz := hb.size; simp at hz; have hz1 : w.heap.size + 1 < w1.heap.size := (by omega); have HB := Lib.hid hb; clear hb) | (go_at_call 32; refine (time_c _ _).mono ?_; rintro r w2 ⟨rfl, rfl⟩) | (go_at_call 33; refine (between_c _ _ _ _).mono ?_; rintro r w2 ⟨rfl, rfl⟩) | (go_at_call 34; refine (site_c _ _).mono ?_; rintro r w2 ⟨rfl, rfl⟩) | (go_at_call 35; refine (HA.out _ _ (req_new _ _)).mono ?_; rintro r w3 ⟨x, rfl, hx, hb, hq⟩; clear hcq hfq m1 m2 m3 m4 mc hmm; have g0 := blk_cell hq 0; have g1 := blk_cell hq 1; have g2 := blk_cell hq 2; simp at g0 g1 g2; have hr := res_block HB.out hb; have r0 := blk_cell hr 0; have r1 := blk_cell hr 1; have r2 := blk_cell hr 2; simp at r0 r1 r2; have s0 := blk_frozen hr 0; have s1 := blk_frozen hr 1; have s2 := blk_frozen hr 2; have HX := Lib.hid hx; have HC := Lib.hid hb; clear hx hb hq hr))
  refine bodyPost_ret (v := .tuple #[.agg #[.int .i64 E', .int .i64 H', .int .i64 U'], x]) (by simp [results, Try.results12, go_sem, r0, r1, r2]) rfl ?_
  have h5 := below5 HB.out HC.out
  refine ⟨_, rfl, (HX.out.step (fun k hk => ?_)).mono (by simp; omega), bl_set (bl_set (bl_set h5 (by omega) _ _) (by omega) _ _) (by omega) _ _⟩
  have hk' : w.heap.size + 1 + 1 < k := by simp at hk; omega
  rw [Below.heap_setCell _ _ _ _ (by simp; omega), Below.heap_setCell _ _ _ _ (by simp; omega), Below.heap_setCell _ _ _ _ (by simp; omega)]

theorem handle_17 (E H U now term f t n v e : Int) (vs bd : Value) (w : World) (E' H' U' : Int) (ans : Option (Int × Int × Int)) (hg : goodB E H U now term f e = true) (ha : Handler 36 E H U now term 17 f t n v e vs bd ((E', H', U'), ans)) :
    Calls Try.prog 12 #[.agg #[.int .i64 E, .int .i64 H, .int .i64 U], .int .i64 now, .int .i64 term, .agg (Msg8 17 f t n v e vs bd)] w (HRet w f n ((E', H', U'), ans)) := by
  unfold Msg8
  have hw : wOk E H U = true := by simp [goodB] at hg; exact hg.1
  have hn : btw now 0 1073741824 = true := by simp [goodB] at hg; exact hg.2.1
  have ht : btw term 1 (1073741824 - now) = true := by simp [goodB] at hg; exact hg.2.2.1
  have hf : btw f 0 3 = true := by simp [goodB] at hg; exact hg.2.2.2.1
  have he : btw e 0 1073741824 = true := by simp [goodB] at hg; exact hg.2.2.2.2
  clear hg
  have hok : (okN true != 0) = false := rfl
  obtain ⟨hn1, hn2⟩ := bw0 _ _ hn
  have hmm := @run_makeMap Try.prog
  have m1 := ins15
  have m2 := ins17
  have m3 := ins18
  have m4 := look17
  have mc := cell_two
  have HA := Lib.hid ha
  clear ha
  go_enter Try.func12, Try.ntmps12
  go_wp2_with (first | (go_at_call 15; refine (check_c _ _ _ _).mono ?_; rw [hw]; rintro r w1 ⟨rfl, hb⟩; obtain ⟨hcq, hfq⟩ := bcell hb; have hz := hb.size; simp at hz; have hz1 : w.heap.size + 1 < w1.heap.size := (by omega); have HB := Lib.hid hb; clear hb) | (go_at_call 32; refine (time_c _ _).mono ?_; rintro r w2 ⟨rfl, rfl⟩) | (go_at_call 33; refine (between_c _ _ _ _).mono ?_; rintro r w2 ⟨rfl, rfl⟩) | (go_at_call 34; refine (site_c _ _).mono ?_; rintro r w2 ⟨rfl, rfl⟩) | (go_at_call 36; refine (HA.out _ _ (req_new _ _)).mono ?_; rintro r w3 ⟨x, rfl, hx, hb, hq⟩; clear hcq hfq m1 m2 m3 m4 mc hmm; have g0 := blk_cell hq 0; have g1 := blk_cell hq 1; have g2 := blk_cell hq 2; simp at g0 g1 g2; have hr := res_block HB.out hb; have r0 := blk_cell hr 0; have r1 := blk_cell hr 1; have r2 := blk_cell hr 2; simp at r0 r1 r2; have s0 := blk_frozen hr 0; have s1 := blk_frozen hr 1; have s2 := blk_frozen hr 2; have HX := Lib.hid hx; have HC := Lib.hid hb; clear hx hb hq hr))
  refine bodyPost_ret (v := .tuple #[.agg #[.int .i64 E', .int .i64 H', .int .i64 U'], x]) (by simp [results, Try.results12, go_sem, r0, r1, r2]) rfl ?_
  have h5 := below5 HB.out HC.out
  refine ⟨_, rfl, (HX.out.step (fun k hk => ?_)).mono (by simp; omega), bl_set (bl_set (bl_set h5 (by omega) _ _) (by omega) _ _) (by omega) _ _⟩
  have hk' : w.heap.size + 1 + 1 < k := by simp at hk; omega
  rw [Below.heap_setCell _ _ _ _ (by simp; omega), Below.heap_setCell _ _ _ _ (by simp; omega), Below.heap_setCell _ _ _ _ (by simp; omega)]

theorem handle_18 (E H U now term f t n v e : Int) (vs bd : Value) (w : World) (E' H' U' : Int) (ans : Option (Int × Int × Int)) (hg : goodB E H U now term f e = true) (ha : Handler 37 E H U now term 18 f t n v e vs bd ((E', H', U'), ans)) :
    Calls Try.prog 12 #[.agg #[.int .i64 E, .int .i64 H, .int .i64 U], .int .i64 now, .int .i64 term, .agg (Msg8 18 f t n v e vs bd)] w (HRet w f n ((E', H', U'), ans)) := by
  unfold Msg8
  have hw : wOk E H U = true := by simp [goodB] at hg; exact hg.1
  have hn : btw now 0 1073741824 = true := by simp [goodB] at hg; exact hg.2.1
  have ht : btw term 1 (1073741824 - now) = true := by simp [goodB] at hg; exact hg.2.2.1
  have hf : btw f 0 3 = true := by simp [goodB] at hg; exact hg.2.2.2.1
  have he : btw e 0 1073741824 = true := by simp [goodB] at hg; exact hg.2.2.2.2
  clear hg
  have hok : (okN true != 0) = false := rfl
  obtain ⟨hn1, hn2⟩ := bw0 _ _ hn
  have hmm := @run_makeMap Try.prog
  have m1 := ins15
  have m2 := ins17
  have m3 := ins18
  have m4 := look18
  have mc := cell_two
  have HA := Lib.hid ha
  clear ha
  go_enter Try.func12, Try.ntmps12
  go_wp2_with (first | (go_at_call 15; refine (check_c _ _ _ _).mono ?_; rw [hw]; rintro r w1 ⟨rfl, hb⟩; obtain ⟨hcq, hfq⟩ := bcell hb; have hz := hb.size; simp at hz; have hz1 : w.heap.size + 1 < w1.heap.size := (by omega); have HB := Lib.hid hb; clear hb) | (go_at_call 32; refine (time_c _ _).mono ?_; rintro r w2 ⟨rfl, rfl⟩) | (go_at_call 33; refine (between_c _ _ _ _).mono ?_; rintro r w2 ⟨rfl, rfl⟩) | (go_at_call 34; refine (site_c _ _).mono ?_; rintro r w2 ⟨rfl, rfl⟩) | (go_at_call 37; refine (HA.out _ _ (req_new _ _)).mono ?_; rintro r w3 ⟨x, rfl, hx, hb, hq⟩; clear hcq hfq m1 m2 m3 m4 mc hmm; have g0 := blk_cell hq 0; have g1 := blk_cell hq 1; have g2 := blk_cell hq 2; simp at g0 g1 g2; have hr := res_block HB.out hb; have r0 := blk_cell hr 0; have r1 := blk_cell hr 1; have r2 := blk_cell hr 2; simp at r0 r1 r2; have s0 := blk_frozen hr 0; have s1 := blk_frozen hr 1; have s2 := blk_frozen hr 2; have HX := Lib.hid hx; have HC := Lib.hid hb; clear hx hb hq hr))
  refine bodyPost_ret (v := .tuple #[.agg #[.int .i64 E', .int .i64 H', .int .i64 U'], x]) (by simp [results, Try.results12, go_sem, r0, r1, r2]) rfl ?_
  have h5 := below5 HB.out HC.out
  refine ⟨_, rfl, (HX.out.step (fun k hk => ?_)).mono (by simp; omega), bl_set (bl_set (bl_set h5 (by omega) _ _) (by omega) _ _) (by omega) _ _⟩
  have hk' : w.heap.size + 1 + 1 < k := by simp at hk; omega
  rw [Below.heap_setCell _ _ _ _ (by simp; omega), Below.heap_setCell _ _ _ _ (by simp; omega), Below.heap_setCell _ _ _ _ (by simp; omega)]

theorem frozen_two (W : World) (x y : Obj) (b o : Nat) (h : b < W.heap.size) : ((W.alloc x).alloc y).frozen? ⟨b, o, none⟩ = W.frozen? ⟨b, o, none⟩ := by
  unfold World.frozen?
  rw [alloc_lt _ _ (by simp; omega), alloc_lt _ _ h]

theorem handle_other (E H U now term k f t n v e : Int) (vs bd : Value) (w : World) (hg : goodB E H U now term f e = true) (k1 : k ≠ 15) (k2 : k ≠ 17) (k3 : k ≠ 18) :
    Calls Try.prog 12 #[.agg #[.int .i64 E, .int .i64 H, .int .i64 U], .int .i64 now, .int .i64 term, .agg (Msg8 k f t n v e vs bd)] w (HRet w f n ((E, H, U), none)) := by
  unfold Msg8
  have hw : wOk E H U = true := by simp [goodB] at hg; exact hg.1
  have hn : btw now 0 1073741824 = true := by simp [goodB] at hg; exact hg.2.1
  have ht : btw term 1 (1073741824 - now) = true := by simp [goodB] at hg; exact hg.2.2.1
  have hf : btw f 0 3 = true := by simp [goodB] at hg; exact hg.2.2.2.1
  have he : btw e 0 1073741824 = true := by simp [goodB] at hg; exact hg.2.2.2.2
  clear hg
  have hok : (okN true != 0) = false := rfl
  obtain ⟨hn1, hn2⟩ := bw0 _ _ hn
  have hmm := @run_makeMap Try.prog
  have m1 := ins15
  have m2 := ins17
  have m3 := ins18
  have m4 := fun w o x y z => lookno w o x y z k k1 k2 k3
  have mc := cell_two
  have mf := frozen_two
  clear k1 k2 k3
  go_enter Try.func12, Try.ntmps12
  go_wp2_with (first | (go_at_call 15; refine (check_c _ _ _ _).mono ?_; rw [hw]; rintro r w1 ⟨rfl, hb⟩; obtain ⟨hcq, hfq⟩ := bcell hb; have hz := hb.size; simp at hz; have hz1 : w.heap.size + 1 < w1.heap.size := (by omega); have hz0 : w.heap.size < w1.heap.size := (by omega); have hz2 : w.heap.size + 1 + 1 < w1.heap.size := (by omega); have HB := Lib.hid hb; clear hb) | (go_at_call 32; refine (time_c _ _).mono ?_; rintro r w2 ⟨rfl, rfl⟩) | (go_at_call 33; refine (between_c _ _ _ _).mono ?_; rintro r w2 ⟨rfl, rfl⟩) | (go_at_call 34; refine (site_c _ _).mono ?_; rintro r w2 ⟨rfl, rfl⟩))
  exact bodyPost_ret (v := .tuple #[.agg #[.int .i64 E, .int .i64 H, .int .i64 U], .slice none 0 0]) (by simp [results, Try.results12, go_sem, hcq, hz2, mc]) rfl ⟨_, rfl, rfl, ((bl_set (bl_set (bl_set (below3 HB.out) (by omega) _ _) (by omega) _ _) (by omega) _ _).alloc (by simp; omega) _).alloc (by simp; omega) _⟩

theorem renew_h (E H U now term k f t n v e : Int) (vs bd : Value) (h1 : 0 ≤ now) (h2 : 1 ≤ term) (h3 : now + term ≤ 1073741824) : Handler 36 E H U now term k f t n v e vs bd (renewS E H U now term f e) := by
  intro W b hq
  unfold renewS
  rcases ho : ownB E H U now f e with _ | _
  · exact renew_no hq ho
  · exact renew_yes hq ho h1 h2 h3

theorem handle_c (E H U now term k f t n v e : Int) (vs bd : Value) (w : World) :
    Calls Try.prog 12 #[.agg #[.int .i64 E, .int .i64 H, .int .i64 U], .int .i64 now, .int .i64 term, .agg (Msg8 k f t n v e vs bd)] w (HRet w f n (handleS E H U now term k f e)) := by
  unfold handleS
  rcases hg : goodB E H U now term f e with _ | _
  · exact handle_bad E H U now term k f t n v e vs bd w hg
  rw [if_pos rfl]
  have hn : btw now 0 1073741824 = true := by simp [goodB] at hg; exact hg.2.1
  have ht : btw term 1 (1073741824 - now) = true := by simp [goodB] at hg; exact hg.2.2.1
  have h1 : 0 ≤ now := by simp [btw] at hn; exact hn.1
  have h2 : 1 ≤ term := by simp [btw] at ht; exact ht.1
  have h3 : now + term ≤ 1073741824 := by simp [btw] at ht; omega
  have hr := renew_h E H U now term k f t n v e vs bd h1 h2 h3
  by_cases k1 : k = 15
  · subst k1
    rw [if_pos rfl]
    rcases ha : acqB E H U now f e with _ | _
    · refine handle_15 E H U now term f t n v e vs bd w _ _ _ _ hg (fun W b hq => ?_)
      refine acquire_no hq ha (fun x w' => AnsIs W.heap.size x w' f n (renewS E H U now term f e).2 ∧ Below b W w' ∧ Req w' b _ _ _ now term 15 f t n v e vs bd) (fun m => ?_)
      refine (hr (W.drewN m) b (hq.drewN m)).mono ?_
      rintro r w' ⟨x, rfl, hx, hb, hq'⟩
      exact ⟨x, rfl, hx, (bl_drewN (Below.refl _ _) m).trans hb, hq'⟩
    · refine handle_15 E H U now term f t n v e vs bd w _ _ _ _ hg (fun W b hq => ?_)
      have ha1 : E < e := by simp [acqB] at ha; exact ha.1
      have ha2 : (!heldB H U now || H == f) = true := by simp [acqB] at ha; simpa using ha.2
      exact acquire_yes hq ha1 ha2 h1 h2 h3
  rw [if_neg k1]
  by_cases k2 : k = 17
  · subst k2
    rw [if_pos rfl]
    exact handle_17 E H U now term f t n v e vs bd w _ _ _ _ hg hr
  rw [if_neg k2]
  by_cases k3 : k = 18
  · subst k3
    rw [if_pos rfl]
    rcases ho : (e == E && f == H) with _ | _
    · refine handle_18 E H U now term f t n v e vs bd w _ _ _ _ hg (fun W b hq => ?_)
      refine (release_no hq ho).mono ?_
      rintro r w' ⟨rfl, m, rfl⟩
      exact ⟨_, rfl, rfl, bl_drewN (Below.refl _ _) m, hq.drewN m⟩
    · refine handle_18 E H U now term f t n v e vs bd w _ _ _ _ hg (fun W b hq => ?_)
      refine (release_yes hq (by simp at ho; simpa using ho.1) (by simp at ho; simpa using ho.2)).mono ?_
      rintro r w' ⟨rfl, hb, hq'⟩
      exact ⟨_, rfl, rfl, hb, hq'⟩
  rw [if_neg k3]
  exact handle_other E H U now term k f t n v e vs bd w hg k1 k2 k3

end Go.Proofs.Ytmgnpjaemjpamaa
