/- The statement WitnessLearnsSaid: for every input the law returns true, and each argument reads as it read. No condition. -/
import Derived.Test.YtmgnpjaemjpamaaRows
import Derived.Test.YtmgnpjaemjpamaaR
import Derived.Test.YtmgnpjaemjpamaaT
import Derived.WalkKit
import Derived.ProofKit
import Derived.OpenShut
import Derived.ShutString
import Derived.ChangeOld
import Derived.Below
import Derived.SizedLaws
set_option linter.unusedSimpArgs false
set_option linter.unusedVariables false
namespace Go.Proofs.Ytmgnpjaemjpamaa
namespace witnessLearns
open Go.ChangeShapes Go.WideShapes Go.ChangeAt Go.RowKit
open Go.ChangeMaps (open_string shut_string)
theorem own : ownKnob Try.prog.godebug = none := by kernel_rfl
theorem laidOut : laidOutB Try.prog = true := by kernel_rfl
theorem walk (S E U k f t n v e now term sent margin : Int) (A B : Option Addr) (l c m d : Nat) (w : World) :
    Calls Try.prog 4 #[.agg #[.int .i64 S, .int .i64 E, .int .i64 U], .agg #[.int .i64 k, .int .i64 f, .int .i64 t, .int .i64 n, .int .i64 v, .int .i64 e, .slice A l c, .slice B m d, .int .i64 now, .int .i64 term, .int .i64 sent, .int .i64 margin]] w fun r w' => r = .returned (.bool true) ∧ Below w.heap.size w w' := by
  rcases hf : fewB l m with _ | _
  · exact learns_few S E U k f t n v e now term sent margin A B l c m d w hf
  · rcases hh : learnS S E U sent term margin k t v e with ⟨E', U'⟩
    exact learns_yes S E U k f t n v e now term sent margin A B l c m d w hf E' U' hh
set_option maxRecDepth 100000 in
theorem lifted (os : Os) (started : os.Started) (H : Type) (enc : TypeId × Value → H) :
    ReturnsInHanded {} Try.checked os 4 .any (Rows.witnessLearnsSpec.pre6 enc Try.prog Try.f4 Rows.witnessLearnsRow.domain false) (Rows.witnessLearnsSpec.post enc Try.prog Try.f4 false true false false) := by
  refine returnsInHanded_of_change_sized (C := Try.checked) own started (by kernel_rfl) Try.func4
    (ChangeSpec.witness6 (enc := enc) (C := Try.checked) false ⟨#[], #[.agg #[.int .i64 0, .int .i64 0, .int .i64 0], .agg #[.int .i64 0, .int .i64 0, .int .i64 0, .int .i64 0, .int .i64 0, .int .i64 0, .slice none 0 0, .slice none 0 0, .int .i64 0, .int .i64 0, .int .i64 0, .int .i64 0]], []⟩ 8 (by kernel_rfl) (by kernel_rfl) (by kernel_rfl) (by kernel_rfl)) ?_
  intro W base args ds gs before hval0 hW hcnd hsz0 _
  have hsz : (DataW.weightsEach Try.prog (Try.f4.params.toList ++ Rows.witnessLearnsSpec.plain.varTypes Try.prog) (ds ++ gs)).all (· ≤ reachBytes) = true := hsz0
  have hval : ∀ (j : Nat) t v, Try.f4.params[j]? = some t → args[j]? = some v → Value.okWide Try.prog W .any base t v := hval0
  have hW' := hW
  obtain ⟨p, q, hA0, hV, rfl, hfz, hnd⟩ := hW
  have hA : DataW.TrodAll enc Try.prog W 0 (fun _ => true) true Try.f4.params.toList args.toList ds p := hA0
  rw [Try.params4] at hA hval hsz
  obtain ⟨v0, vs0, d0, ds0, p0, q0, hargs, rfl, rfl, h0, r0⟩ := trodAll_cons hA
  obtain ⟨v1, vs1, d1, ds1, p1, q1, rfl, rfl, rfl, h1, r1⟩ := trodAll_cons r0
  obtain ⟨rfl, rfl, rfl⟩ := trodAll_nil r1
  obtain rfl : args = #[v0, v1] := by cases args; simp_all
  obtain ⟨rfl, rfl⟩ := trodVars_none hV
  have k0 := h0
  have lt0 : ∀ x ∈ p0, x.block < W.heap.size := by obtain ⟨m, hm⟩ := k0; exact DataW.trod_lt m _ _ _ hm
  have hv0 := hval 0 41 v0 rfl rfl
  have k1 := h1
  have lt1 : ∀ x ∈ p1, x.block < W.heap.size := by obtain ⟨m, hm⟩ := k1; exact DataW.trod_lt m _ _ _ hm
  have hv1 := hval 1 29 v1 rfl rfl
  obtain ⟨S, E, U, rfl⟩ := open41 hv0
  obtain ⟨k, f, t, n, v_, e, XA, Xl, Xc, YA, Yl, Yc, now, term, sent, margin, rfl⟩ := open29 hv1
  clear hA0 hval0 hsz0 hsz
  refine (walk S E U k f t n v_ e now term sent margin XA YA Xl Xc Yl Yc W).mono fun e W' ⟨he, bel⟩ => ?_
  subst he
  exact ⟨_, rfl, _, _, _, [], _, [], hW', trodAll_mk1 (shut_bool Try.underlying4 _), (trodAll_cons_mk (Below.trod laidOut (by kernel_rfl) (of_decide_eq_true (by kernel_rfl)) k0 bel lt0) (trodAll_cons_mk (Below.trod laidOut (by kernel_rfl) (of_decide_eq_true (by kernel_rfl)) k1 bel lt1) trodAll_mk0)), rfl, bel.frame _, fun h => by cases h⟩
theorem over : Rows.witnessLearnsRow.holds Try.pinned (OpenSpec.ofChange Rows.witnessLearnsSpec) :=
  OpenClaim.holds_of_wide 4 Try.f4 rfl rfl rfl rfl rfl rfl rfl ⟨rfl, rfl, rfl, rfl, rfl⟩ rfl rfl rfl rfl rfl (by kernel_rfl) Try.func4 (by kernel_rfl)
    (of_decide_eq_true (by kernel_rfl)) (by unfold Func.isWrapper; first | (rw [if_pos (by decide +kernel)]; kernel_rfl) | (rw [if_neg (by decide +kernel)]; exact ⟨rfl, rfl⟩))
    (fun os started H enc _ => lifted os started H enc)
theorem proved : Rows.WitnessLearnsSaid := over
#print axioms proved
end witnessLearns
/-- The statement, under a short name. -/
theorem witnessLearns_holds : Rows.WitnessLearnsSaid := witnessLearns.proved
end Go.Proofs.Ytmgnpjaemjpamaa
