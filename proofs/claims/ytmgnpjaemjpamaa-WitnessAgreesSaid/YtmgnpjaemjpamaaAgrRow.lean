/- The statement WitnessAgreesSaid: for every input the law returns true, and each argument reads as it read. No condition. -/
import Derived.Test.YtmgnpjaemjpamaaRows
import Derived.Test.YtmgnpjaemjpamaaR
import Derived.Test.YtmgnpjaemjpamaaAQ
import Derived.Test.YtmgnpjaemjpamaaAR
import Derived.Test.YtmgnpjaemjpamaaAS
import Derived.WalkKit
import Derived.ProofKit
import Derived.OpenShut
import Derived.ShutString
import Derived.ChangeOld
import Derived.Below
import Derived.SizedLaws
set_option linter.unusedSimpArgs false
set_option linter.unusedVariables false
namespace Go.Proofs.Ytmgnpjaemjpamaa
namespace witnessAgrees
open Go.ChangeShapes Go.WideShapes Go.ChangeAt Go.RowKit
open Go.ChangeMaps (open_string shut_string)
theorem own : ownKnob Try.prog.godebug = none := by kernel_rfl
theorem laidOut : laidOutB Try.prog = true := by kernel_rfl
theorem agr_total (w : World) (Ea : Option Addr) (n c : Nat) (ev : Nat → Nat × Nat × Nat) (hev : EvAt w Ea n ev) :
    Calls Try.prog 7 #[.slice Ea n c] w fun r w' => r = .returned (.bool true) ∧ Below w.heap.size w w' := by
  rcases Nat.lt_or_ge 60 n with h | h
  · exact agr_big w Ea n c (by omega)
  · exact agr_walk w Ea n c ev hev h
set_option maxRecDepth 100000 in
theorem lifted (os : Os) (started : os.Started) (H : Type) (enc : TypeId × Value → H) :
    ReturnsInHanded {} Try.checked os 7 .any (Rows.witnessAgreesSpec.pre6 enc Try.prog Try.f7 Rows.witnessAgreesRow.domain false) (Rows.witnessAgreesSpec.post enc Try.prog Try.f7 false true false false) := by
  refine returnsInHanded_of_change_sized (C := Try.checked) own started (by kernel_rfl) Try.func7
    (ChangeSpec.witness6 (enc := enc) (C := Try.checked) false ⟨#[], #[.slice none 0 0], []⟩ 8 (by kernel_rfl) (by kernel_rfl) (by kernel_rfl) (by kernel_rfl)) ?_
  intro W base args ds gs before hval0 hW hcnd hsz0 _
  have hsz : (DataW.weightsEach Try.prog (Try.f7.params.toList ++ Rows.witnessAgreesSpec.plain.varTypes Try.prog) (ds ++ gs)).all (· ≤ reachBytes) = true := hsz0
  have hval : ∀ (j : Nat) t v, Try.f7.params[j]? = some t → args[j]? = some v → Value.okWide Try.prog W .any base t v := hval0
  have hW' := hW
  obtain ⟨p, q, hA0, hV, rfl, hfz, hnd⟩ := hW
  have hA : DataW.TrodAll enc Try.prog W 0 (fun _ => true) true Try.f7.params.toList args.toList ds p := hA0
  rw [Try.params7] at hA hval hsz
  obtain ⟨v0, vs0, d0, ds0, p0, q0, hargs, rfl, rfl, h0, r0⟩ := trodAll_cons hA
  obtain ⟨rfl, rfl, rfl⟩ := trodAll_nil r0
  obtain rfl : args = #[v0] := by cases args; simp_all
  obtain ⟨rfl, rfl⟩ := trodVars_none hV
  have k0 := h0
  have lt0 : ∀ x ∈ p0, x.block < W.heap.size := by obtain ⟨m, hm⟩ := k0; exact DataW.trod_lt m _ _ _ hm
  have hv0 := hval 0 54 v0 rfl rfl
  obtain ⟨Ea, n, c, ev, rfl, hev⟩ := open54 k0 (okWide_slice Try.underlying54 hv0)
  clear hA0 hval0 hsz0 hsz
  refine (agr_total W Ea n c ev hev).mono fun e W' ⟨he, bel⟩ => ?_
  subst he
  exact ⟨_, rfl, _, _, _, [], _, [], hW', trodAll_mk1 (shut_bool Try.underlying4 _), (trodAll_cons_mk (Below.trod laidOut (by kernel_rfl) (of_decide_eq_true (by kernel_rfl)) k0 bel lt0) trodAll_mk0), rfl, bel.frame _, fun h => by cases h⟩
theorem over : Rows.witnessAgreesRow.holds Try.pinned (OpenSpec.ofChange Rows.witnessAgreesSpec) :=
  OpenClaim.holds_of_wide 7 Try.f7 rfl rfl rfl rfl rfl rfl rfl ⟨rfl, rfl, rfl, rfl, rfl⟩ rfl rfl rfl rfl rfl (by kernel_rfl) Try.func7 (by kernel_rfl)
    (of_decide_eq_true (by kernel_rfl)) (by unfold Func.isWrapper; first | (rw [if_pos (by decide +kernel)]; kernel_rfl) | (rw [if_neg (by decide +kernel)]; exact ⟨rfl, rfl⟩))
    (fun os started H enc _ => lifted os started H enc)
theorem proved : Rows.WitnessAgreesSaid := over
#print axioms proved
end witnessAgrees
/-- The statement, under a short name. -/
theorem witnessAgrees_holds : Rows.WitnessAgreesSaid := witnessAgrees.proved
end Go.Proofs.Ytmgnpjaemjpamaa
