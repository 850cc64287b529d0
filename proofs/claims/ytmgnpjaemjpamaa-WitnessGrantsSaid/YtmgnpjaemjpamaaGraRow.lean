/- The statement WitnessGrantsSaid: for every input the law returns true, and each argument reads as it read. No condition. -/
import Derived.Test.YtmgnpjaemjpamaaRows
import Derived.Test.YtmgnpjaemjpamaaR
import Derived.Test.YtmgnpjaemjpamaaAV0
import Derived.Test.YtmgnpjaemjpamaaAV1
import Derived.Test.YtmgnpjaemjpamaaAV2
import Derived.Test.YtmgnpjaemjpamaaAR
import Derived.Test.YtmgnpjaemjpamaaAS
import Derived.WalkKit
import Derived.ProofKit
import Derived.OpenShut
import Derived.ShutString
import Derived.ChangeOld
import Derived.Below
import Derived.SizedLaws
set_option linter.unusedSimpArgs false
set_option linter.unusedVariables false
namespace Go.Proofs.Ytmgnpjaemjpamaa
namespace witnessGrants
open Go.ChangeShapes Go.WideShapes Go.ChangeAt Go.RowKit
open Go.ChangeMaps (open_string shut_string)
theorem own : ownKnob Try.prog.godebug = none := by kernel_rfl
theorem laidOut : laidOutB Try.prog = true := by kernel_rfl
theorem open5 {H : Type} {enc : TypeId × Value → H} {w : World} {base : Nat} {spare : Nat → Bool} {held : Bool} {v : Value} {d : DataW H} {p : List MemPlace} (h : DataW.Trod enc Try.prog w base spare held 5 v d p) (hv : ∃ n, v = .int .u8 n) : ∃ n : Nat, n < 256 ∧ v = .int .u8 n := by
  obtain ⟨n0, rfl⟩ := hv
  obtain ⟨fuel, h⟩ := h
  obtain ⟨n, hn, e⟩ := byte1 h
  simp [Value.cells] at e
  exact ⟨n, hn, by rw [e]⟩
theorem gra_total (w : World) (Ea : Option Addr) (n c site : Nat) (ev : Nat → Nat × Nat × Nat) (hev : EvAt w Ea n ev) (hs : site < 256) :
    Calls Try.prog 9 #[.slice Ea n c, .int .u8 site] w fun r w' => r = .returned (.bool true) ∧ Below w.heap.size w w' := by
  rcases Nat.lt_or_ge 60 n with h | h
  · exact gra_big w Ea n c site (by omega)
  · rcases (by omega : site % 3 = 0 ∨ site % 3 = 1 ∨ site % 3 = 2) with e | e | e
    · exact gra_walk0 w Ea n c site ev hev h (site_mod site hs 0 e)
    · exact gra_walk1 w Ea n c site ev hev h (site_mod site hs 1 e)
    · exact gra_walk2 w Ea n c site ev hev h (site_mod site hs 2 e)
set_option maxRecDepth 100000 in
theorem lifted (os : Os) (started : os.Started) (H : Type) (enc : TypeId × Value → H) :
    ReturnsInHanded {} Try.checked os 9 .any (Rows.witnessGrantsSpec.pre6 enc Try.prog Try.f9 Rows.witnessGrantsRow.domain false) (Rows.witnessGrantsSpec.post enc Try.prog Try.f9 false true false false) := by
  refine returnsInHanded_of_change_sized (C := Try.checked) own started (by kernel_rfl) Try.func9
    (ChangeSpec.witness6 (enc := enc) (C := Try.checked) false ⟨#[], #[.slice none 0 0, .int .u8 0], []⟩ 8 (by kernel_rfl) (by kernel_rfl) (by kernel_rfl) (by kernel_rfl)) ?_
  intro W base args ds gs before hval0 hW hcnd hsz0 _
  have hsz : (DataW.weightsEach Try.prog (Try.f9.params.toList ++ Rows.witnessGrantsSpec.plain.varTypes Try.prog) (ds ++ gs)).all (· ≤ reachBytes) = true := hsz0
  have hval : ∀ (j : Nat) t v, Try.f9.params[j]? = some t → args[j]? = some v → Value.okWide Try.prog W .any base t v := hval0
  have hW' := hW
  obtain ⟨p, q, hA0, hV, rfl, hfz, hnd⟩ := hW
  have hA : DataW.TrodAll enc Try.prog W 0 (fun _ => true) true Try.f9.params.toList args.toList ds p := hA0
  rw [Try.params9] at hA hval hsz
  obtain ⟨v0, vs0, d0, ds0, p0, q0, hargs, rfl, rfl, h0, r0⟩ := trodAll_cons hA
  obtain ⟨v1, vs1, d1, ds1, p1, q1, rfl, rfl, rfl, h1, r1⟩ := trodAll_cons r0
  obtain ⟨rfl, rfl, rfl⟩ := trodAll_nil r1
  obtain rfl : args = #[v0, v1] := by cases args; simp_all
  obtain ⟨rfl, rfl⟩ := trodVars_none hV
  have k0 := h0
  have lt0 : ∀ x ∈ p0, x.block < W.heap.size := by obtain ⟨m, hm⟩ := k0; exact DataW.trod_lt m _ _ _ hm
  have hv0 := hval 0 54 v0 rfl rfl
  have k1 := h1
  have lt1 : ∀ x ∈ p1, x.block < W.heap.size := by obtain ⟨m, hm⟩ := k1; exact DataW.trod_lt m _ _ _ hm
  have hv1 := hval 1 5 v1 rfl rfl
  obtain ⟨Ea, n, c, ev, rfl, hev⟩ := open54 k0 (okWide_slice Try.underlying54 hv0)
  obtain ⟨site, hsite, rfl⟩ := open5 k1 (okWide_int Try.underlying5 hv1)
  clear hA0 hval0 hsz0 hsz
  refine (gra_total W Ea n c site ev hev hsite).mono fun e W' ⟨he, bel⟩ => ?_
  subst he
  exact ⟨_, rfl, _, _, _, [], _, [], hW', trodAll_mk1 (shut_bool Try.underlying4 _), (trodAll_cons_mk (Below.trod laidOut (by kernel_rfl) (of_decide_eq_true (by kernel_rfl)) k0 bel lt0) (trodAll_cons_mk (Below.trod laidOut (by kernel_rfl) (of_decide_eq_true (by kernel_rfl)) k1 bel lt1) trodAll_mk0)), rfl, bel.frame _, fun h => by cases h⟩
theorem over : Rows.witnessGrantsRow.holds Try.pinned (OpenSpec.ofChange Rows.witnessGrantsSpec) :=
  OpenClaim.holds_of_wide 9 Try.f9 rfl rfl rfl rfl rfl rfl rfl ⟨rfl, rfl, rfl, rfl, rfl⟩ rfl rfl rfl rfl rfl (by kernel_rfl) Try.func9 (by kernel_rfl)
    (of_decide_eq_true (by kernel_rfl)) (by unfold Func.isWrapper; first | (rw [if_pos (by decide +kernel)]; kernel_rfl) | (rw [if_neg (by decide +kernel)]; exact ⟨rfl, rfl⟩))
    (fun os started H enc _ => lifted os started H enc)
theorem proved : Rows.WitnessGrantsSaid := over
#print axioms proved
end witnessGrants
/-- The statement, under a short name. -/
theorem witnessGrants_holds : Rows.WitnessGrantsSaid := witnessGrants.proved
end Go.Proofs.Ytmgnpjaemjpamaa
