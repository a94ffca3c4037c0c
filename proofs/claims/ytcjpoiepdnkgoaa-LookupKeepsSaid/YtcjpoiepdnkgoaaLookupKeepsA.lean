/- WHAT IS PROVED: part of the proof that posthouselaw11.LookupKeeps returns true at every input and leaves its arguments alone. CONDITIONS: none beyond the row. -/
import Derived.Test.YtcjpoiepdnkgoaaBaseA
import Derived.Test.YtcjpoiepdnkgoaaPA
import Derived.Test.YtcjpoiepdnkgoaaPB
import Derived.Test.YtcjpoiepdnkgoaaPC
import Derived.Test.YtcjpoiepdnkgoaaPD
import Derived.Test.YtcjpoiepdnkgoaaLawA
import Derived.Test.YtcjpoiepdnkgoaaRows
import Derived.ShutString
import Derived.Below
namespace Go.Proofs.Ytcjpoiepdnkgoaa.LookupKeepsDone
open Go.ChangeShapes Go.WideShapes Go.ChangeAt Go.RowKit
open Go.Ph
set_option linter.unusedVariables false
theorem own : ownKnob Try.prog.godebug = none := by kernel_rfl
theorem laidOut : laidOutB Try.prog = true := by kernel_rfl
set_option maxRecDepth 100000 in
theorem lifted (hpure : ∀ (a0 : Overlay) (a1 : Ph.Id) (a2 : Int), -9223372036854775808 ≤ a2 ∧ a2 ≤ 9223372036854775807 → law11_LookupKeeps a0 a1 a2 = some true) (os : Os) (started : os.Started) (H : Type) (enc : TypeId × Value → H) :
    ReturnsInHanded {} Try.checked os 3 .any (Rows.lookupKeepsSpec.pre6 enc Try.prog Try.f3 Rows.lookupKeepsRow.domain false) (Rows.lookupKeepsSpec.post enc Try.prog Try.f3 false true false false) := by
  refine returnsInHanded_of_change (C := Try.checked) own started (by kernel_rfl) Try.func3
    (ChangeSpec.witness6 (enc := enc) (C := Try.checked) false ⟨#[], #[.agg #[.slice none 0 0], .agg (Array.replicate 32 (.int .u8 0)), .int .i64 0], []⟩ 8 (by kernel_rfl) (by kernel_rfl) (by kernel_rfl) (by kernel_rfl)) ?_
  intro W base args ds gs before hval0 hW hcnd _
  have hval : ∀ (j : Nat) t v, Try.f3.params[j]? = some t → args[j]? = some v → Value.okWide Try.prog W .any base t v := hval0
  have hW' := hW
  obtain ⟨p, q, hA0, hV, rfl, hfz, hnd⟩ := hW
  have hA : DataW.TrodAll enc Try.prog W 0 (fun _ => true) true Try.f3.params.toList args.toList ds p := hA0
  rw [Try.params3] at hA hval
  obtain ⟨v0, vs0, d0, ds0, p0, q0, hargs, rfl, rfl, h0, r0⟩ := trodAll_cons hA
  obtain ⟨v1, vs1, d1, ds1, p1, q1, rfl, rfl, rfl, h1, r1⟩ := trodAll_cons r0
  obtain ⟨v2, vs2, d2, ds2, p2, q2, rfl, rfl, rfl, h2, r2⟩ := trodAll_cons r1
  obtain ⟨rfl, rfl, rfl⟩ := trodAll_nil r2
  obtain rfl : args = #[v0, v1, v2] := by cases args; simp_all
  obtain ⟨rfl, rfl⟩ := trodVars_none hV
  have lt0 : ∀ x ∈ p0, x.block < W.heap.size := by obtain ⟨m, hm⟩ := h0; exact DataW.trod_lt m _ _ _ hm
  have lt1 : ∀ x ∈ p1, x.block < W.heap.size := by obtain ⟨m, hm⟩ := h1; exact DataW.trod_lt m _ _ _ hm
  obtain ⟨a0, e0⟩ := vrel_agg rd24 rfl (by rw [Try.underlying24]) (hval 0 24 v0 rfl rfl) h0
  obtain ⟨a1, e1⟩ := vrel_agg rd26 rfl (by rw [Try.underlying26]) (hval 1 26 v1 rfl rfl) h1
  obtain ⟨a2, rfl, rfl, rfl, w2⟩ := open_int Try.underlying3 (hval 2 3 v2 rfl rfl) h2
  have b2 : -9223372036854775808 ≤ a2 ∧ a2 ≤ 9223372036854775807 := by
    have b := w2
    simp only [Lit.wf, Bool.and_eq_true, decide_eq_true_eq] at b
    exact b
  clear hA0 hval0
  refine (law_walk (w := W) (law11_LookupKeeps_ok (hpure a0 a1 a2 b2)) (vs := [v0, v1, .int .i64 a2]) ⟨e0, e1, vint (P := Try.prog) (sn W) b2, trivial⟩).mono fun e W' ⟨he, bel⟩ => ?_
  subst he
  exact ⟨_, rfl, _, _, _, [], _, [], hW', trodAll_mk1 (shut_bool Try.underlying4 _), (trodAll_cons_mk (Below.trod laidOut (by kernel_rfl) (of_decide_eq_true (by kernel_rfl)) h0 bel lt0) (trodAll_cons_mk (Below.trod laidOut (by kernel_rfl) (of_decide_eq_true (by kernel_rfl)) h1 bel lt1) (trodAll_cons_mk (shut_int Try.underlying3 w2) trodAll_mk0))), rfl, bel.frame _, fun h => by cases h⟩
theorem over (hpure : ∀ (a0 : Overlay) (a1 : Ph.Id) (a2 : Int), -9223372036854775808 ≤ a2 ∧ a2 ≤ 9223372036854775807 → law11_LookupKeeps a0 a1 a2 = some true) : Rows.lookupKeepsRow.holds Try.pinned (OpenSpec.ofChange Rows.lookupKeepsSpec) :=
  OpenClaim.holds_of_wide 3 Try.f3 rfl rfl rfl rfl rfl rfl rfl ⟨rfl, rfl, rfl, rfl, rfl⟩ rfl rfl rfl rfl rfl (by kernel_rfl) Try.func3 (by kernel_rfl)
    (of_decide_eq_true (by kernel_rfl)) (by unfold Func.isWrapper; first | (rw [if_pos (by decide +kernel)]; kernel_rfl) | (rw [if_neg (by decide +kernel)]; exact ⟨rfl, rfl⟩))
    (fun os started H enc _ => lifted hpure os started H enc)
/-- The law of the keepers. -/
theorem proved : Rows.LookupKeepsSaid := over keeps_true
#print axioms proved
end Go.Proofs.Ytcjpoiepdnkgoaa.LookupKeepsDone
