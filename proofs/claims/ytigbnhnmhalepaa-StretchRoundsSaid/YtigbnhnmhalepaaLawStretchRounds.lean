/- More rounds of a stretched PIN are the fewer ones and the rest: for every text, salt, number; no condition. -/
import Derived.Test.YtigbnhnmhalepaaRows
import Derived.Test.YtigbnhnmhalepaaCon
import Derived.WalkKit
import Derived.ProofKit
import Derived.OpenShut
import Derived.ShutString
import Derived.ChangeOld
import Derived.Below
import Derived.SizedLaws
import Derived.Carry
namespace Go.Proofs.Ytigbnhnmhalepaa.stretchRounds
open Go.ChangeShapes Go.WideShapes Go.ChangeAt Go.RowKit Ev
set_option linter.all false
theorem own : ownKnob Try.prog.godebug = none := by kernel_rfl
theorem laidOut : laidOutB Try.prog = true := by kernel_rfl
theorem hks : Try.f3.params.toList.mapM (argK Try.prog) = some [.one (.str), .agg (List.replicate 16 (.int .u8)), .one (.int .i64)] := by rfl
theorem hrun : ∀ args : List D, args.length = ([.one (.str), .agg (List.replicate 16 (.int .u8)), .one (.int .i64)] : List AK).length → (∀ (i : Nat) k d, ([.one (.str), .agg (List.replicate 16 (.int .u8)), .one (.int .i64)] : List AK)[i]? = some k → args[i]? = some d → ArgOk k d) → ∃ n, (E_law3_StretchRounds 5 6 7 8).run S n (args.map D.nm) [] = some (.bool true, []) := by
  intro args hl hk
  obtain ⟨d0, r0, rfl, k0, hl, hk⟩ := args_cons hl hk
  obtain ⟨d1, r1, rfl, k1, hl, hk⟩ := args_cons hl hk
  obtain ⟨d2, r2, rfl, k2, hl, hk⟩ := args_cons hl hk
  obtain rfl := args_nil hl
  obtain ⟨s, e0, _⟩ := k0.str
  obtain ⟨a, e1, ha⟩ := ArgOk.ar k1
  obtain ⟨n, e2, hn⟩ := k2.i64
  simp only [List.map_cons, List.map_nil, e0, e1, e2]
  exact run_StretchRounds S _ _ _ _ hS5 hS6 hS7 hS8 s a n ha hn
set_option maxRecDepth 100000 in
theorem lifted (os : Os) (started : os.Started) (H : Type) (enc : TypeId × Value → H) :
    ReturnsInHanded {} Try.checked os 3 .any (Rows.stretchRoundsSpec.pre6 enc Try.prog Try.f3 Rows.stretchRoundsRow.domain false) (Rows.stretchRoundsSpec.post enc Try.prog Try.f3 false true false false) := by
  refine returnsInHanded_of_change_sized (C := Try.checked) own started (by kernel_rfl) Try.func3
    (ChangeSpec.witness6 (enc := enc) (C := Try.checked) false ⟨#[], #[.string ByteArray.empty, .agg (Array.replicate 16 (.int .u8 0)), .int .i64 0], []⟩ 60 (by kernel_rfl) (by kernel_rfl) (by kernel_rfl) (by kernel_rfl)) ?_
  intro W base args ds gs before hval0 hW hcnd hsz0 _
  have hval : ∀ (j : Nat) t v, Try.f3.params[j]? = some t → args[j]? = some v → Value.okWide Try.prog W .any base t v := hval0
  have hW' := hW
  obtain ⟨p, q, hA0, hV, rfl, hfz, hnd⟩ := hW
  obtain ⟨rfl, rfl⟩ := trodVars_none hV
  have hsz : (DataW.weightsEach Try.prog (Try.f3.params.toList ++ []) (ds ++ [])).all (· ≤ reachBytes) = true := hsz0
  rw [List.append_nil, List.append_nil] at hsz
  have hcall := law_calls' (S := S) (b0 := base) hm Try.func3 ok3 hC3 hks hrun hA0 hval hsz
  have hA : DataW.TrodAll enc Try.prog W 0 (fun _ => true) true Try.f3.params.toList args.toList ds p := hA0
  rw [Try.params3] at hA
  obtain ⟨v0, vs0, d0, ds0, p0, q0, hargs, rfl, rfl, h0, r0⟩ := trodAll_cons hA
  obtain ⟨v1, vs1, d1, ds1, p1, q1, rfl, rfl, rfl, h1, r1⟩ := trodAll_cons r0
  obtain ⟨v2, vs2, d2, ds2, p2, q2, rfl, rfl, rfl, h2, r2⟩ := trodAll_cons r1
  obtain ⟨rfl, rfl, rfl⟩ := trodAll_nil r2
  obtain rfl : args = #[v0, v1, v2] := by cases args; simp_all
  refine hcall.mono fun e W' ⟨he, bel⟩ => ?_
  subst he
  exact ⟨_, rfl, _, _, _, [], _, [], hW', trodAll_mk1 (shut_bool Try.underlying4 _), (trodAll_cons_mk (Below.trod laidOut (by kernel_rfl) (of_decide_eq_true (by kernel_rfl)) h0 bel (trod_lts h0)) (trodAll_cons_mk (Below.trod laidOut (by kernel_rfl) (of_decide_eq_true (by kernel_rfl)) h1 bel (trod_lts h1)) (trodAll_cons_mk (Below.trod laidOut (by kernel_rfl) (of_decide_eq_true (by kernel_rfl)) h2 bel (trod_lts h2)) trodAll_mk0))), rfl, bel.frame _, fun h => by cases h⟩
theorem over : Rows.stretchRoundsRow.holds Try.pinned (OpenSpec.ofChange Rows.stretchRoundsSpec) :=
  OpenClaim.holds_of_wide 3 Try.f3 rfl rfl rfl rfl rfl rfl rfl ⟨rfl, rfl, rfl, rfl, rfl⟩ rfl rfl rfl rfl rfl (by kernel_rfl) Try.func3 (by kernel_rfl)
    (of_decide_eq_true (by kernel_rfl)) (by unfold Func.isWrapper; first | (rw [if_pos (by decide +kernel)]; kernel_rfl) | (rw [if_neg (by decide +kernel)]; exact ⟨rfl, rfl⟩))
    (fun os started H enc _ => lifted os started H enc)
theorem proved : Rows.StretchRoundsSaid := over
#print axioms proved
end Go.Proofs.Ytigbnhnmhalepaa.stretchRounds
namespace Go.Proofs.Ytigbnhnmhalepaa
/-- The row, under a short name, for the claim. -/
theorem stretchRounds_holds : Rows.StretchRoundsSaid := stretchRounds.proved
end Go.Proofs.Ytigbnhnmhalepaa
