/- PinBack returns true for every two numbers, and leaves its arguments as they were; no condition. -/
import Derived.Test.YtmblcdbpjdjcpaaRows
import Derived.WalkKit
import Derived.ProofKit
import Derived.OpenShut
import Derived.ShutString
import Derived.ChangeOld
import Derived.Below
import Derived.Test.YtmblcdbpjdjcpaaPinAwake
namespace Go.Proofs.Ytmblcdbpjdjcpaa.pinBack
open Go.ChangeShapes Go.WideShapes Go.ChangeAt Go.RowKit
open Go.ChangeMaps (open_string shut_string)
set_option linter.unusedVariables false
set_option linter.unusedSimpArgs false

theorem own : ownKnob Try.prog.godebug = none := by kernel_rfl
theorem laidOut : laidOutB Try.prog = true := by kernel_rfl

set_option maxHeartbeats 4000000 in
set_option maxRecDepth 100000 in
theorem walk (a0 : Int) (a1 : Int) (w : World) (w0 : (Lit.int .i64 a0).wf = true) (w1 : (Lit.int .i64 a1).wf = true) :
    Calls Try.prog 4 #[.int .i64 a0, .int .i64 a1] w fun e w' => e = .returned (.bool true) ∧ Below w.heap.size w w' := by
  obtain ⟨he0, he1⟩ := Base.wf_i64_bounds w0
  obtain ⟨hf0, hf1⟩ := Base.wf_i64_bounds w1
  by_cases hg : 0 ≤ a0 ∧ a0 ≤ 1099511627776 ∧ 0 ≤ a1 ∧ a1 ≤ 1099511627776
  · obtain ⟨g0, g1, g2, g3⟩ := hg
    have hB := fun w => Pin.blocks_any w (a0 + 1) a1 (by omega)
    have hB0 := fun w => Pin.blocks_any w 0 a1 (by omega)
    have e1 : Pin.blk (a0 + 1) a1 = decide (a0 ≤ a1) := by unfold Pin.blk; by_cases h : a0 ≤ a1 <;> simp <;> omega
    have e2 : Pin.blk 0 a1 = false := by rw [Pin.blk_false]; omega
    rw [e1] at hB
    rw [e2] at hB0
    clear e1 e2
    go_enter Try.func4, Try.ntmps4
    go_wp2_with fail
    refine (Ref09.awake_any _).mono ?_
    rintro e v2 ⟨rfl, hb2⟩
    go_wp2_with fail
    refine (Pin.word_any _ a0 g0 (by omega)).mono ?_
    rintro e v3 ⟨rfl, rfl⟩
    go_wp2_with fail
    refine (Pin.epoch_yes _ (a0 + 1) (by omega) (by omega)).mono ?_
    rintro e v3 ⟨rfl, rfl⟩
    go_wp2_with fail
    refine (hB _).mono ?_
    rintro e v3 ⟨rfl, rfl⟩
    go_wp2_with fail
    refine (hB0 _).mono ?_
    rintro e v3 ⟨rfl, rfl⟩
    go_wp2_with fail
    go_ret
    exact ⟨rfl, hb2⟩
  · go_enter Try.func4, Try.ntmps4
    go_wp2_with fail
    refine (Ref09.awake_any _).mono ?_
    rintro e v2 ⟨rfl, hb2⟩
    go_wp2_with fail
    all_goals go_ret
    all_goals exact ⟨rfl, hb2⟩

set_option maxRecDepth 100000 in
theorem lifted (os : Os) (started : os.Started) (H : Type) (enc : TypeId × Value → H) :
    ReturnsInHanded {} Try.checked os 4 .any (Rows.pinBackSpec.pre6 enc Try.prog Try.f4 Rows.pinBackRow.domain false) (Rows.pinBackSpec.post enc Try.prog Try.f4 false true false false) := by
  refine returnsInHanded_of_change (C := Try.checked) own started (by kernel_rfl) Try.func4
    (ChangeSpec.witness6 (enc := enc) (C := Try.checked) false ⟨#[], #[.int .i64 0, .int .i64 0], []⟩ 8 (by kernel_rfl) (by kernel_rfl) (by kernel_rfl) (by kernel_rfl)) ?_
  intro W base args ds gs before hval0 hW hcnd _
  have hval : ∀ (j : Nat) t v, Try.f4.params[j]? = some t → args[j]? = some v → Value.okWide Try.prog W .any base t v := hval0
  have hW' := hW
  obtain ⟨p, q, hA0, hV, rfl, hfz, hnd⟩ := hW
  have hA : DataW.TrodAll enc Try.prog W 0 (fun _ => true) true Try.f4.params.toList args.toList ds p := hA0
  rw [Try.params4] at hA hval
  obtain ⟨v0, vs0, d0, ds0, p0, q0, hargs, rfl, rfl, h0, r0⟩ := trodAll_cons hA
  obtain ⟨v1, vs1, d1, ds1, p1, q1, rfl, rfl, rfl, h1, r1⟩ := trodAll_cons r0
  obtain ⟨rfl, rfl, rfl⟩ := trodAll_nil r1
  obtain rfl : args = #[v0, v1] := by cases args; simp_all
  obtain ⟨rfl, rfl⟩ := trodVars_none hV
  obtain ⟨a0, rfl, rfl, rfl, w0⟩ := open_int Try.underlying3 (hval 0 3 v0 rfl rfl) h0
  obtain ⟨a1, rfl, rfl, rfl, w1⟩ := open_int Try.underlying3 (hval 1 3 v1 rfl rfl) h1
  clear hA0 hval0
  refine (walk a0 a1 W w0 w1).mono fun e W' ⟨he, bel⟩ => ?_
  subst he
  exact ⟨_, rfl, _, _, _, [], _, [], hW', trodAll_mk1 (shut_bool Try.underlying4 _), (trodAll_cons_mk (shut_int Try.underlying3 w0) (trodAll_cons_mk (shut_int Try.underlying3 w1) trodAll_mk0)), rfl, bel.frame _, fun h => by cases h⟩

theorem over : Rows.pinBackRow.holds Try.pinned (OpenSpec.ofChange Rows.pinBackSpec) :=
  OpenClaim.holds_of_wide 4 Try.f4 rfl rfl rfl rfl rfl rfl rfl ⟨rfl, rfl, rfl, rfl, rfl⟩ rfl rfl rfl rfl rfl (by kernel_rfl) Try.func4 (by kernel_rfl)
    (of_decide_eq_true (by kernel_rfl)) (by unfold Func.isWrapper; first | (rw [if_pos (by decide +kernel)]; kernel_rfl) | (rw [if_neg (by decide +kernel)]; exact ⟨rfl, rfl⟩))
    (fun os started H enc _ => lifted os started H enc)

theorem proved : Rows.PinBackSaid := over
#print axioms proved
end Go.Proofs.Ytmblcdbpjdjcpaa.pinBack
