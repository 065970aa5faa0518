/- ClockLeft returns true for every three numbers, and leaves its arguments as they were; no condition. -/
import Derived.Test.YtnfgmlocibmegaaRows
import Derived.WalkKit
import Derived.ProofKit
import Derived.OpenShut
import Derived.ShutString
import Derived.ChangeOld
import Derived.Below
import Derived.Test.YtnfgmlocibmegaaClockLaws
import Derived.Lib.Hide
namespace Go.Proofs.Ytnfgmlocibmegaa.clockLeft
open Go.ChangeShapes Go.WideShapes Go.ChangeAt Go.RowKit
open Go.ChangeMaps (open_string shut_string)
set_option linter.unusedVariables false
set_option linter.unusedSimpArgs false

theorem own : ownKnob Try.prog.godebug = none := by kernel_rfl
theorem laidOut : laidOutB Try.prog = true := by kernel_rfl

set_option maxHeartbeats 4000000 in
theorem walk (a0 : Int) (a1 : Int) (a2 : Int) (w : World) (w0 : (Lit.int .i64 a0).wf = true) (w1 : (Lit.int .i64 a1).wf = true) (w2 : (Lit.int .i64 a2).wf = true) :
    Calls Try.prog 6 #[.int .i64 a0, .int .i64 a1, .int .i64 a2] w fun e w' => e = .returned (.bool true) ∧ Below w.heap.size w w' := by
  obtain ⟨ha0, ha1⟩ := Base.wf_i64_bounds w0
  obtain ⟨hn0, hn1⟩ := Base.wf_i64_bounds w1
  obtain ⟨hd0, hd1⟩ := Base.wf_i64_bounds w2
  by_cases hg : 0 ≤ a0 ∧ 0 ≤ a1 ∧ 0 ≤ a2 ∧ a0 ≤ 1073741824 ∧ a1 ≤ 1073741824 ∧ a2 ≤ 1073741824
  · obtain ⟨g0, g1, g2, g3, g4, g5⟩ := hg
    have Ht := Lib.hid (show Clock.tick 0 a0 = a0 by unfold Clock.tick; omega)
    have Ht2 := Lib.hid (show Clock.tick a0 a1 = a0 + a1 by unfold Clock.tick; omega)
    have hA : a0 ≤ 1099511627776 := by omega
    have hB : 0 ≤ a0 + a1 := by omega
    have hC : a0 + a1 ≤ 1099511627776 := by omega
    have key : ∀ (p q : Int), max 0 (a2 - a0) = p → max 0 (a2 - (a0 + a1)) = q → 0 ≤ p → 0 ≤ q → (a1 < p ∧ q = p - a1 ∨ p ≤ a1 ∧ q = 0) → decide (a2 ≤ a0 + a1) = (q == 0) →
        Calls Try.prog 6 #[.int .i64 a0, .int .i64 a1, .int .i64 a2] w fun e w' => e = .returned (.bool true) ∧ Below w.heap.size w w' := by
      intro p q hp hq p0 q0 h1 h2
      have Hp := Lib.hid hp
      have Hq := Lib.hid hq
      clear hp hq
      have p1 : p - a1 ≤ 9223372036854775807 := by have := Hp.out; omega
      have p2 : -9223372036854775808 ≤ p - a1 := by omega
      have H2 := Lib.hid h2
      clear h2
      rcases h1 with ⟨h1, rfl⟩ | ⟨h1, rfl⟩
      all_goals
        go_enter Try.func6, Try.ntmps6
        go_wp2_with (first
          | (go_at_call 7; refine (Clock.awake_any _).mono ?_; rintro e v2 ⟨rfl, hb2⟩)
          | (go_at_call 8; refine (Clock.new_any _).mono ?_; rintro e w3 ⟨rfl, rfl⟩))
        have hsz := hb2.size
        refine (Clock.tick_any _ _ 0 a0 (by go_simp) (by go_simp) (by omega) (by omega) ha0 ha1).mono ?_
        rintro e w3 ⟨rfl, rfl⟩
        rw [Ht.out]
        go_wp2_with fail
        refine (Clock.left_any _ _ a0 a2 (by go_simp) g0 hA hd0 hd1).mono ?_
        rintro e w3 ⟨rfl, rfl⟩
        rw [Hp.out]
        go_wp2_with fail
        refine (Clock.tick_any _ _ a0 a1 (by go_simp) (by go_simp) g0 hA hn0 hn1).mono ?_
        rintro e w3 ⟨rfl, rfl⟩
        rw [Ht2.out]
        go_wp2_with fail
        refine (Clock.left_any _ _ (a0 + a1) a2 (by go_simp) hB hC hd0 hd1).mono ?_
        rintro e w3 ⟨rfl, rfl⟩
        rw [Hq.out]
        go_wp2_with fail
        refine (Clock.past_any _ _ (a0 + a1) a2 (by go_simp)).mono ?_
        rintro e w3 ⟨rfl, rfl⟩
        rw [H2.out]
        go_wp2_with fail
        refine (Clock.now_any _ _ (a0 + a1) (by go_simp)).mono ?_
        rintro e w3 ⟨rfl, rfl⟩
        go_wp2_with fail
        go_ret
        exact ⟨rfl, ((hb2.alloc hsz _).drew).drew⟩
    by_cases hp : a2 ≤ a0 + a1
    · exact key _ 0 rfl (by omega) (by omega) (by omega) (by omega) (by simp [hp])
    · exact key (a2 - a0) (a2 - (a0 + a1)) (by omega) (by omega) (by omega) (by omega) (by omega) (by
        have : ¬ a2 - (a0 + a1) = 0 := by omega
        simp [hp, this])
  · go_enter Try.func6, Try.ntmps6
    go_wp2_with (first
      | (go_at_call 7; refine (Clock.awake_any _).mono ?_; rintro e v2 ⟨rfl, hb2⟩)
      | (go_at_call 8; refine (Clock.new_any _).mono ?_; rintro e w3 ⟨rfl, rfl⟩))
    all_goals go_ret
    all_goals exact ⟨rfl, hb2.alloc hb2.size _⟩

set_option maxRecDepth 100000 in
theorem lifted (os : Os) (started : os.Started) (H : Type) (enc : TypeId × Value → H) :
    ReturnsInHanded {} Try.checked os 6 .any (Rows.clockLeftSpec.pre6 enc Try.prog Try.f6 Rows.clockLeftRow.domain false) (Rows.clockLeftSpec.post enc Try.prog Try.f6 false true false false) := by
  refine returnsInHanded_of_change (C := Try.checked) own started (by kernel_rfl) Try.func6
    (ChangeSpec.witness6 (enc := enc) (C := Try.checked) false ⟨#[], #[.int .i64 0, .int .i64 0, .int .i64 0], []⟩ 8 (by kernel_rfl) (by kernel_rfl) (by kernel_rfl) (by kernel_rfl)) ?_
  intro W base args ds gs before hval0 hW hcnd _
  have hval : ∀ (j : Nat) t v, Try.f6.params[j]? = some t → args[j]? = some v → Value.okWide Try.prog W .any base t v := hval0
  have hW' := hW
  obtain ⟨p, q, hA0, hV, rfl, hfz, hnd⟩ := hW
  have hA : DataW.TrodAll enc Try.prog W 0 (fun _ => true) true Try.f6.params.toList args.toList ds p := hA0
  rw [Try.params6] at hA hval
  obtain ⟨v0, vs0, d0, ds0, p0, q0, hargs, rfl, rfl, h0, r0⟩ := trodAll_cons hA
  obtain ⟨v1, vs1, d1, ds1, p1, q1, rfl, rfl, rfl, h1, r1⟩ := trodAll_cons r0
  obtain ⟨v2, vs2, d2, ds2, p2, q2, rfl, rfl, rfl, h2, r2⟩ := trodAll_cons r1
  obtain ⟨rfl, rfl, rfl⟩ := trodAll_nil r2
  obtain rfl : args = #[v0, v1, v2] := by cases args; simp_all
  obtain ⟨rfl, rfl⟩ := trodVars_none hV
  obtain ⟨a0, rfl, rfl, rfl, w0⟩ := open_int Try.underlying3 (hval 0 3 v0 rfl rfl) h0
  obtain ⟨a1, rfl, rfl, rfl, w1⟩ := open_int Try.underlying3 (hval 1 3 v1 rfl rfl) h1
  obtain ⟨a2, rfl, rfl, rfl, w2⟩ := open_int Try.underlying3 (hval 2 3 v2 rfl rfl) h2
  clear hA0 hval0
  refine (walk a0 a1 a2 W w0 w1 w2).mono fun e W' ⟨he, bel⟩ => ?_
  subst he
  exact ⟨_, rfl, _, _, _, [], _, [], hW', trodAll_mk1 (shut_bool Try.underlying4 _), (trodAll_cons_mk (shut_int Try.underlying3 w0) (trodAll_cons_mk (shut_int Try.underlying3 w1) (trodAll_cons_mk (shut_int Try.underlying3 w2) trodAll_mk0))), rfl, bel.frame _, fun h => by cases h⟩

theorem over : Rows.clockLeftRow.holds Try.pinned (OpenSpec.ofChange Rows.clockLeftSpec) :=
  OpenClaim.holds_of_wide 6 Try.f6 rfl rfl rfl rfl rfl rfl rfl ⟨rfl, rfl, rfl, rfl, rfl⟩ rfl rfl rfl rfl rfl (by kernel_rfl) Try.func6 (by kernel_rfl)
    (of_decide_eq_true (by kernel_rfl)) (by unfold Func.isWrapper; first | (rw [if_pos (by decide +kernel)]; kernel_rfl) | (rw [if_neg (by decide +kernel)]; exact ⟨rfl, rfl⟩))
    (fun os started H enc _ => lifted os started H enc)

theorem proved : Rows.ClockLeftSaid := over
#print axioms proved
end Go.Proofs.Ytnfgmlocibmegaa.clockLeft
