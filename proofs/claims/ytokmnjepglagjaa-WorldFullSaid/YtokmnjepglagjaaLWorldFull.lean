/- WorldFull returns true for every two numbers; no condition. -/
import Derived.Test.YtokmnjepglagjaaRows
import Derived.WalkKit
import Derived.ProofKit
import Derived.OpenShut
import Derived.ShutString
import Derived.ChangeOld
import Derived.Below
import Derived.Test.YtokmnjepglagjaaWorldTold
namespace Go.Proofs.Ytokmnjepglagjaa.worldFull
open Go.ChangeShapes Go.WideShapes Go.ChangeAt Go.RowKit
open Go.ChangeMaps (open_string shut_string)
set_option linter.unusedVariables false
set_option linter.unusedSimpArgs false

theorem own : ownKnob Try.prog.godebug = none := by kernel_rfl
theorem laidOut : laidOutB Try.prog = true := by kernel_rfl

set_option maxHeartbeats 4000000 in
set_option maxRecDepth 100000 in
theorem walk (a0 : Int) (a1 : Int) (w : World) (w0 : (Lit.int .u8 a0).wf = true) (w1 : (Lit.int .u8 a1).wf = true) :
    Calls Try.prog 3 #[.int .u8 a0, .int .u8 a1] w fun e w' => e = .returned (.bool true) ∧ Below w.heap.size w w' := by
  obtain ⟨he0, he1⟩ := Base.wf_u8_bounds w0
  obtain ⟨hf0, hf1⟩ := Base.wf_u8_bounds w1
  obtain ⟨N, hN, hN1⟩ : ∃ N : Nat, Int.tmod a0 21 = (N : Int) ∧ N < 21 := ⟨(Int.tmod a0 21).toNat, by rw [Int.toNat_of_nonneg (Int.tmod_nonneg _ he0)], by have := Int.tmod_lt_of_pos a0 (b := 21) (by omega); have := Int.tmod_nonneg 21 he0; omega⟩
  obtain ⟨K, hK, hK1⟩ : ∃ N : Nat, Int.tmod a1 10 = (N : Int) ∧ N < 10 := ⟨(Int.tmod a1 10).toNat, by rw [Int.toNat_of_nonneg (Int.tmod_nonneg _ hf0)], by have := Int.tmod_lt_of_pos a1 (b := 10) (by omega); have := Int.tmod_nonneg 10 hf0; omega⟩
  go_enter Try.func3, Try.ntmps3
  go_wp2_with fail
  refine (World11.awake_any _).mono ?_
  rintro e v2 ⟨rfl, hb2⟩
  go_wp2_with fail
  refine (World11.new_any v2).mono ?_
  rintro e v3 ⟨rfl, hA, hB⟩
  have hW := World11.Wd.made hb2 hA hB
  generalize v2.heap.size + 1 = wb at *
  clear hA hB
  generalize v2.heap.size = rb at *
  go_wp2_with fail
  go_loopw [9, 10] (fun f iv wr => ∃ (i fed : Nat) (l : List Bool), f = .int .i64 fed ∧ iv = .int .i64 i ∧ fed = min i 1000 ∧ i ≤ 990 + N ∧ l.length = fed ∧ World11.Wd w wb rb l 0 0 wr) (fun f iv _ => 990 + N - (intOf iv).toNat)
  case atStart => exact ⟨0, 0, [], rfl, rfl, by omega, by omega, rfl, hW⟩
  case round =>
    obtain ⟨i, fed, l, rfl, rfl, hfed, hi, hl, hW2⟩ := hrel
    have hfl : fed ≤ i ∧ fed ≤ 1000 ∧ (i ≤ 1000 → i ≤ fed) ∧ (1000 ≤ i → 1000 ≤ fed) := by omega
    obtain ⟨q1, q2, q3, q4⟩ := hfl
    have Hl := Lib.hid hl
    clear hl hfed
    by_cases hlt : i < 990 + N
    · by_cases hroom : fed < 1000
      · have hx := fun x => hW2.feed_yes x (by have := Hl.out; omega)
        go_wp2_with fail
        refine (hx _).mono ?_
        rintro e v4 ⟨rfl, hW3⟩
        go_wp2_with fail
        go_roundw
        case rel => exact ⟨i + 1, fed + 1, _, by go_num, by go_num, by omega, by omega, by have := Hl.out; simp; omega, hW3⟩
        case measure => simp [intOf]; omega
      · have hx := fun x => hW2.feed_no x (by have := Hl.out; omega)
        go_wp2_with fail
        refine (hx _).mono ?_
        rintro e v4 ⟨rfl, hW3⟩
        go_wp2_with fail
        go_roundw
        case rel => exact ⟨i + 1, fed, _, rfl, by go_num, by omega, by omega, Hl.out, hW3⟩
        case measure => simp [intOf]; omega
    · obtain ⟨wo, hwo⟩ : ∃ wo : World, wo = wr := ⟨_, rfl⟩
      clear hwo
      go_wp2_with fail
      go_loopw [11] (fun jv wr2 => ∃ (j : Nat) (l : List Bool) (g b : Nat), jv = .int .i64 j ∧ j ≤ K ∧ l.length + j = fed ∧ g ≤ j ∧ b ≤ j ∧ World11.Wd w wb rb l g b wr2) (fun jv _ => K - (intOf jv).toNat)
      case atStart => exact ⟨0, l, 0, 0, rfl, by omega, Hl.out, by omega, by omega, hW2⟩
      case round =>
        obtain ⟨j, l2, g, b, rfl, hj, hl2, hg, hb, hW4⟩ := hrel
        have Hl2 := Lib.hid hl2
        clear hl2
        by_cases hlt2 : j < K
        · rcases l2 with _ | ⟨x, l2⟩
          · exact absurd Hl2.out (by simp; omega)
          · go_wp2_with fail
            refine (World11.Wd.next_some x hW4 ⟨by omega, by omega⟩ ⟨by omega, by omega⟩).mono ?_
            rintro e v4 ⟨rfl, hW5⟩
            have hq : ∃ g' b' : Nat, g' ≤ j + 1 ∧ b' ≤ j + 1 ∧ World11.Wd w wb rb l2 g' b' v4 := by
              cases x
              · exact ⟨g, b + 1, by omega, by omega, by simpa using hW5⟩
              · exact ⟨g + 1, b, by omega, by omega, by simpa using hW5⟩
            clear hW5
            obtain ⟨g', b', r1, r2, hW5⟩ := hq
            go_wp2_with fail
            go_roundw
            case rel => exact ⟨j + 1, l2, g', b', by go_num, by omega, by have := Hl2.out; simp at this; omega, r1, r2, hW5⟩
            case measure => simp [intOf]; omega
        · obtain rfl : j = K := by omega
          have hlen2 := Hl2.out
          have hlast : (fed = 1000 ∧ 10 < N) ∨ (N = 10 ∧ fed = 1000) ∨ (fed = 990 + N ∧ N < 10) := by omega
          clear Hl2 Hl q1 q2 q3 q4
          rcases hlast with ⟨rfl, hN10⟩ | ⟨rfl, rfl⟩ | ⟨rfl, hN10⟩
          · have hc1 : ((l2.length : Int) == 1000 - (j : Int)) = true := by simp; omega
            have HL := Lib.hid hlen2
            clear hlen2
            go_wp2_with fail
            refine hW4.ahead.mono ?_
            rintro e v5 ⟨a, c, rfl, _, hW5⟩
            by_cases hj0 : j = 0
            · subst hj0
              go_wp2_with fail
              refine (hW5.feed_no true (by have := HL.out; omega)).mono ?_
              rintro e v6 ⟨rfl, hW6⟩
              go_wp2_with fail
              all_goals go_ret
              all_goals first | exact ⟨rfl, hW6.below⟩ | (exfalso; have := HL.out; omega) | exact ⟨Base.ret_bool (by first | (simp; done) | (simp; omega)), hW6.below⟩
            · go_wp2_with fail
              refine (hW5.feed_yes true (by have := HL.out; omega)).mono ?_
              rintro e v6 ⟨rfl, hW6⟩
              go_wp2_with fail
              go_ret
              first | exact ⟨rfl, hW6.below⟩ | exact ⟨Base.ret_bool (by first | (simp; done) | (simp; omega)), hW6.below⟩
          · have hc1 : ((l2.length : Int) == 1000 - (j : Int)) = true := by simp; omega
            have HL := Lib.hid hlen2
            clear hlen2
            go_wp2_with fail
            refine hW4.ahead.mono ?_
            rintro e v5 ⟨a, c, rfl, _, hW5⟩
            by_cases hj0 : j = 0
            · subst hj0
              go_wp2_with fail
              refine (hW5.feed_no true (by have := HL.out; omega)).mono ?_
              rintro e v6 ⟨rfl, hW6⟩
              go_wp2_with fail
              all_goals go_ret
              all_goals first | exact ⟨rfl, hW6.below⟩ | (exfalso; have := HL.out; omega) | exact ⟨Base.ret_bool (by first | (simp; done) | (simp; omega)), hW6.below⟩
            · go_wp2_with fail
              refine (hW5.feed_yes true (by have := HL.out; omega)).mono ?_
              rintro e v6 ⟨rfl, hW6⟩
              go_wp2_with fail
              go_ret
              first | exact ⟨rfl, hW6.below⟩ | exact ⟨Base.ret_bool (by first | (simp; done) | (simp; omega)), hW6.below⟩
          · have hN12 : (990 : Int) + (N : Int) < 1000 := by omega
            have hN13 : ¬ ((1000 : Int) < 990 + (N : Int)) := by omega
            have hN14 : ¬ ((1000 : Int) ≤ 990 + (N : Int)) := by omega
            have hc1 : ((l2.length : Int) == 990 + (N : Int) - (j : Int)) = true := by simp; omega
            have HL := Lib.hid hlen2
            clear hlen2
            go_wp2_with fail
            all_goals (refine hW4.ahead.mono ?_; rintro e v5 ⟨a, c, rfl, _, hW5⟩)
            all_goals go_wp2_with fail
            all_goals (refine (hW5.feed_yes true (by have := HL.out; omega)).mono ?_; rintro e v6 ⟨rfl, hW6⟩)
            all_goals go_wp2_with fail
            all_goals go_ret
            all_goals first | exact ⟨rfl, hW6.below⟩ | exact ⟨Base.ret_bool (by first | (simp; done) | (simp; omega)), hW6.below⟩

set_option maxRecDepth 100000 in
theorem lifted (os : Os) (started : os.Started) (H : Type) (enc : TypeId × Value → H) :
    ReturnsInHanded {} Try.checked os 3 .any (Rows.worldFullSpec.pre6 enc Try.prog Try.f3 Rows.worldFullRow.domain false) (Rows.worldFullSpec.post enc Try.prog Try.f3 false true false false) := by
  refine returnsInHanded_of_change (C := Try.checked) own started (by kernel_rfl) Try.func3
    (ChangeSpec.witness6 (enc := enc) (C := Try.checked) false ⟨#[], #[.int .u8 0, .int .u8 0], []⟩ 8 (by kernel_rfl) (by kernel_rfl) (by kernel_rfl) (by kernel_rfl)) ?_
  intro W base args ds gs before hval0 hW hcnd _
  have hval : ∀ (j : Nat) t v, Try.f3.params[j]? = some t → args[j]? = some v → Value.okWide Try.prog W .any base t v := hval0
  have hW' := hW
  obtain ⟨p, q, hA0, hV, rfl, hfz, hnd⟩ := hW
  have hA : DataW.TrodAll enc Try.prog W 0 (fun _ => true) true Try.f3.params.toList args.toList ds p := hA0
  rw [Try.params3] at hA hval
  obtain ⟨v0, vs0, d0, ds0, p0, q0, hargs, rfl, rfl, h0, r0⟩ := trodAll_cons hA
  obtain ⟨v1, vs1, d1, ds1, p1, q1, rfl, rfl, rfl, h1, r1⟩ := trodAll_cons r0
  obtain ⟨rfl, rfl, rfl⟩ := trodAll_nil r1
  obtain rfl : args = #[v0, v1] := by cases args; simp_all
  obtain ⟨rfl, rfl⟩ := trodVars_none hV
  obtain ⟨a0, rfl, rfl, rfl, w0⟩ := open_int Try.underlying5 (hval 0 5 v0 rfl rfl) h0
  obtain ⟨a1, rfl, rfl, rfl, w1⟩ := open_int Try.underlying5 (hval 1 5 v1 rfl rfl) h1
  clear hA0 hval0
  refine (walk a0 a1 W w0 w1).mono fun e W' ⟨he, bel⟩ => ?_
  subst he
  exact ⟨_, rfl, _, _, _, [], _, [], hW', trodAll_mk1 (shut_bool Try.underlying4 _), (trodAll_cons_mk (shut_int Try.underlying5 w0) (trodAll_cons_mk (shut_int Try.underlying5 w1) trodAll_mk0)), rfl, bel.frame _, fun h => by cases h⟩

theorem over : Rows.worldFullRow.holds Try.pinned (OpenSpec.ofChange Rows.worldFullSpec) :=
  OpenClaim.holds_of_wide 3 Try.f3 rfl rfl rfl rfl rfl rfl rfl ⟨rfl, rfl, rfl, rfl, rfl⟩ rfl rfl rfl rfl rfl (by kernel_rfl) Try.func3 (by kernel_rfl)
    (of_decide_eq_true (by kernel_rfl)) (by unfold Func.isWrapper; first | (rw [if_pos (by decide +kernel)]; kernel_rfl) | (rw [if_neg (by decide +kernel)]; exact ⟨rfl, rfl⟩))
    (fun os started H enc _ => lifted os started H enc)

theorem proved : Rows.WorldFullSaid := over
#print axioms proved
end Go.Proofs.Ytokmnjepglagjaa.worldFull
