/- RingRoom returns true for every list of numbers and every byte, and leaves its arguments as they were; no condition. -/
import Derived.Test.YtbkoccpgbhnncaaRows
import Derived.WalkKit
import Derived.ProofKit
import Derived.OpenShut
import Derived.ShutString
import Derived.ChangeOld
import Derived.Below
import Derived.Test.YtbkoccpgbhnncaaRingKept
import Derived.Test.YtbkoccpgbhnncaaRef01
import Derived.Deep.RegionWith
import Derived.Deep.RegionHeld3
namespace Go.Proofs.Ytbkoccpgbhnncaa.ringRoom
open Go.ChangeShapes Go.WideShapes Go.ChangeAt Go.RowKit
open Go.ChangeMaps (open_string shut_string)
set_option linter.unusedVariables false
set_option linter.unusedSimpArgs false

theorem own : ownKnob Try.prog.godebug = none := by kernel_rfl
theorem laidOut : laidOutB Try.prog = true := by kernel_rfl

set_option maxHeartbeats 4000000 in
theorem walk (a0 : Option Addr) (len0 cap0 b0 off0 : Nat) (l0 : List Int) (a1 : Int) (w : World) (w0 : Base.IntsAt .i64 w a0 len0 cap0 b0 off0 l0) (w1 : (Lit.int .u8 a1).wf = true) :
    Calls Try.prog 8 #[.slice a0 len0 cap0, .int .u8 a1] w fun e w' => e = .returned (.bool true) ∧ Below w.heap.size w w' := by
  obtain ⟨hm0, hm1⟩ := Base.wf_u8_bounds w1
  have hsm := w0.small
  have Hlen := Lib.hid w0.len_eq
  have hsl := w0.at
  go_enter Try.func8, Try.ntmps8
  go_wp2_with fail
  refine (RingLaws.awake_any _).mono ?_
  rintro e v2 ⟨rfl, hb2⟩
  go_wp2_with fail
  · go_ret
    exact ⟨rfl, hb2⟩
  refine (RingLaws.R.new hb2 _).mono ?_
  rintro e v3 ⟨rfl, hR⟩
  have hl60 : len0 ≤ 80 := by omega
  have hn0 : 0 ≤ a1 % 91 := by omega
  have hn1 : a1 % 91 ≤ 90 := by omega
  generalize a1 % 91 = n at *
  obtain ⟨n, rfl⟩ := Int.eq_ofNat_of_zero_le hn0
  have hcl : RingInt.clamp (n : Int) = n := by unfold RingInt.clamp; omega
  rw [hcl] at hR
  clear hcl hm0 hm1
  generalize v2.heap.size = rb at *
  go_wp2_with fail
  go_loopw [8] (fun i wr => ∃ k : Nat, k ≤ len0 ∧ i = .int .i64 k ∧ RingLaws.R w rb (l0.take (min k n)) n wr) (fun i _ => len0 - (intOf i).toNat)
  case atStart => exact ⟨0, by omega, rfl, by simpa using hR⟩
  case round =>
    obtain ⟨k, hk, rfl, hRk⟩ := hrel
    by_cases hlt : k < len0
    · obtain ⟨x, hx, hwx, hcx, rfl, hbx⟩ := w0.get hlt
      have hcr : wr.cell? ⟨b0, off0 + k, none⟩ = some (.int .i64 x) := by rw [hRk.below.cell (p := ⟨b0, off0 + k, none⟩) hbx]; exact hcx
      have Hx := Lib.hid hx
      clear hx hcx
      have hle : (l0.take (min k n)).length = min k n := by have := Hlen.out; simp; omega
      have Hle := Lib.hid hle
      clear hle
      by_cases hkn : k < n
      · go_wp2_with fail
        refine (hRk.push_yes x ?_).mono ?_
        · have := Hle.out; omega
        rintro e w3 ⟨rfl, hR3⟩
        go_wp2_with fail
        go_roundw
        case rel => exact ⟨k + 1, by omega, by go_num, by
          rw [Nat.min_eq_left (by omega)] at hR3 ⊢
          rw [List.take_add_one, Hx.out]; simpa using hR3⟩
        case measure => simp [intOf]; omega
      · go_wp2_with fail
        refine (hRk.push_no x ?_).mono ?_
        · have := Hle.out; omega
        rintro e w3 ⟨rfl, hR3⟩
        go_wp2_with fail
        go_roundw
        case rel => exact ⟨k + 1, by omega, by go_num, by
          rw [Nat.min_eq_right (by omega)] at hR3 ⊢
          exact hR3⟩
        case measure => simp [intOf]; omega
    · have hk' : k = len0 := by omega
      subst hk'
      have hle : (l0.take (min k n)).length = min k n := by have := Hlen.out; simp; omega
      have hcc := w0.len_cap
      have hmin : (IntKind.i64.wrap 0) = 0 := by decide
      clear hmin
      by_cases hkn : k < n
      · have e1 : min k n = k := by omega
        have ht : l0.take k = l0 := List.take_of_length_le (by have := Hlen.out; omega)
        rw [e1, ht] at hRk
        clear e1 ht hle hlt
        have hne : ((l0.length : Int) != (k : Int)) = false := by have := Hlen.out; simp; omega
        have hLN := hRk.drew.len
        have hAL := hRk.drew.all 100 (by omega)
        rw [show l0.take 100 = l0 from List.take_of_length_le (by have := Hlen.out; omega)] at hAL
        go_wp2_with fail
        go_region_with (first
          | (go_at_call 13; refine hLN.mono ?_; rintro e w5 ⟨rfl, rfl⟩)
          | (go_at_call 25; refine hAL.mono ?_; rintro e w3 ⟨a, c, rfl, hs3, hc3, hf3, hR3, hg3⟩)
          | (go_at_call 15; refine (Ref01.ints_any _ _ _ l0 l0 hs3 (hsl.stable fun p u hp => (hR3.below.cell (World.block_lt_of_cell? _ _ hp)).trans hp)).mono ?_; rintro e w4 ⟨rfl, nn, rfl⟩))
        all_goals
          have hR4 := hR3.drewN nn
          clear hs3 hc3 hf3 hR3 hg3 hLN hAL
          generalize w3.drewN nn = w4 at *
          have Hk := Hlen.out
          rcases l0 with _ | ⟨x, r⟩
          · simp at Hk
            subst Hk
            have hpop := hR4.pop_none
            have hp2 : (0 : Int) < (n : Int) := by omega
            go_wp2_with fail
            refine hpop.mono ?_
            rintro e w5 ⟨rfl, hR5⟩
            go_wp2_with fail
            refine (hR5.push_yes 7 (by simp; omega)).mono ?_
            rintro e w6 ⟨rfl, hR6⟩
            go_wp2_with fail
            go_ret
            first | exact ⟨rfl, hR6.below⟩ | exact ⟨Base.ret_bool (decide_eq_true (by omega)), hR6.below⟩
          · have hpop := hR4.pop_some
            simp only [List.length_cons] at Hk
            have hp : (0 : Int) < (k : Int) := by omega
            have hp2 : (0 : Int) < (n : Int) := by omega
            go_wp2_with fail
            refine hpop.mono ?_
            rintro e w5 ⟨rfl, hR5⟩
            go_wp2_with fail
            refine (hR5.push_yes 7 (by omega)).mono ?_
            rintro e w6 ⟨rfl, hR6⟩
            go_wp2_with fail
            go_ret
            first | exact ⟨rfl, hR6.below⟩ | exact ⟨Base.ret_bool (decide_eq_true (by omega)), hR6.below⟩
      · have e1 : min k n = n := by omega
        rw [e1] at hRk hle
        clear e1 hlt
        have hne : (((l0.take n).length : Int) != (n : Int)) = false := by rw [hle]; simp
        have hLN := hRk.drew.len
        have hAL := hRk.drew.all 100 (by omega)
        have hncap : n ≤ cap0 := by omega
        have hsl' := hsl.take (c' := cap0) (m := n) (by omega)
        rw [← List.map_take] at hsl'
        rw [show (l0.take n).take 100 = l0.take n from List.take_of_length_le (by omega)] at hAL
        have Hle := Lib.hid hle
        clear hle
        generalize l0.take n = l1 at *
        go_wp2_with fail
        go_region_with (first
          | (go_at_call 13; refine hLN.mono ?_; rintro e w5 ⟨rfl, rfl⟩)
          | (go_at_call 25; refine hAL.mono ?_; rintro e w3 ⟨a, c, rfl, hs3, hc3, hf3, hR3, hg3⟩)
          | (go_at_call 15; refine (Ref01.ints_any _ _ _ l1 l1 hs3 (hsl'.stable fun p u hp => (hR3.below.cell (World.block_lt_of_cell? _ _ hp)).trans hp)).mono ?_; rintro e w4 ⟨rfl, nn, rfl⟩))
        all_goals
          have hR4 := hR3.drewN nn
          clear hs3 hc3 hf3 hR3 hg3 hLN hAL
          generalize w3.drewN nn = w4 at *
          have Hk := Hle.out
          rcases l1 with _ | ⟨x, r⟩
          · simp at Hk
            subst Hk
            have hpop := hR4.pop_none
            go_wp2_with fail
            refine hpop.mono ?_
            rintro e w5 ⟨rfl, hR5⟩
            go_wp2_with fail
            refine (hR5.push_no 7 (by simp)).mono ?_
            rintro e w6 ⟨rfl, hR6⟩
            go_wp2_with fail
            go_ret
            first | exact ⟨rfl, hR6.below⟩ | exact ⟨Base.ret_bool (decide_eq_true (by omega)), hR6.below⟩
          · have hpop := hR4.pop_some
            simp only [List.length_cons] at Hk
            have hp : (0 : Int) < (n : Int) := by omega
            have hp2 : (0 : Int) < (n : Int) := by omega
            go_wp2_with fail
            refine hpop.mono ?_
            rintro e w5 ⟨rfl, hR5⟩
            go_wp2_with fail
            refine (hR5.push_yes 7 (by omega)).mono ?_
            rintro e w6 ⟨rfl, hR6⟩
            go_wp2_with fail
            go_ret
            first | exact ⟨rfl, hR6.below⟩ | exact ⟨Base.ret_bool (decide_eq_true (by omega)), hR6.below⟩

set_option maxRecDepth 100000 in
theorem lifted (os : Os) (started : os.Started) (H : Type) (enc : TypeId × Value → H) :
    ReturnsInHanded {} Try.checked os 8 .any (Rows.ringRoomSpec.pre6 enc Try.prog Try.f8 Rows.ringRoomRow.domain false) (Rows.ringRoomSpec.post enc Try.prog Try.f8 false true false false) := by
  refine returnsInHanded_of_change (C := Try.checked) own started (by kernel_rfl) Try.func8
    (ChangeSpec.witness6 (enc := enc) (C := Try.checked) false ⟨#[], #[.slice none 0 0, .int .u8 0], []⟩ 8 (by kernel_rfl) (by kernel_rfl) (by kernel_rfl) (by kernel_rfl)) ?_
  intro W base args ds gs before hval0 hW hcnd _
  have hval : ∀ (j : Nat) t v, Try.f8.params[j]? = some t → args[j]? = some v → Value.okWide Try.prog W .any base t v := hval0
  have hW' := hW
  obtain ⟨p, q, hA0, hV, rfl, hfz, hnd⟩ := hW
  have hA : DataW.TrodAll enc Try.prog W 0 (fun _ => true) true Try.f8.params.toList args.toList ds p := hA0
  rw [Try.params8] at hA hval
  obtain ⟨v0, vs0, d0, ds0, p0, q0, hargs, rfl, rfl, h0, r0⟩ := trodAll_cons hA
  obtain ⟨v1, vs1, d1, ds1, p1, q1, rfl, rfl, rfl, h1, r1⟩ := trodAll_cons r0
  obtain ⟨rfl, rfl, rfl⟩ := trodAll_nil r1
  obtain rfl : args = #[v0, v1] := by cases args; simp_all
  obtain ⟨rfl, rfl⟩ := trodVars_none hV
  obtain ⟨a0, len0, cap0, rfl⟩ := okWide_slice Try.underlying22 (hval 0 22 v0 rfl rfl)
  have k0 := h0
  have lt0 : ∀ x ∈ p0, x.block < W.heap.size := by obtain ⟨m, hm⟩ := k0; exact DataW.trod_lt m _ _ _ hm
  obtain ⟨b0, off0, l0, w0⟩ : ∃ b off l, Base.IntsAt .i64 W a0 len0 cap0 b off l := by
    obtain ⟨fuel, hf⟩ := h0
    rcases open_ints Try.underlying22 Try.underlying3 (by kernel_rfl) hf with ⟨hcs, _⟩ | ⟨x, l, c, zs, hcs, _, hl, hm, hz, _, hcell, hwz⟩
    · simp [Value.cells] at hcs
      obtain ⟨rfl, rfl, rfl⟩ := hcs
      exact ⟨0, 0, [], Base.intsAt_nil _ _⟩
    · simp [Value.cells] at hcs
      obtain ⟨rfl, rfl, rfl⟩ := hcs
      obtain ⟨b, off, h⟩ := Base.intsAt_some hl hm (by simpa using hz) hcell hwz
      exact ⟨b, off, _, h⟩
  obtain ⟨a1, rfl, rfl, rfl, w1⟩ := open_int Try.underlying5 (hval 1 5 v1 rfl rfl) h1
  clear hA0 hval0
  refine (walk a0 len0 cap0 b0 off0 l0 a1 W w0 w1).mono fun e W' ⟨he, bel⟩ => ?_
  subst he
  exact ⟨_, rfl, _, _, _, [], _, [], hW', trodAll_mk1 (shut_bool Try.underlying4 _), (trodAll_cons_mk (Below.trod laidOut (by kernel_rfl) (of_decide_eq_true (by kernel_rfl)) k0 bel lt0) (trodAll_cons_mk (shut_int Try.underlying5 w1) trodAll_mk0)), rfl, bel.frame _, fun h => by cases h⟩

theorem over : Rows.ringRoomRow.holds Try.pinned (OpenSpec.ofChange Rows.ringRoomSpec) :=
  OpenClaim.holds_of_wide 8 Try.f8 rfl rfl rfl rfl rfl rfl rfl ⟨rfl, rfl, rfl, rfl, rfl⟩ rfl rfl rfl rfl rfl (by kernel_rfl) Try.func8 (by kernel_rfl)
    (of_decide_eq_true (by kernel_rfl)) (by unfold Func.isWrapper; first | (rw [if_pos (by decide +kernel)]; kernel_rfl) | (rw [if_neg (by decide +kernel)]; exact ⟨rfl, rfl⟩))
    (fun os started H enc _ => lifted os started H enc)

theorem proved : Rows.RingRoomSaid := over
#print axioms proved
end Go.Proofs.Ytbkoccpgbhnncaa.ringRoom
