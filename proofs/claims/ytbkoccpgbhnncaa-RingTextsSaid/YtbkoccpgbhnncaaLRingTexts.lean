/- RingTexts returns true for every list of texts, and leaves its argument as it was; no condition. -/
import Derived.Test.YtbkoccpgbhnncaaRows
import Derived.WalkKit
import Derived.ProofKit
import Derived.OpenShut
import Derived.ShutString
import Derived.ChangeOld
import Derived.Below
import Derived.Test.YtbkoccpgbhnncaaRingDuo
namespace Go.Proofs.Ytbkoccpgbhnncaa.ringTexts
open Go.ChangeShapes Go.WideShapes Go.ChangeAt Go.RowKit
open Go.ChangeMaps (open_string shut_string)
set_option linter.unusedVariables false
set_option linter.unusedSimpArgs false

theorem own : ownKnob Try.prog.godebug = none := by kernel_rfl
theorem laidOut : laidOutB Try.prog = true := by kernel_rfl

set_option maxHeartbeats 4000000 in
set_option maxRecDepth 100000 in
theorem walk (a0 : Option Addr) (len0 cap0 b0 off0 : Nat) (l0 : List ByteArray) (w : World) (w0 : Base.StrsAt w a0 len0 cap0 b0 off0 l0) :
    Calls Try.prog 4 #[.slice a0 len0 cap0] w fun e w' => e = .returned (.bool true) ∧ Below w.heap.size w w' := by
  have hsm : len0 ≤ 9223372036854775807 := by have := w0.len_cap; have := w0.cap_max; unfold maxLen at this; omega
  have Hlen := Lib.hid w0.len_eq
  go_enter Try.func4, Try.ntmps4
  go_wp2_with fail
  refine (RingLaws.awake_any _).mono ?_
  rintro e v2 ⟨rfl, hb2⟩
  go_wp2_with fail
  · go_ret
    exact ⟨rfl, hb2⟩
  refine (RingStr.new_any v2 len0).mono ?_
  rintro e v3 ⟨rfl, rfl⟩
  go_wp2_with fail
  refine (RingStrs.new_any _ 1).mono ?_
  rintro e v3 ⟨rfl, rfl⟩
  have hR := RingLaws.Duo.new hb2 (len0 : Int)
  have hcl : RingStr.clamp (len0 : Int) = len0 := by unfold RingStr.clamp; omega
  rw [hcl] at hR ⊢
  clear hcl
  simp only [World.size_alloc] at hR ⊢
  generalize (v2.alloc (.cells #[.slice none 0 0, .int .i64 (len0 : Int)] 55)).alloc (.cells #[.slice none 0 0, .int .i64 (RingStrs.clamp 1)] 58) = v3 at *
  generalize v2.heap.size = rb at *
  go_wp2_with fail
  go_loopw [6] (fun i wr => ∃ k : Nat, k ≤ len0 ∧ i = .int .i64 k ∧ RingLaws.Duo w rb (rb + 1) (l0.take k) [] len0 wr) (fun i _ => len0 - (intOf i).toNat)
  case atStart => exact ⟨0, by omega, rfl, by simpa using hR⟩
  case round =>
    obtain ⟨k, hk, rfl, hRk⟩ := hrel
    by_cases hlt : k < len0
    · obtain ⟨x, hx, hxs, hcx, rfl, hbx⟩ := w0.get hlt
      have hcr : wr.cell? ⟨b0, off0 + k, none⟩ = some (.string x) := by rw [hRk.below.cell (p := ⟨b0, off0 + k, none⟩) hbx]; exact hcx
      have Hx := Lib.hid hx
      clear hx hcx
      go_wp2_with fail
      refine (hRk.push_yes x ?_).mono ?_
      · simp; omega
      rintro e w3 ⟨rfl, hR3⟩
      go_wp2_with fail
      go_roundw
      case rel => exact ⟨k + 1, by omega, by go_num, by rw [List.take_add_one, Hx.out]; simpa using hR3⟩
      case measure => simp [intOf]; omega
    · have ht : l0.take k = l0 := List.take_of_length_le (by have := Hlen.out; omega)
      rw [ht] at hRk
      clear ht
      go_wp2_with fail
      refine (hRk.push_no _ (by have := Hlen.out; omega)).mono ?_
      rintro e w3 ⟨rfl, hR3⟩
      go_wp2_with fail
      refine (hR3.list_yes _ _ _).mono ?_
      rintro e w4 ⟨rfl, hR4⟩
      go_wp2_with fail
      refine (hR4.list_no _ _ _).mono ?_
      rintro e w5 ⟨rfl, hR5⟩
      go_wp2_with fail
      clear hRk hR3 hR4
      obtain ⟨wo, rfl⟩ : ∃ wo : World, wo = wr := ⟨_, rfl⟩
      go_loopw [10] (fun i wr => ∃ k : Nat, k ≤ len0 ∧ i = .int .i64 k ∧ RingLaws.Duo w rb (rb + 1) (l0.drop k) [(a0, len0, cap0)] len0 wr) (fun i _ => len0 - (intOf i).toNat)
      case atStart => exact ⟨0, by omega, rfl, by simpa using hR5⟩
      case round =>
        obtain ⟨k, hk, rfl, hRk⟩ := hrel
        by_cases hlt : k < len0
        · have hlt' : k < l0.length := by have := Hlen.out; omega
          obtain ⟨x, hx, hxs, hcx, rfl, hbx⟩ := w0.get hlt
          have hd : l0.drop k = x :: l0.drop (k + 1) := by
            rw [List.drop_eq_getElem_cons hlt']
            rw [List.getElem?_eq_getElem hlt'] at hx
            simp at hx; rw [hx]
          rw [hd] at hRk
          clear hd hx
          go_wp2_with fail
          refine hRk.pop_some.mono ?_
          rintro e w6 ⟨rfl, hR6⟩
          have hcr : w6.cell? ⟨b0, off0 + k, none⟩ = some (.string x) := by rw [hR6.below.cell (p := ⟨b0, off0 + k, none⟩) hbx]; exact hcx
          clear hcx hRk
          go_wp2_with fail
          go_roundw
          case rel => exact ⟨k + 1, by omega, by go_num, hR6⟩
          case measure => simp [intOf]; omega
        · have hd : l0.drop k = [] := List.drop_of_length_le (by have := Hlen.out; omega)
          rw [hd] at hRk
          clear hd
          go_wp2_with fail
          refine hRk.list_pop.mono ?_
          rintro e w6 ⟨rfl, hR6⟩
          go_wp2_with fail
          refine hR6.pop_none.mono ?_
          rintro e w7 ⟨rfl, hR7⟩
          go_wp2_with fail
          go_ret
          exact ⟨rfl, hR7.below⟩

set_option maxRecDepth 100000 in
theorem lifted (os : Os) (started : os.Started) (H : Type) (enc : TypeId × Value → H) :
    ReturnsInHanded {} Try.checked os 4 .any (Rows.ringTextsSpec.pre6 enc Try.prog Try.f4 Rows.ringTextsRow.domain false) (Rows.ringTextsSpec.post enc Try.prog Try.f4 false true false false) := by
  refine returnsInHanded_of_change (C := Try.checked) own started (by kernel_rfl) Try.func4
    (ChangeSpec.witness6 (enc := enc) (C := Try.checked) false ⟨#[], #[.slice none 0 0], []⟩ 8 (by kernel_rfl) (by kernel_rfl) (by kernel_rfl) (by kernel_rfl)) ?_
  intro W base args ds gs before hval0 hW hcnd _
  have hval : ∀ (j : Nat) t v, Try.f4.params[j]? = some t → args[j]? = some v → Value.okWide Try.prog W .any base t v := hval0
  have hW' := hW
  obtain ⟨p, q, hA0, hV, rfl, hfz, hnd⟩ := hW
  have hA : DataW.TrodAll enc Try.prog W 0 (fun _ => true) true Try.f4.params.toList args.toList ds p := hA0
  rw [Try.params4] at hA hval
  obtain ⟨v0, vs0, d0, ds0, p0, q0, hargs, rfl, rfl, h0, r0⟩ := trodAll_cons hA
  obtain ⟨rfl, rfl, rfl⟩ := trodAll_nil r0
  obtain rfl : args = #[v0] := by cases args; simp_all
  obtain ⟨rfl, rfl⟩ := trodVars_none hV
  obtain ⟨a0, len0, cap0, rfl⟩ := okWide_slice Try.underlying33 (hval 0 33 v0 rfl rfl)
  have k0 := h0
  have lt0 : ∀ x ∈ p0, x.block < W.heap.size := by obtain ⟨m, hm⟩ := k0; exact DataW.trod_lt m _ _ _ hm
  obtain ⟨b0, off0, l0, w0⟩ : ∃ b off l, Base.StrsAt W a0 len0 cap0 b off l := by
    obtain ⟨fuel, hf⟩ := h0
    rcases open_strings Try.underlying33 Try.underlying9 (by kernel_rfl) hf with ⟨hcs, _⟩ | ⟨x, l, c, zs, hcs, _, hl, hm, hz, _, hcell, hwz⟩
    · simp [Value.cells] at hcs
      obtain ⟨rfl, rfl, rfl⟩ := hcs
      exact ⟨0, 0, [], Base.strsAt_nil _⟩
    · simp [Value.cells] at hcs
      obtain ⟨rfl, rfl, rfl⟩ := hcs
      obtain ⟨b, off, h⟩ := Base.strsAt_some hl hm (by simpa using hz) hcell hwz
      exact ⟨b, off, _, h⟩
  clear hA0 hval0
  refine (walk a0 len0 cap0 b0 off0 l0 W w0).mono fun e W' ⟨he, bel⟩ => ?_
  subst he
  exact ⟨_, rfl, _, _, _, [], _, [], hW', trodAll_mk1 (shut_bool Try.underlying4 _), (trodAll_cons_mk (Below.trod laidOut (by kernel_rfl) (of_decide_eq_true (by kernel_rfl)) k0 bel lt0) trodAll_mk0), rfl, bel.frame _, fun h => by cases h⟩

theorem over : Rows.ringTextsRow.holds Try.pinned (OpenSpec.ofChange Rows.ringTextsSpec) :=
  OpenClaim.holds_of_wide 4 Try.f4 rfl rfl rfl rfl rfl rfl rfl ⟨rfl, rfl, rfl, rfl, rfl⟩ rfl rfl rfl rfl rfl (by kernel_rfl) Try.func4 (by kernel_rfl)
    (of_decide_eq_true (by kernel_rfl)) (by unfold Func.isWrapper; first | (rw [if_pos (by decide +kernel)]; kernel_rfl) | (rw [if_neg (by decide +kernel)]; exact ⟨rfl, rfl⟩))
    (fun os started H enc _ => lifted os started H enc)

theorem proved : Rows.RingTextsSaid := over
#print axioms proved
end Go.Proofs.Ytbkoccpgbhnncaa.ringTexts
