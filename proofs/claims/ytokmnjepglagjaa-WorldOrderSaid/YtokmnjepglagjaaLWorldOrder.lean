/- WorldOrder returns true for every list, and leaves its argument as it was; no condition. -/
import Derived.Test.YtokmnjepglagjaaRows
import Derived.WalkKit
import Derived.ProofKit
import Derived.OpenShut
import Derived.ShutString
import Derived.ChangeOld
import Derived.Below
import Derived.Test.YtokmnjepglagjaaWorldKept
namespace Go.Proofs.Ytokmnjepglagjaa.worldOrder
open Go.ChangeShapes Go.WideShapes Go.ChangeAt Go.RowKit
open Go.ChangeMaps (open_string shut_string)
set_option linter.unusedVariables false
set_option linter.unusedSimpArgs false

theorem own : ownKnob Try.prog.godebug = none := by kernel_rfl
theorem laidOut : laidOutB Try.prog = true := by kernel_rfl

set_option maxHeartbeats 4000000 in
set_option maxRecDepth 100000 in
theorem walk (a0 : Option Addr) (len0 cap0 b0 off0 : Nat) (l0 : List Bool) (w : World) (w0 : Base.BoolsAt w a0 len0 cap0 b0 off0 l0) :
    Calls Try.prog 6 #[.slice a0 len0 cap0] w fun e w' => e = .returned (.bool true) ∧ Below w.heap.size w w' := by
  have hsl := Ref01.boolsAt_at w0
  have hget := fun j (hj : j < len0) => w0.get hj
  have hll : len0 = l0.length := w0.len_eq
  have HLL := Lib.hid hll
  clear hll
  go_enter Try.func6, Try.ntmps6
  go_wp2_with fail
  refine (World11.awake_any _).mono ?_
  rintro e v2 ⟨rfl, hb2⟩
  go_wp2_with fail
  refine (World11.new_any v2).mono ?_
  rintro e v3 ⟨rfl, hA, hB⟩
  have hW := World11.Wd.made hb2 hA hB
  generalize v2.heap.size + 1 = wb at *
  clear hA hB
  generalize v2.heap.size = rb at *
  by_cases hlen : len0 ≤ 60
  · go_wp2_with fail
    go_loopw [5] (fun iv wr => ∃ i : Nat, iv = .int .i64 i ∧ i ≤ len0 ∧ World11.Wd w wb rb (l0.take i) 0 0 wr) (fun iv _ => len0 - (intOf iv).toNat)
    case atStart => exact ⟨0, rfl, by omega, by simpa using hW⟩
    case round =>
      obtain ⟨i, rfl, hi, hW2⟩ := hrel
      by_cases hlt : i < len0
      · obtain ⟨x, hx, hcx, rfl, hbx⟩ := hget i hlt
        have hcr : wr.cell? ⟨b0, off0 + i, none⟩ = some (.bool x) := by rw [hW2.below.cell (p := ⟨b0, off0 + i, none⟩) hbx]; exact hcx
        have hp := hW2.feed_yes x (by simp; omega)
        rw [World11.take_push hx] at hp
        clear hx hcx
        go_wp2_with fail
        refine hp.mono ?_
        rintro e v4 ⟨rfl, hW3⟩
        go_wp2_with fail
        go_roundw
        case rel => exact ⟨i + 1, by go_num, by omega, hW3⟩
        case measure => simp [intOf]; omega
      · have hW3 : World11.Wd w wb rb l0 0 0 wr := by have h1 := hW2; rwa [List.take_of_length_le (by have := HLL.out; omega)] at h1
        clear hW2
        obtain ⟨wo, hwo⟩ : ∃ wo : World, wo = wr := ⟨_, rfl⟩
        clear hwo
        go_wp2_with fail
        refine hW3.ahead_kept.mono ?_
        rintro e v4 ⟨a, c, rfl, hK⟩
        go_wp2_with fail
        go_loopw [7, 8, 9] (fun nv kv xv wr2 => ∃ (k ng nb : Nat), nv = .int .i64 nb ∧ kv = .int .i64 k ∧ k ≤ len0 ∧ ng + nb ≤ k ∧ k ≤ ng + nb ∧ World11.Wk w wb rb (.slice a l0.length c) (l0.map RingBool.val) (l0.drop k) ng nb wr2) (fun nv kv xv _ => len0 - (intOf kv).toNat)
        case atStart => exact ⟨0, 0, 0, rfl, rfl, by omega, by omega, by omega, by simpa using hK⟩
        case round =>
          obtain ⟨k, ng, nb, rfl, rfl, hk, hg1, hg2, hW4⟩ := hrel
          by_cases hlt2 : k < len0
          · obtain ⟨x, hx, hcx, rfl, hbx⟩ := hget k hlt2
            have hd : l0.drop k = x :: l0.drop (k + 1) := by
              have hlt := (List.getElem?_eq_some_iff.1 hx).1
              rw [List.drop_eq_getElem_cons hlt, (List.getElem?_eq_some_iff.1 hx).2]
            rw [hd] at hW4
            clear hx hd
            have hp := World11.Wk.next_some x hW4 ⟨by omega, by omega⟩ ⟨by omega, by omega⟩
            clear hW4
            cases x
            all_goals (
              go_wp2_with fail
              refine hp.mono ?_
              rintro e v5 ⟨rfl, hW5⟩
              clear hp
              simp only [if_true, if_false, Bool.false_eq_true] at hW5
              have hcr : v5.cell? ⟨b0, off0 + k, none⟩ = some (.bool _) := (hW5.below.cell (p := ⟨b0, off0 + k, none⟩) hbx).trans hcx
              clear hcx
              go_wp2_with fail
              go_roundw)
            case rel => exact ⟨k + 1, ng, nb + 1, by go_num, by go_num, by omega, by omega, by omega, by simpa using hW5⟩
            case measure => simp [intOf]; omega
            case rel => exact ⟨k + 1, ng + 1, nb, by go_num, by go_num, by omega, by omega, by omega, by simpa using hW5⟩
            case measure => simp [intOf]; omega
          · have hW5 : World11.Wk w wb rb (.slice a l0.length c) (l0.map RingBool.val) [] ng nb wr := by have h1 := hW4; rwa [List.drop_eq_nil_of_le (by have := HLL.out; omega)] at h1
            clear hW4
            go_wp2_with fail
            refine (hW5.next_none ⟨by omega, by omega⟩).mono ?_
            rintro e v6 ⟨rfl, hW6⟩
            go_wp2_with fail
            refine hW6.asked.mono ?_
            rintro e v7 ⟨rfl, hW7⟩
            have hs1 := hW7.at
            have hs2 := hsl.stable (w' := v7) fun p u hp => (hW7.below.cell (World.block_lt_of_cell? _ _ hp)).trans hp
            go_wp2_with fail
            refine (Ref01.bools_any _ _ _ _ _ hs1 hs2).mono ?_
            rintro e v8 ⟨rfl, n, rfl⟩
            have hW8 := hW7.wd.drewN n
            clear hs1 hs2 hW7
            simp only [decide_true]
            go_wp2_with fail
            refine hW8.ahead.mono ?_
            rintro e v9 ⟨a2, c2, rfl, hS, hW9⟩
            go_wp2_with fail
            all_goals go_ret
            all_goals exact ⟨rfl, hW9.below⟩
  · go_wp2_with fail
    go_ret
    exact ⟨rfl, hW.below⟩

set_option maxRecDepth 100000 in
theorem lifted (os : Os) (started : os.Started) (H : Type) (enc : TypeId × Value → H) :
    ReturnsInHanded {} Try.checked os 6 .any (Rows.worldOrderSpec.pre6 enc Try.prog Try.f6 Rows.worldOrderRow.domain false) (Rows.worldOrderSpec.post enc Try.prog Try.f6 false true false false) := by
  refine returnsInHanded_of_change (C := Try.checked) own started (by kernel_rfl) Try.func6
    (ChangeSpec.witness6 (enc := enc) (C := Try.checked) false ⟨#[], #[.slice none 0 0], []⟩ 8 (by kernel_rfl) (by kernel_rfl) (by kernel_rfl) (by kernel_rfl)) ?_
  intro W base args ds gs before hval0 hW hcnd _
  have hval : ∀ (j : Nat) t v, Try.f6.params[j]? = some t → args[j]? = some v → Value.okWide Try.prog W .any base t v := hval0
  have hW' := hW
  obtain ⟨p, q, hA0, hV, rfl, hfz, hnd⟩ := hW
  have hA : DataW.TrodAll enc Try.prog W 0 (fun _ => true) true Try.f6.params.toList args.toList ds p := hA0
  rw [Try.params6] at hA hval
  obtain ⟨v0, vs0, d0, ds0, p0, q0, hargs, rfl, rfl, h0, r0⟩ := trodAll_cons hA
  obtain ⟨rfl, rfl, rfl⟩ := trodAll_nil r0
  obtain rfl : args = #[v0] := by cases args; simp_all
  obtain ⟨rfl, rfl⟩ := trodVars_none hV
  obtain ⟨a0, len0, cap0, rfl⟩ := okWide_slice Try.underlying26 (hval 0 26 v0 rfl rfl)
  have k0 := h0
  have lt0 : ∀ x ∈ p0, x.block < W.heap.size := by obtain ⟨m, hm⟩ := k0; exact DataW.trod_lt m _ _ _ hm
  obtain ⟨b0, off0, l0, w0⟩ : ∃ b off l, Base.BoolsAt W a0 len0 cap0 b off l := by
    obtain ⟨fuel, hf⟩ := h0
    rcases Go.Deep.open_bools Try.underlying26 Try.underlying4 (by kernel_rfl) hf with ⟨hcs, _⟩ | ⟨x, l, c, zs, hcs, _, hl, hm, _, hcell⟩
    · simp [Value.cells] at hcs
      obtain ⟨rfl, rfl, rfl⟩ := hcs
      exact ⟨0, 0, [], Base.boolsAt_nil _⟩
    · simp [Value.cells] at hcs
      obtain ⟨rfl, rfl, rfl⟩ := hcs
      obtain ⟨b, off, h⟩ := Base.boolsAt_some hl hm hcell
      exact ⟨b, off, _, h⟩
  clear hA0 hval0
  refine (walk a0 len0 cap0 b0 off0 l0 W w0).mono fun e W' ⟨he, bel⟩ => ?_
  subst he
  exact ⟨_, rfl, _, _, _, [], _, [], hW', trodAll_mk1 (shut_bool Try.underlying4 _), (trodAll_cons_mk (Below.trod laidOut (by kernel_rfl) (of_decide_eq_true (by kernel_rfl)) k0 bel lt0) trodAll_mk0), rfl, bel.frame _, fun h => by cases h⟩

theorem over : Rows.worldOrderRow.holds Try.pinned (OpenSpec.ofChange Rows.worldOrderSpec) :=
  OpenClaim.holds_of_wide 6 Try.f6 rfl rfl rfl rfl rfl rfl rfl ⟨rfl, rfl, rfl, rfl, rfl⟩ rfl rfl rfl rfl rfl (by kernel_rfl) Try.func6 (by kernel_rfl)
    (of_decide_eq_true (by kernel_rfl)) (by unfold Func.isWrapper; first | (rw [if_pos (by decide +kernel)]; kernel_rfl) | (rw [if_neg (by decide +kernel)]; exact ⟨rfl, rfl⟩))
    (fun os started H enc _ => lifted os started H enc)

theorem proved : Rows.WorldOrderSaid := over
#print axioms proved
end Go.Proofs.Ytokmnjepglagjaa.worldOrder
