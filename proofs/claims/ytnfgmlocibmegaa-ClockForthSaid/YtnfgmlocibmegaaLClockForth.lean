/- ClockForth returns true for every list of times and every deadline, and leaves its arguments as they were; no condition. -/
import Derived.Test.YtnfgmlocibmegaaRows
import Derived.WalkKit
import Derived.ProofKit
import Derived.OpenShut
import Derived.ShutString
import Derived.ChangeOld
import Derived.Below
import Derived.Test.YtnfgmlocibmegaaClockLaws
import Derived.Lib.Hide
namespace Go.Proofs.Ytnfgmlocibmegaa.clockForth
open Go.ChangeShapes Go.WideShapes Go.ChangeAt Go.RowKit
open Go.ChangeMaps (open_string shut_string)
set_option linter.unusedVariables false
set_option linter.unusedSimpArgs false

theorem own : ownKnob Try.prog.godebug = none := by kernel_rfl
theorem laidOut : laidOutB Try.prog = true := by kernel_rfl

set_option maxHeartbeats 4000000 in
theorem walk (a0 : Option Addr) (len0 cap0 b0 off0 : Nat) (l0 : List Int) (a1 : Int) (w : World) (w0 : Base.IntsAt .i64 w a0 len0 cap0 b0 off0 l0) (w1 : (Lit.int .i64 a1).wf = true) :
    Calls Try.prog 4 #[.slice a0 len0 cap0, .int .i64 a1] w fun e w' => e = .returned (.bool true) ∧ Below w.heap.size w w' := by
  obtain ⟨hd0, hd1⟩ := Base.wf_i64_bounds w1
  have hsm := w0.small
  go_enter Try.func4, Try.ntmps4
  go_wp2_with (first
    | (go_at_call 7; refine (Clock.awake_any _).mono ?_; rintro e w2 ⟨rfl, hb2⟩)
    | (go_at_call 8; refine (Clock.new_any _).mono ?_; rintro e w3 ⟨rfl, rfl⟩))
  · go_ret
    exact ⟨rfl, hb2.alloc hb2.size _⟩
  · have hbel : Below w.heap.size w (w2.alloc (Obj.cells #[Value.int IntKind.i64 0] 34)) := hb2.alloc hb2.size _
    go_loopw [7] (fun i wr => ∃ (k : Nat) (now : Int), k ≤ len0 ∧ 0 ≤ now ∧ now ≤ 1099511627776 ∧ i = .int .i64 k ∧ Below w.heap.size w wr ∧
        wr.cell? ⟨w2.heap.size, 0, none⟩ = some (.int .i64 now) ∧ wr.frozen? ⟨w2.heap.size, 0, none⟩ = false) (fun i _ => len0 - (intOf i).toNat)
    case atStart => exact ⟨0, 0, by omega, by omega, by omega, rfl, hbel, by simp, by simp⟩
    case round =>
      obtain ⟨k, now, hk, hn0, hn1, rfl, hbr, hc, hf⟩ := hrel
      have hsz := hb2.size
      by_cases hlt : k < len0
      · obtain ⟨x, hx, hwx, hcx, rfl, hbx⟩ := w0.get hlt
        obtain ⟨hx0, hx1⟩ := Base.wf_i64_bounds hwx
        have hcr : wr.cell? ⟨b0, off0 + k, none⟩ = some (.int .i64 x) := by rw [hbr.cell (p := ⟨b0, off0 + k, none⟩) hbx]; exact hcx
        obtain ⟨ht0, ht1, ht2⟩ := Clock.tick_bd now x hn0 hn1
        have hcs := World.cell?_setCell_same wr ⟨w2.heap.size, 0, none⟩ (.int .i64 (Clock.tick now x)) hc
        have hcd : ((wr.setCell ⟨w2.heap.size, 0, none⟩ (.int .i64 (Clock.tick now x))).drew).cell? ⟨w2.heap.size, 0, none⟩ = some (.int .i64 (Clock.tick now x)) := hcs
        clear hx hcx
        have hrel' : Below w.heap.size w ((wr.setCell ⟨w2.heap.size, 0, none⟩ (.int .i64 (Clock.tick now x))).drew) := (hbr.setCell hsz _).drew
        by_cases hq : a1 ≤ Clock.tick now x
        · have hm : (max 0 (a1 - Clock.tick now x) == 0) = true := by simp; omega
          have hq' : decide (a1 ≤ Clock.tick now x) = true := by simpa using hq
          by_cases hp : a1 ≤ now
          all_goals
            go_wp2_with (first
              | (go_at_call 10; refine (Clock.tick_any _ _ now x hc hf hn0 hn1 hx0 hx1).mono ?_; rintro e w3 ⟨rfl, rfl⟩)
              | (go_at_call 12; (with_reducible refine (Clock.past_any _ _ _ _ hcd).mono ?_); rintro e w' ⟨rfl, rfl⟩)
              | (go_at_call 12; (with_reducible refine (Clock.past_any _ _ _ _ hc).mono ?_); rintro e w' ⟨rfl, rfl⟩)
              | (go_at_call 13; refine (Clock.left_any _ _ _ _ hcd ht0 ht1 hd0 hd1).mono ?_; rintro e w' ⟨rfl, rfl⟩)
              | (go_at_call 11; refine (Clock.now_any _ _ now hc).mono ?_; rintro e w' ⟨rfl, rfl⟩))
            go_roundw
            case rel => exact ⟨k + 1, _, by omega, ht0, ht1, by go_num, hrel', hcs, by simp [hf]⟩
            case measure => simp [intOf]; omega
        · have hm : (max 0 (a1 - Clock.tick now x) == 0) = false := by simp; omega
          have hq' : decide (a1 ≤ Clock.tick now x) = false := by simpa using hq
          have hp : ¬ a1 ≤ now := by omega
          go_wp2_with (first
            | (go_at_call 10; refine (Clock.tick_any _ _ now x hc hf hn0 hn1 hx0 hx1).mono ?_; rintro e w3 ⟨rfl, rfl⟩)
            | (go_at_call 12; (with_reducible refine (Clock.past_any _ _ _ _ hcd).mono ?_); rintro e w' ⟨rfl, rfl⟩)
            | (go_at_call 12; (with_reducible refine (Clock.past_any _ _ _ _ hc).mono ?_); rintro e w' ⟨rfl, rfl⟩)
            | (go_at_call 13; refine (Clock.left_any _ _ _ _ hcd ht0 ht1 hd0 hd1).mono ?_; rintro e w' ⟨rfl, rfl⟩)
            | (go_at_call 11; refine (Clock.now_any _ _ now hc).mono ?_; rintro e w' ⟨rfl, rfl⟩))
          go_roundw
          case rel => exact ⟨k + 1, _, by omega, ht0, ht1, by go_num, hrel', hcs, by simp [hf]⟩
          case measure => simp [intOf]; omega
      · by_cases hq : a1 ≤ now
        · have hm : max 0 (a1 - now) = 0 := by omega
          go_wp2_with (go_at_call 13; refine (Clock.left_any _ _ now _ hc hn0 hn1 hd0 hd1).mono ?_; rintro e w' ⟨rfl, rfl⟩; rw [hm])
          all_goals go_ret
          all_goals exact ⟨rfl, hbr⟩
        · have hm : max 0 (a1 - now) = a1 - now := by omega
          have ht1 : Clock.tick now (a1 - now - 1) = min (a1 - 1) 1099511627776 := by unfold Clock.tick; omega
          by_cases hbig : 1099511627776 < a1
          · go_wp2_with (go_at_call 13; refine (Clock.left_any _ _ now _ hc hn0 hn1 hd0 hd1).mono ?_; rintro e w' ⟨rfl, rfl⟩; rw [hm])
            go_ret
            exact ⟨rfl, hbr⟩
          · have ht1 : Clock.tick now (a1 - now - 1) = a1 - 1 := by unfold Clock.tick; omega
            have ht2 : Clock.tick (a1 - 1) 1 = a1 := by unfold Clock.tick; omega
            have hz : ((a1 - now) == 0) = false := by simp; omega
            have hcs := World.cell?_setCell_same wr ⟨w2.heap.size, 0, none⟩ (.int .i64 (a1 - 1)) hc
            have hcd : ((wr.setCell ⟨w2.heap.size, 0, none⟩ (.int .i64 (a1 - 1))).drew).cell? ⟨w2.heap.size, 0, none⟩ = some (.int .i64 (a1 - 1)) := hcs
            have hfd : ((wr.setCell ⟨w2.heap.size, 0, none⟩ (.int .i64 (a1 - 1))).drew).frozen? ⟨w2.heap.size, 0, none⟩ = false := by simp [hf]
            have hcd2 : ((((wr.setCell ⟨w2.heap.size, 0, none⟩ (.int .i64 (a1 - 1))).drew).setCell ⟨w2.heap.size, 0, none⟩ (.int .i64 a1)).drew).cell? ⟨w2.heap.size, 0, none⟩ = some (.int .i64 a1) := World.cell?_setCell_same _ _ _ hcd
            have hA : -9223372036854775808 ≤ a1 - now - 1 := by omega
            have hB : a1 - now - 1 ≤ 9223372036854775807 := by omega
            have hC : 0 ≤ a1 - 1 := by omega
            have hD : a1 - 1 ≤ 1099511627776 := by omega
            have Ht1 := Lib.hid ht1
            have Ht2 := Lib.hid ht2
            have Hm := Lib.hid hm
            clear ht1 ht2 hm
            go_wp2_with (first
              | (go_at_call 13; refine (Clock.left_any _ _ now _ hc hn0 hn1 hd0 hd1).mono ?_; rintro e w' ⟨rfl, rfl⟩; rw [Hm.out])
              | (go_at_call 12; (with_reducible refine (Clock.past_any _ _ _ _ hcd).mono ?_); rintro e w' ⟨rfl, rfl⟩)
              | (go_at_call 12; refine (Clock.past_any _ _ a1 _ hcd2).mono ?_; rintro e w' ⟨rfl, rfl⟩)
              | (go_at_call 10; (with_reducible refine (Clock.tick_any _ _ now (a1 - now - 1) hc hf hn0 hn1 hA hB).mono ?_); rintro e w3 ⟨rfl, rfl⟩; rw [Ht1.out])
              | (go_at_call 10; refine (Clock.tick_any _ _ (a1 - 1) 1 hcd hfd hC hD (by omega) (by omega)).mono ?_; rintro e w3 ⟨rfl, rfl⟩; rw [Ht2.out]))
            go_ret
            refine ⟨Base.ret_bool (by simp; omega), ?_⟩
            repeat (first | exact hbr | apply Below.drew | refine Below.setCell ?_ hsz _)

set_option maxRecDepth 100000 in
theorem lifted (os : Os) (started : os.Started) (H : Type) (enc : TypeId × Value → H) :
    ReturnsInHanded {} Try.checked os 4 .any (Rows.clockForthSpec.pre6 enc Try.prog Try.f4 Rows.clockForthRow.domain false) (Rows.clockForthSpec.post enc Try.prog Try.f4 false true false false) := by
  refine returnsInHanded_of_change (C := Try.checked) own started (by kernel_rfl) Try.func4
    (ChangeSpec.witness6 (enc := enc) (C := Try.checked) false ⟨#[], #[.slice none 0 0, .int .i64 0], []⟩ 8 (by kernel_rfl) (by kernel_rfl) (by kernel_rfl) (by kernel_rfl)) ?_
  intro W base args ds gs before hval0 hW hcnd _
  have hval : ∀ (j : Nat) t v, Try.f4.params[j]? = some t → args[j]? = some v → Value.okWide Try.prog W .any base t v := hval0
  have hW' := hW
  obtain ⟨p, q, hA0, hV, rfl, hfz, hnd⟩ := hW
  have hA : DataW.TrodAll enc Try.prog W 0 (fun _ => true) true Try.f4.params.toList args.toList ds p := hA0
  rw [Try.params4] at hA hval
  obtain ⟨v0, vs0, d0, ds0, p0, q0, hargs, rfl, rfl, h0, r0⟩ := trodAll_cons hA
  obtain ⟨v1, vs1, d1, ds1, p1, q1, rfl, rfl, rfl, h1, r1⟩ := trodAll_cons r0
  obtain ⟨rfl, rfl, rfl⟩ := trodAll_nil r1
  obtain rfl : args = #[v0, v1] := by cases args; simp_all
  obtain ⟨rfl, rfl⟩ := trodVars_none hV
  obtain ⟨a0, len0, cap0, rfl⟩ := okWide_slice Try.underlying22 (hval 0 22 v0 rfl rfl)
  have k0 := h0
  have lt0 : ∀ x ∈ p0, x.block < W.heap.size := by obtain ⟨m, hm⟩ := k0; exact DataW.trod_lt m _ _ _ hm
  obtain ⟨b0, off0, l0, w0⟩ : ∃ b off l, Base.IntsAt .i64 W a0 len0 cap0 b off l := by
    obtain ⟨fuel, hf⟩ := h0
    rcases open_ints Try.underlying22 Try.underlying3 (by kernel_rfl) hf with ⟨hcs, _⟩ | ⟨x, l, c, zs, hcs, _, hl, hm, hz, _, hcell, hwz⟩
    · simp [Value.cells] at hcs
      obtain ⟨rfl, rfl, rfl⟩ := hcs
      exact ⟨0, 0, [], Base.intsAt_nil _ _⟩
    · simp [Value.cells] at hcs
      obtain ⟨rfl, rfl, rfl⟩ := hcs
      obtain ⟨b, off, h⟩ := Base.intsAt_some hl hm (by simpa using hz) hcell hwz
      exact ⟨b, off, _, h⟩
  obtain ⟨a1, rfl, rfl, rfl, w1⟩ := open_int Try.underlying3 (hval 1 3 v1 rfl rfl) h1
  clear hA0 hval0
  refine (walk a0 len0 cap0 b0 off0 l0 a1 W w0 w1).mono fun e W' ⟨he, bel⟩ => ?_
  subst he
  exact ⟨_, rfl, _, _, _, [], _, [], hW', trodAll_mk1 (shut_bool Try.underlying4 _), (trodAll_cons_mk (Below.trod laidOut (by kernel_rfl) (of_decide_eq_true (by kernel_rfl)) k0 bel lt0) (trodAll_cons_mk (shut_int Try.underlying3 w1) trodAll_mk0)), rfl, bel.frame _, fun h => by cases h⟩

theorem over : Rows.clockForthRow.holds Try.pinned (OpenSpec.ofChange Rows.clockForthSpec) :=
  OpenClaim.holds_of_wide 4 Try.f4 rfl rfl rfl rfl rfl rfl rfl ⟨rfl, rfl, rfl, rfl, rfl⟩ rfl rfl rfl rfl rfl (by kernel_rfl) Try.func4 (by kernel_rfl)
    (of_decide_eq_true (by kernel_rfl)) (by unfold Func.isWrapper; first | (rw [if_pos (by decide +kernel)]; kernel_rfl) | (rw [if_neg (by decide +kernel)]; exact ⟨rfl, rfl⟩))
    (fun os started H enc _ => lifted os started H enc)

theorem proved : Rows.ClockForthSaid := over
#print axioms proved
end Go.Proofs.Ytnfgmlocibmegaa.clockForth
