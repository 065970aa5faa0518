/- ClockParts returns true for every list of times, and leaves its argument as it was; no condition. -/
import Derived.Test.YtnfgmlocibmegaaRows
import Derived.WalkKit
import Derived.ProofKit
import Derived.OpenShut
import Derived.ShutString
import Derived.ChangeOld
import Derived.Below
import Derived.Test.YtnfgmlocibmegaaClockLaws
import Derived.Lib.Hide
namespace Go.Proofs.Ytnfgmlocibmegaa.clockParts
open Go.ChangeShapes Go.WideShapes Go.ChangeAt Go.RowKit
open Go.ChangeMaps (open_string shut_string)
set_option linter.unusedVariables false
set_option linter.unusedSimpArgs false

theorem own : ownKnob Try.prog.godebug = none := by kernel_rfl
theorem laidOut : laidOutB Try.prog = true := by kernel_rfl

set_option maxHeartbeats 4000000 in
theorem walk (a0 : Option Addr) (len0 cap0 b0 off0 : Nat) (l0 : List Int) (w : World) (w0 : Base.IntsAt .i64 w a0 len0 cap0 b0 off0 l0) :
    Calls Try.prog 5 #[.slice a0 len0 cap0] w fun e w' => e = .returned (.bool true) ∧ Below w.heap.size w w' := by
  have hsm := w0.small
  go_enter Try.func5, Try.ntmps5
  go_wp2_with (first
    | (go_at_call 7; refine (Clock.awake_any _).mono ?_; rintro e w2 ⟨rfl, hb2⟩)
    | (go_at_call 8; refine (Clock.new_any _).mono ?_; rintro e w3 ⟨rfl, rfl⟩))
  · go_ret
    exact ⟨rfl, (hb2.alloc hb2.size _).alloc (by simp; have := hb2.size; omega) _⟩
  · have hsz := hb2.size
    have hbel : Below w.heap.size w ((w2.alloc (Obj.cells #[Value.int IntKind.i64 0] 34)).alloc (Obj.cells #[Value.int IntKind.i64 0] 34)) := (hb2.alloc hb2.size _).alloc (by simp; omega) _
    go_outline
    have hlen : len0 ≤ 60 := by omega
    go_loopw [6, 7] (fun s i wr => ∃ (k : Nat) (now : Int), k ≤ len0 ∧ 0 ≤ now ∧ now ≤ 1048576 * k ∧ s = .int .i64 now ∧ i = .int .i64 k ∧ Below w.heap.size w wr ∧
        wr.cell? ⟨w2.heap.size, 0, none⟩ = some (.int .i64 now) ∧ wr.frozen? ⟨w2.heap.size, 0, none⟩ = false ∧
        wr.cell? ⟨w2.heap.size + 1, 0, none⟩ = some (.int .i64 0) ∧ wr.frozen? ⟨w2.heap.size + 1, 0, none⟩ = false) (fun _ i _ => len0 - (intOf i).toNat)
    case atStart => exact ⟨0, 0, by omega, by omega, by omega, rfl, rfl, hbel, by go_simp, by go_simp, by go_simp, by go_simp⟩
    case round =>
      obtain ⟨k, now, hk, hn0, hn1, rfl, rfl, hbr, hc, hf, hc', hf'⟩ := hrel
      by_cases hlt : k < len0
      · obtain ⟨x, hx, hwx, hcx, rfl, hbx⟩ := w0.get hlt
        obtain ⟨hx0, hx1⟩ := Base.wf_i64_bounds hwx
        have hcr : wr.cell? ⟨b0, off0 + k, none⟩ = some (.int .i64 x) := by rw [hbr.cell (p := ⟨b0, off0 + k, none⟩) hbx]; exact hcx
        have hcs := World.cell?_setCell_same wr ⟨w2.heap.size, 0, none⟩ (.int .i64 (now + x)) hc
        have hcs' : (wr.setCell ⟨w2.heap.size, 0, none⟩ (.int .i64 (now + x))).cell? ⟨w2.heap.size + 1, 0, none⟩ = some (.int .i64 0) := by
          rw [World.cell?_setCell_other _ _ _ _ (by simp)]; exact hc'
        clear hx hcx
        by_cases h0 : x < 0
        · go_wp2
          go_ret
          exact ⟨rfl, hbr⟩
        · by_cases h1 : 1048576 < x
          · go_wp2
            go_ret
            exact ⟨rfl, hbr⟩
          · have ht : Clock.tick now x = now + x := by unfold Clock.tick; omega
            have Ht := Lib.hid ht
            clear ht
            have hA : now ≤ 1099511627776 := by omega
            go_wp2_with (go_at_call 10; refine (Clock.tick_any _ _ now x hc hf hn0 hA hx0 hx1).mono ?_; rintro e w3 ⟨rfl, rfl⟩; rw [Ht.out])
            go_roundw
            case rel => exact ⟨k + 1, now + x, by omega, by omega, by omega, rfl, by go_num, (hbr.setCell hsz _).drew, hcs, by simp [hf], hcs', by simp [hf']⟩
            case measure => simp [intOf]; omega
      · have ht : Clock.tick 0 now = now := by unfold Clock.tick; omega
        have Ht := Lib.hid ht
        clear ht
        have hA : now ≤ 9223372036854775807 := by omega
        have hB : -9223372036854775808 ≤ now := by omega
        have hcd : ((wr.setCell ⟨w2.heap.size + 1, 0, none⟩ (.int .i64 now)).drew).cell? ⟨w2.heap.size, 0, none⟩ = some (.int .i64 now) := by
          show (wr.setCell ⟨w2.heap.size + 1, 0, none⟩ (.int .i64 now)).cell? _ = _
          rw [World.cell?_setCell_other _ _ _ _ (by simp)]; exact hc
        go_wp2_with (first
          | (go_at_call 10; refine (Clock.tick_any _ _ 0 now hc' hf' (by omega) (by omega) hB hA).mono ?_; rintro e w3 ⟨rfl, rfl⟩; rw [Ht.out])
          | (go_at_call 11; refine (Clock.now_any _ _ now hcd).mono ?_; rintro e w' ⟨rfl, rfl⟩))
        go_ret
        exact ⟨rfl, (hbr.setCell (by show w.heap.size ≤ w2.heap.size + 1; omega) _).drew⟩

set_option maxRecDepth 100000 in
theorem lifted (os : Os) (started : os.Started) (H : Type) (enc : TypeId × Value → H) :
    ReturnsInHanded {} Try.checked os 5 .any (Rows.clockPartsSpec.pre6 enc Try.prog Try.f5 Rows.clockPartsRow.domain false) (Rows.clockPartsSpec.post enc Try.prog Try.f5 false true false false) := by
  refine returnsInHanded_of_change (C := Try.checked) own started (by kernel_rfl) Try.func5
    (ChangeSpec.witness6 (enc := enc) (C := Try.checked) false ⟨#[], #[.slice none 0 0], []⟩ 8 (by kernel_rfl) (by kernel_rfl) (by kernel_rfl) (by kernel_rfl)) ?_
  intro W base args ds gs before hval0 hW hcnd _
  have hval : ∀ (j : Nat) t v, Try.f5.params[j]? = some t → args[j]? = some v → Value.okWide Try.prog W .any base t v := hval0
  have hW' := hW
  obtain ⟨p, q, hA0, hV, rfl, hfz, hnd⟩ := hW
  have hA : DataW.TrodAll enc Try.prog W 0 (fun _ => true) true Try.f5.params.toList args.toList ds p := hA0
  rw [Try.params5] at hA hval
  obtain ⟨v0, vs0, d0, ds0, p0, q0, hargs, rfl, rfl, h0, r0⟩ := trodAll_cons hA
  obtain ⟨rfl, rfl, rfl⟩ := trodAll_nil r0
  obtain rfl : args = #[v0] := by cases args; simp_all
  obtain ⟨rfl, rfl⟩ := trodVars_none hV
  obtain ⟨a0, len0, cap0, rfl⟩ := okWide_slice Try.underlying22 (hval 0 22 v0 rfl rfl)
  have k0 := h0
  have lt0 : ∀ x ∈ p0, x.block < W.heap.size := by obtain ⟨m, hm⟩ := k0; exact DataW.trod_lt m _ _ _ hm
  obtain ⟨b0, off0, l0, w0⟩ : ∃ b off l, Base.IntsAt .i64 W a0 len0 cap0 b off l := by
    obtain ⟨fuel, hf⟩ := h0
    rcases open_ints Try.underlying22 Try.underlying3 (by kernel_rfl) hf with ⟨hcs, _⟩ | ⟨x, l, c, zs, hcs, _, hl, hm, hz, _, hcell, hwz⟩
    · simp [Value.cells] at hcs
      obtain ⟨rfl, rfl, rfl⟩ := hcs
      exact ⟨0, 0, [], Base.intsAt_nil _ _⟩
    · simp [Value.cells] at hcs
      obtain ⟨rfl, rfl, rfl⟩ := hcs
      obtain ⟨b, off, h⟩ := Base.intsAt_some hl hm (by simpa using hz) hcell hwz
      exact ⟨b, off, _, h⟩
  clear hA0 hval0
  refine (walk a0 len0 cap0 b0 off0 l0 W w0).mono fun e W' ⟨he, bel⟩ => ?_
  subst he
  exact ⟨_, rfl, _, _, _, [], _, [], hW', trodAll_mk1 (shut_bool Try.underlying4 _), (trodAll_cons_mk (Below.trod laidOut (by kernel_rfl) (of_decide_eq_true (by kernel_rfl)) k0 bel lt0) trodAll_mk0), rfl, bel.frame _, fun h => by cases h⟩

theorem over : Rows.clockPartsRow.holds Try.pinned (OpenSpec.ofChange Rows.clockPartsSpec) :=
  OpenClaim.holds_of_wide 5 Try.f5 rfl rfl rfl rfl rfl rfl rfl ⟨rfl, rfl, rfl, rfl, rfl⟩ rfl rfl rfl rfl rfl (by kernel_rfl) Try.func5 (by kernel_rfl)
    (of_decide_eq_true (by kernel_rfl)) (by unfold Func.isWrapper; first | (rw [if_pos (by decide +kernel)]; kernel_rfl) | (rw [if_neg (by decide +kernel)]; exact ⟨rfl, rfl⟩))
    (fun os started H enc _ => lifted os started H enc)

theorem proved : Rows.ClockPartsSaid := over
#print axioms proved
end Go.Proofs.Ytnfgmlocibmegaa.clockParts
