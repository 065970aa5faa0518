/- ClockPlays returns true for every list of times and every deadline, and leaves its arguments as they were; no condition. -/
import Derived.Test.YtnfgmlocibmegaaRows
import Derived.WalkKit
import Derived.ProofKit
import Derived.OpenShut
import Derived.ShutString
import Derived.ChangeOld
import Derived.Below
import Derived.Test.YtnfgmlocibmegaaClockLaws
namespace Go.Proofs.Ytnfgmlocibmegaa.clockPlays
open Go.ChangeShapes Go.WideShapes Go.ChangeAt Go.RowKit
open Go.ChangeMaps (open_string shut_string)
set_option linter.unusedVariables false
set_option linter.unusedSimpArgs false

theorem own : ownKnob Try.prog.godebug = none := by kernel_rfl
theorem laidOut : laidOutB Try.prog = true := by kernel_rfl

theorem walk (a0 : Option Addr) (len0 cap0 b0 off0 : Nat) (l0 : List Int) (a1 : Int) (w : World) (w0 : Base.IntsAt .i64 w a0 len0 cap0 b0 off0 l0) (w1 : (Lit.int .i64 a1).wf = true) :
    Calls Try.prog 3 #[.slice a0 len0 cap0, .int .i64 a1] w fun e w' => e = .returned (.bool true) ∧ Below w.heap.size w w' := by
  obtain ⟨hd0, hd1⟩ := Base.wf_i64_bounds w1
  have hsm := w0.small
  go_enter Try.func3, Try.ntmps3
  go_wp2_with (first
    | (go_at_call 7; refine (Clock.awake_any _).mono ?_; rintro e w2 ⟨rfl, hb2⟩)
    | (go_at_call 8; refine (Clock.new_any _).mono ?_; rintro e w3 ⟨rfl, rfl⟩))
  · go_ret
    exact ⟨rfl, hb2.alloc hb2.size _⟩
  · have hbel : Below w.heap.size w (w2.alloc (Obj.cells #[Value.int IntKind.i64 0] 34)) := hb2.alloc hb2.size _
    go_loopw [7, 8] (fun n i wr => ∃ (k : Nat) (now : Int), k ≤ len0 ∧ 0 ≤ now ∧ now ≤ 1099511627776 ∧ n = .int .i64 now ∧ i = .int .i64 k ∧ Below w.heap.size w wr ∧
        wr.cell? ⟨w2.heap.size, 0, none⟩ = some (.int .i64 now) ∧ wr.frozen? ⟨w2.heap.size, 0, none⟩ = false) (fun _ i _ => len0 - (intOf i).toNat)
    case atStart => exact ⟨0, 0, by omega, by omega, by omega, rfl, rfl, hbel, by simp, by simp⟩
    case round =>
      obtain ⟨k, now, hk, hn0, hn1, rfl, rfl, hbr, hc, hf⟩ := hrel
      have hsz := hb2.size
      by_cases hlt : k < len0
      · obtain ⟨x, hx, hwx, hcx, rfl, hbx⟩ := w0.get hlt
        obtain ⟨hx0, hx1⟩ := Base.wf_i64_bounds hwx
        have hcr : wr.cell? ⟨b0, off0 + k, none⟩ = some (.int .i64 x) := by rw [hbr.cell (p := ⟨b0, off0 + k, none⟩) hbx]; exact hcx
        obtain ⟨ht0, ht1, _⟩ := Clock.tick_bd now x hn0 hn1
        clear hx hcx
        go_wp2_with (first
          | (go_at_call 9; refine (Clock.refTick_any _ _ _ hn0 hn1 hx0 hx1).mono ?_; rintro e w3 ⟨rfl, rfl⟩)
          | (go_at_call 14; refine (Clock.refLeft_any _ _ _ ht0 ht1 hd0 hd1).mono ?_; rintro e w3 ⟨rfl, rfl⟩)
          | (go_at_call 10; refine (Clock.tick_any _ _ now x hc hf hn0 hn1 hx0 hx1).mono ?_; rintro e w3 ⟨rfl, rfl⟩)
          | (go_at_call 12; refine (Clock.past_any _ _ (Clock.tick now x) _ (by go_simp)).mono ?_; rintro e w' ⟨rfl, rfl⟩)
          | (go_at_call 13; refine (Clock.left_any _ _ (Clock.tick now x) _ (by go_simp) ht0 ht1 hd0 hd1).mono ?_; rintro e w' ⟨rfl, rfl⟩)
          | (go_at_call 11; refine (Clock.now_any _ _ (Clock.tick now x) (by go_simp)).mono ?_; rintro e w' ⟨rfl, rfl⟩))
        have hcs := World.cell?_setCell_same wr ⟨w2.heap.size, 0, none⟩ (.int .i64 (Clock.tick now x)) hc
        go_roundw
        case rel => exact ⟨k + 1, _, by omega, ht0, ht1, rfl, by go_num, (hbr.setCell hsz _).drew, hcs, by simp [hf]⟩
        case measure => simp [intOf]; omega
      · go_wp2_with (go_at_call 11; refine (Clock.now_any _ _ now (by go_simp)).mono ?_; rintro e w' ⟨rfl, rfl⟩)
        go_ret
        exact ⟨rfl, hbr⟩

set_option maxRecDepth 100000 in
theorem lifted (os : Os) (started : os.Started) (H : Type) (enc : TypeId × Value → H) :
    ReturnsInHanded {} Try.checked os 3 .any (Rows.clockPlaysSpec.pre6 enc Try.prog Try.f3 Rows.clockPlaysRow.domain false) (Rows.clockPlaysSpec.post enc Try.prog Try.f3 false true false false) := by
  refine returnsInHanded_of_change (C := Try.checked) own started (by kernel_rfl) Try.func3
    (ChangeSpec.witness6 (enc := enc) (C := Try.checked) false ⟨#[], #[.slice none 0 0, .int .i64 0], []⟩ 8 (by kernel_rfl) (by kernel_rfl) (by kernel_rfl) (by kernel_rfl)) ?_
  intro W base args ds gs before hval0 hW hcnd _
  have hval : ∀ (j : Nat) t v, Try.f3.params[j]? = some t → args[j]? = some v → Value.okWide Try.prog W .any base t v := hval0
  have hW' := hW
  obtain ⟨p, q, hA0, hV, rfl, hfz, hnd⟩ := hW
  have hA : DataW.TrodAll enc Try.prog W 0 (fun _ => true) true Try.f3.params.toList args.toList ds p := hA0
  rw [Try.params3] at hA hval
  obtain ⟨v0, vs0, d0, ds0, p0, q0, hargs, rfl, rfl, h0, r0⟩ := trodAll_cons hA
  obtain ⟨v1, vs1, d1, ds1, p1, q1, rfl, rfl, rfl, h1, r1⟩ := trodAll_cons r0
  obtain ⟨rfl, rfl, rfl⟩ := trodAll_nil r1
  obtain rfl : args = #[v0, v1] := by cases args; simp_all
  obtain ⟨rfl, rfl⟩ := trodVars_none hV
  obtain ⟨a0, len0, cap0, rfl⟩ := okWide_slice Try.underlying22 (hval 0 22 v0 rfl rfl)
  have k0 := h0
  have lt0 : ∀ x ∈ p0, x.block < W.heap.size := by obtain ⟨m, hm⟩ := k0; exact DataW.trod_lt m _ _ _ hm
  obtain ⟨b0, off0, l0, w0⟩ : ∃ b off l, Base.IntsAt .i64 W a0 len0 cap0 b off l := by
    obtain ⟨fuel, hf⟩ := h0
    rcases open_ints Try.underlying22 Try.underlying3 (by kernel_rfl) hf with ⟨hcs, _⟩ | ⟨x, l, c, zs, hcs, _, hl, hm, hz, _, hcell, hwz⟩
    · simp [Value.cells] at hcs
      obtain ⟨rfl, rfl, rfl⟩ := hcs
      exact ⟨0, 0, [], Base.intsAt_nil _ _⟩
    · simp [Value.cells] at hcs
      obtain ⟨rfl, rfl, rfl⟩ := hcs
      obtain ⟨b, off, h⟩ := Base.intsAt_some hl hm (by simpa using hz) hcell hwz
      exact ⟨b, off, _, h⟩
  obtain ⟨a1, rfl, rfl, rfl, w1⟩ := open_int Try.underlying3 (hval 1 3 v1 rfl rfl) h1
  clear hA0 hval0
  refine (walk a0 len0 cap0 b0 off0 l0 a1 W w0 w1).mono fun e W' ⟨he, bel⟩ => ?_
  subst he
  exact ⟨_, rfl, _, _, _, [], _, [], hW', trodAll_mk1 (shut_bool Try.underlying4 _), (trodAll_cons_mk (Below.trod laidOut (by kernel_rfl) (of_decide_eq_true (by kernel_rfl)) k0 bel lt0) (trodAll_cons_mk (shut_int Try.underlying3 w1) trodAll_mk0)), rfl, bel.frame _, fun h => by cases h⟩

theorem over : Rows.clockPlaysRow.holds Try.pinned (OpenSpec.ofChange Rows.clockPlaysSpec) :=
  OpenClaim.holds_of_wide 3 Try.f3 rfl rfl rfl rfl rfl rfl rfl ⟨rfl, rfl, rfl, rfl, rfl⟩ rfl rfl rfl rfl rfl (by kernel_rfl) Try.func3 (by kernel_rfl)
    (of_decide_eq_true (by kernel_rfl)) (by unfold Func.isWrapper; first | (rw [if_pos (by decide +kernel)]; kernel_rfl) | (rw [if_neg (by decide +kernel)]; exact ⟨rfl, rfl⟩))
    (fun os started H enc _ => lifted os started H enc)

theorem proved : Rows.ClockPlaysSaid := over
#print axioms proved
end Go.Proofs.Ytnfgmlocibmegaa.clockPlays
