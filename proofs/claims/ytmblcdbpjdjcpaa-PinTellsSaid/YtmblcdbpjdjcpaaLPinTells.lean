/- PinTells returns true for every list of words, every place and every epoch, and leaves its arguments as they were; no condition. -/
import Derived.Test.YtmblcdbpjdjcpaaRows
import Derived.WalkKit
import Derived.ProofKit
import Derived.OpenShut
import Derived.ShutString
import Derived.ChangeOld
import Derived.Below
import Derived.Test.YtmblcdbpjdjcpaaPinAwake
namespace Go.Proofs.Ytmblcdbpjdjcpaa.pinTells
open Go.ChangeShapes Go.WideShapes Go.ChangeAt Go.RowKit
open Go.ChangeMaps (open_string shut_string)
set_option linter.unusedVariables false
set_option linter.unusedSimpArgs false

theorem own : ownKnob Try.prog.godebug = none := by kernel_rfl
theorem laidOut : laidOutB Try.prog = true := by kernel_rfl

set_option maxHeartbeats 4000000 in
set_option maxRecDepth 100000 in
theorem walk (a0 : Option Addr) (len0 cap0 b0 off0 : Nat) (l0 : List Int) (a1 : Int) (a2 : Int) (w : World) (w0 : Base.IntsAt .i64 w a0 len0 cap0 b0 off0 l0) (w1 : (Lit.int .i64 a1).wf = true) (w2 : (Lit.int .i64 a2).wf = true) :
    Calls Try.prog 3 #[.slice a0 len0 cap0, .int .i64 a1, .int .i64 a2] w fun e w' => e = .returned (.bool true) ∧ Below w.heap.size w w' := by
  obtain ⟨hs0, hs1⟩ := Base.wf_i64_bounds w1
  obtain ⟨he0, he1⟩ := Base.wf_i64_bounds w2
  have hsl := w0.at
  have hsm := w0.small
  have hlen : len0 = l0.length := w0.len_eq
  subst hlen
  have hw64 : ∀ x ∈ l0, Pin.W64 x := fun x hx => Base.wf_i64_bounds (w0.wf x hx)
  go_enter Try.func3, Try.ntmps3
  go_wp2_with fail
  refine (Ref09.awake_any _).mono ?_
  rintro e v2 ⟨rfl, hb2⟩
  have hsl2 := hsl.below hb2
  go_wp2_with fail
  refine (Ref09.few_any _ _ _ _ hsl2).mono ?_
  rintro e v3 ⟨rfl, ⟨rfl, hfew⟩ | ⟨rfl, hfew⟩⟩
  · by_cases hg : 0 ≤ a2 ∧ a2 ≤ 1099511627776
    · obtain ⟨g0, g1⟩ := hg
      go_wp2_with fail
      go_loopw [9] (fun i wr => ∃ k : Nat, k ≤ l0.length ∧ i = .int .i64 k ∧ ∃ n, wr = v2.drewN n) (fun i _ => l0.length - (intOf i).toNat)
      case atStart => exact ⟨0, by omega, rfl, 0, rfl⟩
      case round =>
        obtain ⟨k, hk, rfl, n, hn⟩ := hrel
        have hslr := hsl2.stable (w' := wr) (fun p u hp => by rw [hn]; exact hp)
        have hb3 : Below w.heap.size w wr := by rw [hn]; exact ⟨hb2.os, hb2.tape, hb2.output, hb2.size, hb2.block⟩
        have Hn := Lib.hid hn
        clear hn
        by_cases hlt : k < l0.length
        · obtain ⟨g, off, rfl, hx⟩ := Ref09.at_cell hslr hlt
          have hwk := hfew.1 _ (List.getElem_mem hlt)
          generalize l0[k] = x at hx hwk
          obtain ⟨hw0, hw1⟩ := hwk
          have hk1 : (0 : Int) ≤ (k : Int) := by omega
          have hk2 : (k : Int) < (l0.length : Int) := by omega
          have hB1 := fun w => (Pin.blocks_any w x a2 (by omega)).mono (R' := fun r w' => r = .returned (.bool (Pin.blk x a2)) ∧ w' = w) fun _ _ h => ⟨h.1, h.2.symm⟩
          have hB2 := fun w => (Ref09.blocks_any w x a2 (by omega)).mono (R' := fun r w' => r = .returned (.bool (Pin.blk x a2)) ∧ w' = w) fun _ _ h => ⟨h.1, h.2.symm⟩
          generalize Pin.blk x a2 = bb at hB1 hB2
          have HB1 := Lib.hid hB1
          have HB2 := Lib.hid hB2
          clear hB1 hB2 hfew
          cases bb
          all_goals by_cases hpos : 1 ≤ x
          · have hd : decide (0 < x) = true := by simp; omega
            have hne : ((x - 1) != (x - 1)) = false := by simp
            go_wp2_with fail
            refine (Pin.epoch_yes _ x hpos (by omega)).mono ?_
            rintro r w' ⟨rfl, rfl⟩
            go_wp2_with fail
            go_quiet ((first
              | (go_at_call 10; exact Calls.quiet_of_same (HB1.out _))
              | (go_at_call 11; exact Calls.quiet_of_same (HB2.out _))))
            go_wp2_with fail
            go_roundw
            case rel => exact ⟨k + 1, by omega, by go_num, by rw [Hn.out]; exact ⟨_, World.drewN_drewN ..⟩⟩
            case measure => simp [intOf]; omega
          · have hd : decide (0 < x) = false := by simp; omega
            go_wp2_with fail
            refine (Pin.epoch_no _ x (by omega)).mono ?_
            rintro r w' ⟨rfl, rfl⟩
            go_wp2_with fail
            go_quiet ((first
              | (go_at_call 10; exact Calls.quiet_of_same (HB1.out _))
              | (go_at_call 11; exact Calls.quiet_of_same (HB2.out _))))
            go_wp2_with fail
            go_roundw
            case rel => exact ⟨k + 1, by omega, by go_num, by rw [Hn.out]; exact ⟨_, World.drewN_drewN ..⟩⟩
            case measure => simp [intOf]; omega
          · have hd : decide (0 < x) = true := by simp; omega
            have hne : ((x - 1) != (x - 1)) = false := by simp
            go_wp2_with fail
            refine (Pin.epoch_yes _ x hpos (by omega)).mono ?_
            rintro r w' ⟨rfl, rfl⟩
            go_wp2_with fail
            go_quiet ((first
              | (go_at_call 10; exact Calls.quiet_of_same (HB1.out _))
              | (go_at_call 11; exact Calls.quiet_of_same (HB2.out _))))
            go_wp2_with fail
            go_roundw
            case rel => exact ⟨k + 1, by omega, by go_num, by rw [Hn.out]; exact ⟨_, World.drewN_drewN ..⟩⟩
            case measure => simp [intOf]; omega
          · have hd : decide (0 < x) = false := by simp; omega
            go_wp2_with fail
            refine (Pin.epoch_no _ x (by omega)).mono ?_
            rintro r w' ⟨rfl, rfl⟩
            go_wp2_with fail
            go_quiet ((first
              | (go_at_call 10; exact Calls.quiet_of_same (HB1.out _))
              | (go_at_call 11; exact Calls.quiet_of_same (HB2.out _))))
            go_wp2_with fail
            go_roundw
            case rel => exact ⟨k + 1, by omega, by go_num, by rw [Hn.out]; exact ⟨_, World.drewN_drewN ..⟩⟩
            case measure => simp [intOf]; omega
        · have hsl3 := hsl.below hb3
          have hL1 := Pin.least_any _ _ _ _ hsl3 hw64
          go_wp2_with fail
          refine hL1.mono ?_
          rintro r v4 ⟨rfl, hb4⟩
          have b4 := hb3.trans (hb4.mono hb3.size)
          have hsl4 := hsl.below b4
          have hL2 := Ref09.least_any _ _ _ _ hsl4 hw64
          go_wp2_with fail
          refine hL2.mono ?_
          rintro r v5 ⟨rfl, n5, rfl⟩
          have b5 : Below w.heap.size w (v4.drewN n5) := ⟨b4.os, b4.tape, b4.output, b4.size, b4.block⟩
          have hsl5 := hsl.below b5
          generalize v4.drewN n5 = v5 at *
          have hF1 := Pin.free_any _ _ _ _ a1 a2 hsl5 hw64
          have e1 : ((Pin.lst l0).1 == (Pin.lst l0).1) = true := by simp
          have e2 : ((Pin.lst l0).2 == (Pin.lst l0).2) = true := by simp
          go_wp2_with fail
          refine hF1.mono ?_
          rintro r v6 ⟨rfl, hb6⟩
          have b6 := b5.trans (hb6.mono b5.size)
          have hsl6 := hsl.below b6
          have hF2 := Ref09.free_any _ _ _ _ a1 a2 hsl6 hw64
          generalize Pin.blockedB l0 a1 a2 = bb at *
          have e3 : ((!bb) == (!bb)) = true := by simp
          go_wp2_with fail
          refine hF2.mono ?_
          rintro r v7 ⟨rfl, rfl⟩
          go_wp2_with fail
          go_ret
          first | exact ⟨rfl, b6⟩ | exact ⟨Base.ret_bool (by simp), b6⟩
    · go_wp2_with fail
      all_goals go_ret
      all_goals exact ⟨rfl, hb2⟩
  · go_wp2_with fail
    go_ret
    exact ⟨rfl, hb2⟩

set_option maxRecDepth 100000 in
theorem lifted (os : Os) (started : os.Started) (H : Type) (enc : TypeId × Value → H) :
    ReturnsInHanded {} Try.checked os 3 .any (Rows.pinTellsSpec.pre6 enc Try.prog Try.f3 Rows.pinTellsRow.domain false) (Rows.pinTellsSpec.post enc Try.prog Try.f3 false true false false) := by
  refine returnsInHanded_of_change (C := Try.checked) own started (by kernel_rfl) Try.func3
    (ChangeSpec.witness6 (enc := enc) (C := Try.checked) false ⟨#[], #[.slice none 0 0, .int .i64 0, .int .i64 0], []⟩ 8 (by kernel_rfl) (by kernel_rfl) (by kernel_rfl) (by kernel_rfl)) ?_
  intro W base args ds gs before hval0 hW hcnd _
  have hval : ∀ (j : Nat) t v, Try.f3.params[j]? = some t → args[j]? = some v → Value.okWide Try.prog W .any base t v := hval0
  have hW' := hW
  obtain ⟨p, q, hA0, hV, rfl, hfz, hnd⟩ := hW
  have hA : DataW.TrodAll enc Try.prog W 0 (fun _ => true) true Try.f3.params.toList args.toList ds p := hA0
  rw [Try.params3] at hA hval
  obtain ⟨v0, vs0, d0, ds0, p0, q0, hargs, rfl, rfl, h0, r0⟩ := trodAll_cons hA
  obtain ⟨v1, vs1, d1, ds1, p1, q1, rfl, rfl, rfl, h1, r1⟩ := trodAll_cons r0
  obtain ⟨v2, vs2, d2, ds2, p2, q2, rfl, rfl, rfl, h2, r2⟩ := trodAll_cons r1
  obtain ⟨rfl, rfl, rfl⟩ := trodAll_nil r2
  obtain rfl : args = #[v0, v1, v2] := by cases args; simp_all
  obtain ⟨rfl, rfl⟩ := trodVars_none hV
  obtain ⟨a0, len0, cap0, rfl⟩ := okWide_slice Try.underlying22 (hval 0 22 v0 rfl rfl)
  have k0 := h0
  have lt0 : ∀ x ∈ p0, x.block < W.heap.size := by obtain ⟨m, hm⟩ := k0; exact DataW.trod_lt m _ _ _ hm
  obtain ⟨b0, off0, l0, w0⟩ : ∃ b off l, Base.IntsAt .i64 W a0 len0 cap0 b off l := by
    obtain ⟨fuel, hf⟩ := h0
    rcases open_ints Try.underlying22 Try.underlying3 (by kernel_rfl) hf with ⟨hcs, _⟩ | ⟨x, l, c, zs, hcs, _, hl, hm, hz, _, hcell, hwz⟩
    · simp [Value.cells] at hcs
      obtain ⟨rfl, rfl, rfl⟩ := hcs
      exact ⟨0, 0, [], Base.intsAt_nil _ _⟩
    · simp [Value.cells] at hcs
      obtain ⟨rfl, rfl, rfl⟩ := hcs
      obtain ⟨b, off, h⟩ := Base.intsAt_some hl hm (by simpa using hz) hcell hwz
      exact ⟨b, off, _, h⟩
  obtain ⟨a1, rfl, rfl, rfl, w1⟩ := open_int Try.underlying3 (hval 1 3 v1 rfl rfl) h1
  obtain ⟨a2, rfl, rfl, rfl, w2⟩ := open_int Try.underlying3 (hval 2 3 v2 rfl rfl) h2
  clear hA0 hval0
  refine (walk a0 len0 cap0 b0 off0 l0 a1 a2 W w0 w1 w2).mono fun e W' ⟨he, bel⟩ => ?_
  subst he
  exact ⟨_, rfl, _, _, _, [], _, [], hW', trodAll_mk1 (shut_bool Try.underlying4 _), (trodAll_cons_mk (Below.trod laidOut (by kernel_rfl) (of_decide_eq_true (by kernel_rfl)) k0 bel lt0) (trodAll_cons_mk (shut_int Try.underlying3 w1) (trodAll_cons_mk (shut_int Try.underlying3 w2) trodAll_mk0))), rfl, bel.frame _, fun h => by cases h⟩

theorem over : Rows.pinTellsRow.holds Try.pinned (OpenSpec.ofChange Rows.pinTellsSpec) :=
  OpenClaim.holds_of_wide 3 Try.f3 rfl rfl rfl rfl rfl rfl rfl ⟨rfl, rfl, rfl, rfl, rfl⟩ rfl rfl rfl rfl rfl (by kernel_rfl) Try.func3 (by kernel_rfl)
    (of_decide_eq_true (by kernel_rfl)) (by unfold Func.isWrapper; first | (rw [if_pos (by decide +kernel)]; kernel_rfl) | (rw [if_neg (by decide +kernel)]; exact ⟨rfl, rfl⟩))
    (fun os started H enc _ => lifted os started H enc)

theorem proved : Rows.PinTellsSaid := over
#print axioms proved
end Go.Proofs.Ytmblcdbpjdjcpaa.pinTells
