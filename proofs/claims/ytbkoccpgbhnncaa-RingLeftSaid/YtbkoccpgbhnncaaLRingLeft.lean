/- RingLeft returns true for every list of numbers and every two bytes, and leaves its arguments as they were; no condition. -/
import Derived.Test.YtbkoccpgbhnncaaRows
import Derived.WalkKit
import Derived.ProofKit
import Derived.OpenShut
import Derived.ShutString
import Derived.ChangeOld
import Derived.Below
import Derived.Test.YtbkoccpgbhnncaaRingKept
import Derived.Test.YtbkoccpgbhnncaaRef01
namespace Go.Proofs.Ytbkoccpgbhnncaa.ringLeft
open Go.ChangeShapes Go.WideShapes Go.ChangeAt Go.RowKit
open Go.ChangeMaps (open_string shut_string)
set_option linter.unusedVariables false
set_option linter.unusedSimpArgs false

theorem own : ownKnob Try.prog.godebug = none := by kernel_rfl
theorem laidOut : laidOutB Try.prog = true := by kernel_rfl

set_option maxHeartbeats 4000000 in
theorem walk (a0 : Option Addr) (len0 cap0 b0 off0 : Nat) (l0 : List Int) (a1 : Int) (a2 : Int) (w : World) (w0 : Base.IntsAt .i64 w a0 len0 cap0 b0 off0 l0) (w1 : (Lit.int .u8 a1).wf = true) (w2 : (Lit.int .u8 a2).wf = true) :
    Calls Try.prog 6 #[.slice a0 len0 cap0, .int .u8 a1, .int .u8 a2] w fun e w' => e = .returned (.bool true) ∧ Below w.heap.size w w' := by
  obtain ⟨hm0, hm1⟩ := Base.wf_u8_bounds w1
  obtain ⟨hp0, hp1⟩ := Base.wf_u8_bounds w2
  have hsm := w0.small
  have Hlen := Lib.hid w0.len_eq
  have hsl := w0.at
  have hcap := w0.len_cap
  obtain ⟨f, rfl⟩ := Int.eq_ofNat_of_zero_le hm0
  obtain ⟨p, rfl⟩ := Int.eq_ofNat_of_zero_le hp0
  go_enter Try.func6, Try.ntmps6
  go_wp2_with fail
  refine (RingLaws.awake_any _).mono ?_
  rintro e v2 ⟨rfl, hb2⟩
  go_wp2_with fail
  · go_ret
    exact ⟨rfl, hb2⟩
  refine (RingLaws.R.new hb2 _).mono ?_
  rintro e v3 ⟨rfl, hR⟩
  have hl60 : len0 ≤ 80 := by omega
  have hcl : RingInt.clamp 80 = 80 := by decide
  rw [hcl] at hR
  clear hcl
  generalize v2.heap.size = rb at *
  go_wp2_with fail
  go_loopw [9] (fun i wr => ∃ k : Nat, k ≤ len0 ∧ i = .int .i64 k ∧ RingLaws.R w rb (l0.take k) 80 wr) (fun i _ => len0 - (intOf i).toNat)
  case atStart => exact ⟨0, by omega, rfl, by simpa using hR⟩
  case round =>
    obtain ⟨k, hk, rfl, hRk⟩ := hrel
    by_cases hlt : k < len0
    · obtain ⟨x, hx, hwx, hcx, rfl, hbx⟩ := w0.get hlt
      have hcr : wr.cell? ⟨b0, off0 + k, none⟩ = some (.int .i64 x) := by rw [hRk.below.cell (p := ⟨b0, off0 + k, none⟩) hbx]; exact hcx
      have Hx := Lib.hid hx
      clear hx hcx
      go_wp2_with fail
      refine (hRk.push_yes x ?_).mono ?_
      · simp; omega
      rintro e w3 ⟨rfl, hR3⟩
      go_wp2_with fail
      go_roundw
      case rel => exact ⟨k + 1, by omega, by go_num, by rw [List.take_add_one, Hx.out]; simpa using hR3⟩
      case measure => simp [intOf]; omega
    · have hk' : k = len0 := by omega
      have ht : l0.take k = l0 := List.take_of_length_le (by have := Hlen.out; omega)
      rw [ht] at hRk
      clear ht hk'
      rcases Nat.lt_or_ge len0 p with hpl | hpl
      · go_wp2_with fail
        obtain ⟨wo, rfl⟩ : ∃ wo : World, wo = wr := ⟨_, rfl⟩
        go_loopw [11] (fun i wr => ∃ k : Nat, k ≤ len0 ∧ i = .int .i64 k ∧ RingLaws.R w rb (l0.drop k) 80 wr) (fun i _ => len0 - (intOf i).toNat)
        case atStart => exact ⟨0, by omega, rfl, by simpa using hRk⟩
        case round =>
          obtain ⟨j, hk, rfl, hRk⟩ := hrel
          by_cases hlt : j < len0
          · have hlt' : j < l0.length := by have := Hlen.out; omega
            obtain ⟨x, hd⟩ : ∃ x, l0.drop j = x :: l0.drop (j + 1) := ⟨_, List.drop_eq_getElem_cons hlt'⟩
            rw [hd] at hRk
            clear hd
            go_wp2_with fail
            refine hRk.pop_some.mono ?_
            rintro e w3 ⟨rfl, hR3⟩
            go_wp2_with fail
            go_roundw
            case rel => exact ⟨j + 1, by omega, by go_num, hR3⟩
            case measure => simp [intOf]; omega
          · have hk' : j = len0 := by omega
            rw [hk'] at hRk
            clear hk'
            go_wp2_with fail
            refine (hRk.all f (by omega)).mono ?_
            rintro e w3 ⟨a, c, rfl, hs3, hc3, hf3, hR3, hg3⟩
            go_wp2_with fail
            refine (hR3.all 100 (by omega)).mono ?_
            rintro e w4 ⟨a', c', rfl, hs4, hc4, hf4, hR4, hg4⟩
            have hd0 : (l0.drop len0).length = len0 - len0 := by have := Hlen.out; simp; omega
            have hx0 : (l0.drop len0).take 100 = l0.drop len0 := List.take_of_length_le (by omega)
            rw [hx0] at hs4 hc4 hf4 ⊢
            clear hx0
            have hsw : Hp.SliceAt w4 (.slice a0 len0 cap0) (l0.map (Value.int .i64)) := hsl.stable fun q u hp => (hR4.below.cell (World.block_lt_of_cell? _ _ hp)).trans hp
            have hd := Hp.slice_drop_eq _ _ _ len0 _ _ hsw (by omega) hcap
            have hs3' : Hp.SliceAt w4 (.slice a (List.take f (List.drop len0 l0)).length c) ((List.take f (List.drop len0 l0)).map (Value.int .i64)) := hs3.stable fun q u hp => (hg4.cell (World.block_lt_of_cell? _ _ hp)).trans hp
            have hs5 := hs4.take (c' := c') (m := min f (l0.drop len0).length) (by omega)
            rw [← List.map_drop] at hd
            rw [← List.map_take, ← List.take_eq_take_min] at hs5
            have Hd0 := Lib.hid hd0
            simp only [List.length_take, List.length_drop] at hs3'
            have Hs : Hid ((List.take f (List.drop len0 l0)).length = min f (l0.drop len0).length) := by simp [Hid]
            clear hd0 hs3 hsw hR3
            generalize List.take f (List.drop len0 l0) = l2 at *
            generalize List.drop len0 l0 = l1 at *
            have hN : 0 ≤ (len0 : Int) - len0 := by omega
            have He : Hid ((l0.length : Int) = len0) := by have := Hlen.out; simp [Hid]; omega
            simp only [Nat.mul_one] at hd
            by_cases hck : cap0 = len0
            · rw [if_pos hck] at hd
              subst hck
              simp only [Nat.sub_self] at hd
              go_wp2_with fail
              refine (Ref01.ints_any _ _ _ l1 l1 hs4 hd).mono ?_
              rintro e w5 ⟨rfl, n5, rfl⟩
              have hs3'' := hs3'.stable (w' := w4.drewN n5) (fun _ _ h => h)
              have hs5' := hs5.stable (w' := w4.drewN n5) (fun _ _ h => h)
              have hR5 := hR4.drewN n5
              have hL5 := hR5.below
              generalize w4.drewN n5 = w5 at *
              by_cases hfl : f ≤ l1.length
              · rw [Nat.min_eq_left hfl] at hs5'
                go_wp2_with fail
                refine (Ref01.ints_any _ _ _ l2 l2 hs3'' hs5').mono ?_
                rintro e w6 ⟨rfl, n6, rfl⟩
                have hR6 := hR5.drewN n6
                go_wp2_with fail
                refine hR6.len.mono ?_
                rintro e w7 ⟨rfl, rfl⟩
                have hz := Hd0.out
                go_wp2_with fail
                go_ret
                first | exact ⟨rfl, hR6.below⟩ | exact ⟨Base.ret_bool (by simp; omega), hR6.below⟩
              · rw [Nat.min_eq_right (by omega)] at hs5'
                go_wp2_with fail
                refine (Ref01.ints_any _ _ _ l2 l2 hs3'' hs5').mono ?_
                rintro e w6 ⟨rfl, n6, rfl⟩
                have hR6 := hR5.drewN n6
                go_wp2_with fail
                refine hR6.len.mono ?_
                rintro e w7 ⟨rfl, rfl⟩
                have hz := Hd0.out
                go_wp2_with fail
                go_ret
                first | exact ⟨rfl, hR6.below⟩ | exact ⟨Base.ret_bool (by simp; omega), hR6.below⟩
            · rw [if_neg hck] at hd
              simp only [Nat.sub_self] at hd
              go_wp2_with fail
              refine (Ref01.ints_any _ _ _ l1 l1 hs4 hd).mono ?_
              rintro e w5 ⟨rfl, n5, rfl⟩
              have hs3'' := hs3'.stable (w' := w4.drewN n5) (fun _ _ h => h)
              have hs5' := hs5.stable (w' := w4.drewN n5) (fun _ _ h => h)
              have hR5 := hR4.drewN n5
              have hL5 := hR5.below
              generalize w4.drewN n5 = w5 at *
              by_cases hfl : f ≤ l1.length
              · rw [Nat.min_eq_left hfl] at hs5'
                go_wp2_with fail
                refine (Ref01.ints_any _ _ _ l2 l2 hs3'' hs5').mono ?_
                rintro e w6 ⟨rfl, n6, rfl⟩
                have hR6 := hR5.drewN n6
                go_wp2_with fail
                refine hR6.len.mono ?_
                rintro e w7 ⟨rfl, rfl⟩
                have hz := Hd0.out
                go_wp2_with fail
                go_ret
                first | exact ⟨rfl, hR6.below⟩ | exact ⟨Base.ret_bool (by simp; omega), hR6.below⟩
              · rw [Nat.min_eq_right (by omega)] at hs5'
                go_wp2_with fail
                refine (Ref01.ints_any _ _ _ l2 l2 hs3'' hs5').mono ?_
                rintro e w6 ⟨rfl, n6, rfl⟩
                have hR6 := hR5.drewN n6
                go_wp2_with fail
                refine hR6.len.mono ?_
                rintro e w7 ⟨rfl, rfl⟩
                have hz := Hd0.out
                go_wp2_with fail
                go_ret
                first | exact ⟨rfl, hR6.below⟩ | exact ⟨Base.ret_bool (by simp; omega), hR6.below⟩
      · go_wp2_with fail
        obtain ⟨wo, rfl⟩ : ∃ wo : World, wo = wr := ⟨_, rfl⟩
        go_loopw [11] (fun i wr => ∃ k : Nat, k ≤ p ∧ i = .int .i64 k ∧ RingLaws.R w rb (l0.drop k) 80 wr) (fun i _ => len0 - (intOf i).toNat)
        case atStart => exact ⟨0, by omega, rfl, by simpa using hRk⟩
        case round =>
          obtain ⟨j, hk, rfl, hRk⟩ := hrel
          by_cases hlt : j < p
          · have hlt' : j < l0.length := by have := Hlen.out; omega
            obtain ⟨x, hd⟩ : ∃ x, l0.drop j = x :: l0.drop (j + 1) := ⟨_, List.drop_eq_getElem_cons hlt'⟩
            rw [hd] at hRk
            clear hd
            go_wp2_with fail
            refine hRk.pop_some.mono ?_
            rintro e w3 ⟨rfl, hR3⟩
            go_wp2_with fail
            go_roundw
            case rel => exact ⟨j + 1, by omega, by go_num, hR3⟩
            case measure => simp [intOf]; omega
          · have hk' : j = p := by omega
            rw [hk'] at hRk
            clear hk'
            go_wp2_with fail
            refine (hRk.all f (by omega)).mono ?_
            rintro e w3 ⟨a, c, rfl, hs3, hc3, hf3, hR3, hg3⟩
            go_wp2_with fail
            refine (hR3.all 100 (by omega)).mono ?_
            rintro e w4 ⟨a', c', rfl, hs4, hc4, hf4, hR4, hg4⟩
            have hd0 : (l0.drop p).length = len0 - p := by have := Hlen.out; simp; omega
            have hx0 : (l0.drop p).take 100 = l0.drop p := List.take_of_length_le (by omega)
            rw [hx0] at hs4 hc4 hf4 ⊢
            clear hx0
            have hsw : Hp.SliceAt w4 (.slice a0 len0 cap0) (l0.map (Value.int .i64)) := hsl.stable fun q u hp => (hR4.below.cell (World.block_lt_of_cell? _ _ hp)).trans hp
            have hd := Hp.slice_drop_eq _ _ _ p _ _ hsw (by omega) hcap
            have hs3' : Hp.SliceAt w4 (.slice a (List.take f (List.drop p l0)).length c) ((List.take f (List.drop p l0)).map (Value.int .i64)) := hs3.stable fun q u hp => (hg4.cell (World.block_lt_of_cell? _ _ hp)).trans hp
            have hs5 := hs4.take (c' := c') (m := min f (l0.drop p).length) (by omega)
            rw [← List.map_drop] at hd
            rw [← List.map_take, ← List.take_eq_take_min] at hs5
            have Hd0 := Lib.hid hd0
            simp only [List.length_take, List.length_drop] at hs3'
            have Hs : Hid ((List.take f (List.drop p l0)).length = min f (l0.drop p).length) := by simp [Hid]
            clear hd0 hs3 hsw hR3
            generalize List.take f (List.drop p l0) = l2 at *
            generalize List.drop p l0 = l1 at *
            have hN : 0 ≤ (len0 : Int) - p := by omega
            have He : Hid ((l0.length : Int) = len0) := by have := Hlen.out; simp [Hid]; omega
            simp only [Nat.mul_one] at hd
            by_cases hck : cap0 = p
            · rw [if_pos hck] at hd
              subst hck
              have h00 : len0 - cap0 = 0 := by omega
              simp only [Nat.sub_self, h00] at hd
              clear h00
              go_wp2_with fail
              refine (Ref01.ints_any _ _ _ l1 l1 hs4 hd).mono ?_
              rintro e w5 ⟨rfl, n5, rfl⟩
              have hs3'' := hs3'.stable (w' := w4.drewN n5) (fun _ _ h => h)
              have hs5' := hs5.stable (w' := w4.drewN n5) (fun _ _ h => h)
              have hR5 := hR4.drewN n5
              have hL5 := hR5.below
              generalize w4.drewN n5 = w5 at *
              by_cases hfl : f ≤ l1.length
              · rw [Nat.min_eq_left hfl] at hs5'
                go_wp2_with fail
                refine (Ref01.ints_any _ _ _ l2 l2 hs3'' hs5').mono ?_
                rintro e w6 ⟨rfl, n6, rfl⟩
                have hR6 := hR5.drewN n6
                go_wp2_with fail
                refine hR6.len.mono ?_
                rintro e w7 ⟨rfl, rfl⟩
                have hz := Hd0.out
                go_wp2_with fail
                go_ret
                first | exact ⟨rfl, hR6.below⟩ | exact ⟨Base.ret_bool (by simp; omega), hR6.below⟩
              · rw [Nat.min_eq_right (by omega)] at hs5'
                go_wp2_with fail
                refine (Ref01.ints_any _ _ _ l2 l2 hs3'' hs5').mono ?_
                rintro e w6 ⟨rfl, n6, rfl⟩
                have hR6 := hR5.drewN n6
                go_wp2_with fail
                refine hR6.len.mono ?_
                rintro e w7 ⟨rfl, rfl⟩
                have hz := Hd0.out
                go_wp2_with fail
                go_ret
                first | exact ⟨rfl, hR6.below⟩ | exact ⟨Base.ret_bool (by simp; omega), hR6.below⟩
            · rw [if_neg hck] at hd
              go_wp2_with fail
              refine (Ref01.ints_any _ _ _ l1 l1 hs4 hd).mono ?_
              rintro e w5 ⟨rfl, n5, rfl⟩
              have hs3'' := hs3'.stable (w' := w4.drewN n5) (fun _ _ h => h)
              have hs5' := hs5.stable (w' := w4.drewN n5) (fun _ _ h => h)
              have hR5 := hR4.drewN n5
              have hL5 := hR5.below
              generalize w4.drewN n5 = w5 at *
              by_cases hfl : f ≤ l1.length
              · rw [Nat.min_eq_left hfl] at hs5'
                go_wp2_with fail
                refine (Ref01.ints_any _ _ _ l2 l2 hs3'' hs5').mono ?_
                rintro e w6 ⟨rfl, n6, rfl⟩
                have hR6 := hR5.drewN n6
                go_wp2_with fail
                refine hR6.len.mono ?_
                rintro e w7 ⟨rfl, rfl⟩
                have hz := Hd0.out
                go_wp2_with fail
                go_ret
                first | exact ⟨rfl, hR6.below⟩ | exact ⟨Base.ret_bool (by simp; omega), hR6.below⟩
              · rw [Nat.min_eq_right (by omega)] at hs5'
                go_wp2_with fail
                refine (Ref01.ints_any _ _ _ l2 l2 hs3'' hs5').mono ?_
                rintro e w6 ⟨rfl, n6, rfl⟩
                have hR6 := hR5.drewN n6
                go_wp2_with fail
                refine hR6.len.mono ?_
                rintro e w7 ⟨rfl, rfl⟩
                have hz := Hd0.out
                go_wp2_with fail
                go_ret
                first | exact ⟨rfl, hR6.below⟩ | exact ⟨Base.ret_bool (by simp; omega), hR6.below⟩

set_option maxRecDepth 100000 in
theorem lifted (os : Os) (started : os.Started) (H : Type) (enc : TypeId × Value → H) :
    ReturnsInHanded {} Try.checked os 6 .any (Rows.ringLeftSpec.pre6 enc Try.prog Try.f6 Rows.ringLeftRow.domain false) (Rows.ringLeftSpec.post enc Try.prog Try.f6 false true false false) := by
  refine returnsInHanded_of_change (C := Try.checked) own started (by kernel_rfl) Try.func6
    (ChangeSpec.witness6 (enc := enc) (C := Try.checked) false ⟨#[], #[.slice none 0 0, .int .u8 0, .int .u8 0], []⟩ 8 (by kernel_rfl) (by kernel_rfl) (by kernel_rfl) (by kernel_rfl)) ?_
  intro W base args ds gs before hval0 hW hcnd _
  have hval : ∀ (j : Nat) t v, Try.f6.params[j]? = some t → args[j]? = some v → Value.okWide Try.prog W .any base t v := hval0
  have hW' := hW
  obtain ⟨p, q, hA0, hV, rfl, hfz, hnd⟩ := hW
  have hA : DataW.TrodAll enc Try.prog W 0 (fun _ => true) true Try.f6.params.toList args.toList ds p := hA0
  rw [Try.params6] at hA hval
  obtain ⟨v0, vs0, d0, ds0, p0, q0, hargs, rfl, rfl, h0, r0⟩ := trodAll_cons hA
  obtain ⟨v1, vs1, d1, ds1, p1, q1, rfl, rfl, rfl, h1, r1⟩ := trodAll_cons r0
  obtain ⟨v2, vs2, d2, ds2, p2, q2, rfl, rfl, rfl, h2, r2⟩ := trodAll_cons r1
  obtain ⟨rfl, rfl, rfl⟩ := trodAll_nil r2
  obtain rfl : args = #[v0, v1, v2] := by cases args; simp_all
  obtain ⟨rfl, rfl⟩ := trodVars_none hV
  obtain ⟨a0, len0, cap0, rfl⟩ := okWide_slice Try.underlying22 (hval 0 22 v0 rfl rfl)
  have k0 := h0
  have lt0 : ∀ x ∈ p0, x.block < W.heap.size := by obtain ⟨m, hm⟩ := k0; exact DataW.trod_lt m _ _ _ hm
  obtain ⟨b0, off0, l0, w0⟩ : ∃ b off l, Base.IntsAt .i64 W a0 len0 cap0 b off l := by
    obtain ⟨fuel, hf⟩ := h0
    rcases open_ints Try.underlying22 Try.underlying3 (by kernel_rfl) hf with ⟨hcs, _⟩ | ⟨x, l, c, zs, hcs, _, hl, hm, hz, _, hcell, hwz⟩
    · simp [Value.cells] at hcs
      obtain ⟨rfl, rfl, rfl⟩ := hcs
      exact ⟨0, 0, [], Base.intsAt_nil _ _⟩
    · simp [Value.cells] at hcs
      obtain ⟨rfl, rfl, rfl⟩ := hcs
      obtain ⟨b, off, h⟩ := Base.intsAt_some hl hm (by simpa using hz) hcell hwz
      exact ⟨b, off, _, h⟩
  obtain ⟨a1, rfl, rfl, rfl, w1⟩ := open_int Try.underlying5 (hval 1 5 v1 rfl rfl) h1
  obtain ⟨a2, rfl, rfl, rfl, w2⟩ := open_int Try.underlying5 (hval 2 5 v2 rfl rfl) h2
  clear hA0 hval0
  refine (walk a0 len0 cap0 b0 off0 l0 a1 a2 W w0 w1 w2).mono fun e W' ⟨he, bel⟩ => ?_
  subst he
  exact ⟨_, rfl, _, _, _, [], _, [], hW', trodAll_mk1 (shut_bool Try.underlying4 _), (trodAll_cons_mk (Below.trod laidOut (by kernel_rfl) (of_decide_eq_true (by kernel_rfl)) k0 bel lt0) (trodAll_cons_mk (shut_int Try.underlying5 w1) (trodAll_cons_mk (shut_int Try.underlying5 w2) trodAll_mk0))), rfl, bel.frame _, fun h => by cases h⟩

theorem over : Rows.ringLeftRow.holds Try.pinned (OpenSpec.ofChange Rows.ringLeftSpec) :=
  OpenClaim.holds_of_wide 6 Try.f6 rfl rfl rfl rfl rfl rfl rfl ⟨rfl, rfl, rfl, rfl, rfl⟩ rfl rfl rfl rfl rfl (by kernel_rfl) Try.func6 (by kernel_rfl)
    (of_decide_eq_true (by kernel_rfl)) (by unfold Func.isWrapper; first | (rw [if_pos (by decide +kernel)]; kernel_rfl) | (rw [if_neg (by decide +kernel)]; exact ⟨rfl, rfl⟩))
    (fun os started H enc _ => lifted os started H enc)

theorem proved : Rows.RingLeftSaid := over
#print axioms proved
end Go.Proofs.Ytbkoccpgbhnncaa.ringLeft
