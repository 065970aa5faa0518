/- RingOrder returns true for every room and every two lists, and leaves its arguments as they were; no condition. -/
import Derived.Test.YtbkoccpgbhnncaaRows
import Derived.WalkKit
import Derived.ProofKit
import Derived.OpenShut
import Derived.ShutString
import Derived.ChangeOld
import Derived.Below
import Derived.Test.YtbkoccpgbhnncaaRingTri
import Derived.Deep.RegionHeld3
namespace Go.Proofs.Ytbkoccpgbhnncaa.ringOrder
open Go.ChangeShapes Go.WideShapes Go.ChangeAt Go.RowKit
open Go.ChangeMaps (open_string shut_string)
set_option linter.unusedVariables false
set_option linter.unusedSimpArgs false

theorem own : ownKnob Try.prog.godebug = none := by kernel_rfl
theorem laidOut : laidOutB Try.prog = true := by kernel_rfl

set_option maxHeartbeats 4000000 in
set_option maxRecDepth 100000 in
theorem walk (a0 : Int) (a1 : Option Addr) (len1 cap1 b1 off1 : Nat) (l1 : List Int) (a2 : Option Addr) (len2 cap2 b2 off2 : Nat) (l2 : List Bool) (w : World) (w0 : (Lit.int .i64 a0).wf = true) (w1 : Base.IntsAt .i64 w a1 len1 cap1 b1 off1 l1) (w2 : Base.BoolsAt w a2 len2 cap2 b2 off2 l2) :
    Calls Try.prog 3 #[.int .i64 a0, .slice a1 len1 cap1, .slice a2 len2 cap2] w fun e w' => e = .returned (.bool true) ∧ Below w.heap.size w w' := by
  obtain ⟨hr0, hr1⟩ := Base.wf_i64_bounds w0
  have hsm := w1.small
  have Hlen := Lib.hid w1.len_eq
  have Hlen2 := Lib.hid w2.len_eq
  have hsm2 : len2 ≤ 9223372036854775807 := by have := w2.len_cap; have := w2.cap_max; unfold maxLen at this; omega
  obtain ⟨i0, hi, hz0, hz1, hz2⟩ := info_parts RingInt.info
  go_enter Try.func3, Try.ntmps3
  go_wp2_with fail
  refine (RingLaws.awake_any _).mono ?_
  rintro e v2 ⟨rfl, hb2⟩
  go_wp2_with fail
  · go_ret
    exact ⟨rfl, hb2⟩
  refine (RingLaws.Tri.new hb2 a0).mono ?_
  rintro e v3 ⟨rfl, hR⟩
  obtain ⟨hc0, hc1⟩ := RingInt.clamp_bd a0
  generalize RingInt.clamp a0 = room at *
  generalize v2.heap.size = rb at *
  go_wp2_with fail
  go_loopw [9, 10, 11] (fun vi vo i wr => ∃ (k : Nat) (ai : Option Addr) (ci : Nat) (ao : Option Addr) (co : Nat) (il ol l : List Int), k ≤ len1 ∧ il.length ≤ k ∧ il = ol ++ l ∧ i = .int .i64 k ∧ vi = .slice ai il.length ci ∧ vo = .slice ao ol.length co ∧
      RingLaws.Tri w rb (.slice ai il.length ci) (.slice ao ol.length co) il ol l room wr) (fun _ _ i _ => len1 - (intOf i).toNat)
  case atStart => exact ⟨0, none, 0, none, 0, [], [], [], by omega, by simp, rfl, rfl, rfl, rfl, hR⟩
  case round =>
    obtain ⟨k, ai, ci, ao, co, il, ol, l, hk, hlk, hio, rfl, rfl, rfl, hRk⟩ := hrel
    have Hio := Lib.hid hio
    have hsa : il.length ≤ ol.length + l.length := by rw [hio]; simp
    have hsb : ol.length + l.length ≤ il.length := by rw [hio]; simp
    clear hio
    by_cases hlt : k < len1
    · obtain ⟨x, hx, hwx, hcx, rfl, hbx⟩ := w1.get hlt
      have hcr : wr.cell? ⟨b1, off1 + k, none⟩ = some (.int .i64 x) := by rw [hRk.below.cell (p := ⟨b1, off1 + k, none⟩) hbx]; exact hcx
      by_cases hroom : (l.length : Int) < room
      · go_wp2_with fail
        refine (hRk.push_yes x hroom).mono ?_
        rintro e w3 ⟨rfl, hR3⟩
        have hcr3 : w3.cell? ⟨b1, off1 + k, none⟩ = some (.int .i64 x) := by rw [hR3.below.cell (p := ⟨b1, off1 + k, none⟩) hbx]; exact hcx
        clear hx hcx hwx
        go_wp2_with (at_builtin; refine Hp.wpList_append _ rfl _ _ 22 rfl 3 i0 (.int .i64 0) 1 8 Try.underlying22 hi hz0 hz1 hz2 rfl (by decide) _ _ _ rfl (hR3.in_own.alloc _) ⟨w3.heap.size, 0, none⟩ 1 1 [.int .i64 x] rfl rfl ?c1 ?c2 ?c3 ?c4 ?_)
        case c1 => exact Hp.one_new _ _ _
        case c2 => simp [Value.oneCell']
        case c3 => unfold maxLen; omega
        case c4 => omega
        intro ai' ci' w4 hown4 hfp4 hch4
        have hR4 := (hR3.alloc (.cells #[.int .i64 x] 3)).app_in (x := x) hown4 (by simpa using hfp4) hch4
        have Hio2 : Hid (il ++ [x] = ol ++ (l ++ [x])) := by rw [Hio.out]; simp [Hid]
        have hlen2 : (il ++ [x]).length = il.length + 1 := by simp
        rw [← hlen2] at hR4 ⊢
        have hsa2 : (il ++ [x]).length ≤ ol.length + (l ++ [x]).length := by simp; omega
        have hsb2 : ol.length + (l ++ [x]).length ≤ (il ++ [x]).length := by simp; omega
        have hlk2 : (il ++ [x]).length ≤ k + 1 := by simp; omega
        clear hlen2 hown4 hfp4 hch4 hsa hsb hcr hcr3 hRk hR3 hroom
        generalize il ++ [x] = il2 at *
        generalize l ++ [x] = l2 at *
        by_cases hpl : k < len2
        · obtain ⟨y, hy, hcy, rfl, hby⟩ := w2.get hpl
          have hcy : w4.cell? ⟨b2, off2 + k, none⟩ = some (.bool y) := by rw [hR4.below.cell (p := ⟨b2, off2 + k, none⟩) hby]; exact hcy
          clear hy
          cases y
          · go_wp2_with fail
            have hlr := hR4.fits.1
            have hLN := hR4.len
            have hRM := hR4.roomy
            have e1 : decide (room < ((l2).length : Int)) = false := by simp; omega
            have e2 : (((l2).length : Int) != ((il2).length : Int) - ((ol).length : Int)) = false := by simp; omega
            go_wp2_with (first
              | (go_at_call 13; refine hLN.mono ?_; rintro e w9 ⟨rfl, rfl⟩)
              | (go_at_call 14; refine hRM.mono ?_; rintro e w9 ⟨rfl, rfl⟩))
            go_roundw
            case rel => exact ⟨k + 1, _, _, _, _, il2, ol, l2, by omega, hlk2, Hio2.out, by go_num, rfl, rfl, hR4⟩
            case measure => simp [intOf]; omega
          · rcases l2 with _ | ⟨z, l5⟩
            · have hPP := hR4.pop_none
              simp only [List.length_nil, Nat.add_zero] at *
              go_wp2_with fail
              refine hPP.mono ?_
              rintro e w5 ⟨rfl, hR5⟩
              go_wp2_with fail
              have hlr := hR5.fits.1
              have hLN := hR5.len
              have hRM := hR5.roomy
              have e1 : decide (room < (0 : Int)) = false := by simp; omega
              have e2 : ((0 : Int) != ((il2).length : Int) - ((ol).length : Int)) = false := by simp; omega
              go_wp2_with (first
                | (go_at_call 13; refine hLN.mono ?_; rintro e w9 ⟨rfl, rfl⟩)
                | (go_at_call 14; refine hRM.mono ?_; rintro e w9 ⟨rfl, rfl⟩))
              go_roundw
              case rel => exact ⟨k + 1, _, _, _, _, il2, ol, ([] : List Int), by omega, hlk2, Hio2.out, by go_num, rfl, rfl, hR5⟩
              case measure => simp [intOf]; omega
            · have hPP := hR4.pop_some
              have Hio6 : Hid (il2 = (ol ++ [z]) ++ l5) := by have h := Hio2.out; rw [h]; simp [Hid]
              simp only [List.length_cons] at *
              go_wp2_with fail
              refine hPP.mono ?_
              rintro e w5 ⟨rfl, hR5⟩
              go_wp2_with (at_builtin; refine Hp.wpList_append _ rfl _ _ 22 rfl 3 i0 (.int .i64 0) 1 8 Try.underlying22 hi hz0 hz1 hz2 rfl (by decide) _ _ _ rfl (hR5.out_own.alloc _) ⟨w5.heap.size, 0, none⟩ 1 1 [.int .i64 z] rfl rfl ?c1 ?c2 ?c3 ?c4 ?_)
              case c1 => exact Hp.one_new _ _ _
              case c2 => simp [Value.oneCell']
              case c3 => unfold maxLen; omega
              case c4 => omega
              intro ao' co' w6 hown6 hfp6 hch6
              have hR6 := (hR5.alloc (.cells #[.int .i64 z] 3)).app_out (x := z) hown6 (by simpa using hfp6) hch6
              have hlen6 : (ol ++ [z]).length = ol.length + 1 := by simp
              rw [← hlen6] at hR6 ⊢
              have hsa6 : il2.length ≤ (ol ++ [z]).length + l5.length := by simp; omega
              have hsb6 : (ol ++ [z]).length + l5.length ≤ il2.length := by simp; omega
              clear hlen6 hown6 hfp6 hch6 hPP hR5
              generalize ol ++ [z] = ol6 at *
              have hlr := hR6.fits.1
              have hLN := hR6.len
              have hRM := hR6.roomy
              have e1 : decide (room < ((l5).length : Int)) = false := by simp; omega
              have e2 : (((l5).length : Int) != ((il2).length : Int) - ((ol6).length : Int)) = false := by simp; omega
              go_wp2_with (first
                | (go_at_call 13; refine hLN.mono ?_; rintro e w9 ⟨rfl, rfl⟩)
                | (go_at_call 14; refine hRM.mono ?_; rintro e w9 ⟨rfl, rfl⟩))
              go_roundw
              case rel => exact ⟨k + 1, _, _, _, _, il2, ol6, l5, by omega, hlk2, Hio6.out, by go_num, rfl, rfl, hR6⟩
              case measure => simp [intOf]; omega
        · go_wp2_with fail
          have hlr := hR4.fits.1
          have hLN := hR4.len
          have hRM := hR4.roomy
          have e1 : decide (room < ((l2).length : Int)) = false := by simp; omega
          have e2 : (((l2).length : Int) != ((il2).length : Int) - ((ol).length : Int)) = false := by simp; omega
          go_wp2_with (first
            | (go_at_call 13; refine hLN.mono ?_; rintro e w9 ⟨rfl, rfl⟩)
            | (go_at_call 14; refine hRM.mono ?_; rintro e w9 ⟨rfl, rfl⟩))
          go_roundw
          case rel => exact ⟨k + 1, _, _, _, _, il2, ol, l2, by omega, hlk2, Hio2.out, by go_num, rfl, rfl, hR4⟩
          case measure => simp [intOf]; omega
      · go_wp2_with fail
        refine (hRk.push_no x (by omega)).mono ?_
        rintro e w3 ⟨rfl, hR3⟩
        have hlk2 : il.length ≤ k + 1 := by omega
        clear hx hcx hwx hcr hRk
        by_cases hpl : k < len2
        · obtain ⟨y, hy, hcy, rfl, hby⟩ := w2.get hpl
          have hcy : w3.cell? ⟨b2, off2 + k, none⟩ = some (.bool y) := by rw [hR3.below.cell (p := ⟨b2, off2 + k, none⟩) hby]; exact hcy
          clear hy
          cases y
          · go_wp2_with fail
            have hlr := hR3.fits.1
            have hLN := hR3.len
            have hRM := hR3.roomy
            have e1 : decide (room < ((l).length : Int)) = false := by simp; omega
            have e2 : (((l).length : Int) != ((il).length : Int) - ((ol).length : Int)) = false := by simp; omega
            go_wp2_with (first
              | (go_at_call 13; refine hLN.mono ?_; rintro e w9 ⟨rfl, rfl⟩)
              | (go_at_call 14; refine hRM.mono ?_; rintro e w9 ⟨rfl, rfl⟩))
            go_roundw
            case rel => exact ⟨k + 1, _, _, _, _, il, ol, l, by omega, hlk2, Hio.out, by go_num, rfl, rfl, hR3⟩
            case measure => simp [intOf]; omega
          · rcases l with _ | ⟨z, l5⟩
            · have hPP := hR3.pop_none
              simp only [List.length_nil, Nat.add_zero] at *
              go_wp2_with fail
              refine hPP.mono ?_
              rintro e w5 ⟨rfl, hR5⟩
              go_wp2_with fail
              have hlr := hR5.fits.1
              have hLN := hR5.len
              have hRM := hR5.roomy
              have e1 : decide (room < (0 : Int)) = false := by simp; omega
              have e2 : ((0 : Int) != ((il).length : Int) - ((ol).length : Int)) = false := by simp; omega
              go_wp2_with (first
                | (go_at_call 13; refine hLN.mono ?_; rintro e w9 ⟨rfl, rfl⟩)
                | (go_at_call 14; refine hRM.mono ?_; rintro e w9 ⟨rfl, rfl⟩))
              go_roundw
              case rel => exact ⟨k + 1, _, _, _, _, il, ol, ([] : List Int), by omega, hlk2, Hio.out, by go_num, rfl, rfl, hR5⟩
              case measure => simp [intOf]; omega
            · have hPP := hR3.pop_some
              have Hio6 : Hid (il = (ol ++ [z]) ++ l5) := by have h := Hio.out; rw [h]; simp [Hid]
              simp only [List.length_cons] at *
              go_wp2_with fail
              refine hPP.mono ?_
              rintro e w5 ⟨rfl, hR5⟩
              go_wp2_with (at_builtin; refine Hp.wpList_append _ rfl _ _ 22 rfl 3 i0 (.int .i64 0) 1 8 Try.underlying22 hi hz0 hz1 hz2 rfl (by decide) _ _ _ rfl (hR5.out_own.alloc _) ⟨w5.heap.size, 0, none⟩ 1 1 [.int .i64 z] rfl rfl ?c1 ?c2 ?c3 ?c4 ?_)
              case c1 => exact Hp.one_new _ _ _
              case c2 => simp [Value.oneCell']
              case c3 => unfold maxLen; omega
              case c4 => omega
              intro ao' co' w6 hown6 hfp6 hch6
              have hR6 := (hR5.alloc (.cells #[.int .i64 z] 3)).app_out (x := z) hown6 (by simpa using hfp6) hch6
              have hlen6 : (ol ++ [z]).length = ol.length + 1 := by simp
              rw [← hlen6] at hR6 ⊢
              have hsa6 : il.length ≤ (ol ++ [z]).length + l5.length := by simp; omega
              have hsb6 : (ol ++ [z]).length + l5.length ≤ il.length := by simp; omega
              clear hlen6 hown6 hfp6 hch6 hPP hR5
              generalize ol ++ [z] = ol6 at *
              have hlr := hR6.fits.1
              have hLN := hR6.len
              have hRM := hR6.roomy
              have e1 : decide (room < ((l5).length : Int)) = false := by simp; omega
              have e2 : (((l5).length : Int) != ((il).length : Int) - ((ol6).length : Int)) = false := by simp; omega
              go_wp2_with (first
                | (go_at_call 13; refine hLN.mono ?_; rintro e w9 ⟨rfl, rfl⟩)
                | (go_at_call 14; refine hRM.mono ?_; rintro e w9 ⟨rfl, rfl⟩))
              go_roundw
              case rel => exact ⟨k + 1, _, _, _, _, il, ol6, l5, by omega, hlk2, Hio6.out, by go_num, rfl, rfl, hR6⟩
              case measure => simp [intOf]; omega
        · go_wp2_with fail
          have hlr := hR3.fits.1
          have hLN := hR3.len
          have hRM := hR3.roomy
          have e1 : decide (room < ((l).length : Int)) = false := by simp; omega
          have e2 : (((l).length : Int) != ((il).length : Int) - ((ol).length : Int)) = false := by simp; omega
          go_wp2_with (first
            | (go_at_call 13; refine hLN.mono ?_; rintro e w9 ⟨rfl, rfl⟩)
            | (go_at_call 14; refine hRM.mono ?_; rintro e w9 ⟨rfl, rfl⟩))
          go_roundw
          case rel => exact ⟨k + 1, _, _, _, _, il, ol, l, by omega, hlk2, Hio.out, by go_num, rfl, rfl, hR3⟩
          case measure => simp [intOf]; omega
    · have hout : il.length ≤ 80 := by omega
      have hsl3 : l.length ≤ len1 := by omega
      clear hlk
      go_wp2_with fail
      obtain ⟨wo, rfl⟩ : ∃ wo : World, wo = wr := ⟨_, rfl⟩
      go_loopw [10, 14] (fun vo i wr => ∃ (k : Nat) (ao : Option Addr) (co : Nat) (ol l : List Int), k ≤ len1 ∧ l.length + k ≤ len1 ∧ il = ol ++ l ∧ i = .int .i64 k ∧ vo = .slice ao ol.length co ∧
          RingLaws.Tri w rb (.slice ai il.length ci) (.slice ao ol.length co) il ol l room wr) (fun _ i _ => len1 - (intOf i).toNat)
      case atStart => exact ⟨0, ao, co, ol, l, by omega, by omega, Hio.out, rfl, rfl, hRk⟩
      case round =>
        clear hRk hsa hsb hsl3
        obtain ⟨k2, ao, co, ol, l, hk, hlk, hio, rfl, rfl, hRk⟩ := hrel
        have Hio := Lib.hid hio
        have hsa : ol.length ≤ il.length := by rw [hio]; simp
        clear hio
        by_cases hlt : k2 < len1
        · rcases l with _ | ⟨z, l5⟩
          · have hPP := hRk.pop_none
            go_wp2_with fail
            refine hPP.mono ?_
            rintro e w5 ⟨rfl, hR5⟩
            go_wp2_with fail
            go_roundw
            case rel => exact ⟨k2 + 1, ao, co, ol, [], by omega, by simp; omega, Hio.out, by go_num, rfl, hR5⟩
            case measure => simp [intOf]; omega
          · have hPP := hRk.pop_some
            have Hio6 : Hid (il = (ol ++ [z]) ++ l5) := by have h := Hio.out; rw [h]; simp [Hid]
            simp only [List.length_cons] at *
            go_wp2_with fail
            refine hPP.mono ?_
            rintro e w5 ⟨rfl, hR5⟩
            go_wp2_with (at_builtin; refine Hp.wpList_append _ rfl _ _ 22 rfl 3 i0 (.int .i64 0) 1 8 Try.underlying22 hi hz0 hz1 hz2 rfl (by decide) _ _ _ rfl (hR5.out_own.alloc _) ⟨w5.heap.size, 0, none⟩ 1 1 [.int .i64 z] rfl rfl ?c1 ?c2 ?c3 ?c4 ?_)
            case c1 => exact Hp.one_new _ _ _
            case c2 => simp [Value.oneCell']
            case c3 => unfold maxLen; omega
            case c4 => omega
            intro ao' co' w6 hown6 hfp6 hch6
            have hR6 := (hR5.alloc (.cells #[.int .i64 z] 3)).app_out (x := z) hown6 (by simpa using hfp6) hch6
            have hlen6 : (ol ++ [z]).length = ol.length + 1 := by simp
            rw [← hlen6] at hR6 ⊢
            clear hlen6 hown6 hfp6 hch6 hPP hR5
            generalize ol ++ [z] = ol6 at *
            go_wp2_with fail
            go_roundw
            case rel => exact ⟨k2 + 1, ao', co', ol6, l5, by omega, by omega, Hio6.out, by go_num, rfl, hR6⟩
            case measure => simp [intOf]; omega
        · obtain rfl : l = [] := List.eq_nil_of_length_eq_zero (by omega)
          have hio := Hio.out
          rw [List.append_nil] at hio
          clear Hio
          subst hio
          have hPP := hRk.pop_none
          go_wp2_with fail
          refine hPP.mono ?_
          rintro e w5 ⟨rfl, hR5⟩
          have hLN := hR5.len
          have hIN := Ref01.ints_any w5 _ _ il il hR5.in_own.at hR5.out_own.at
          clear hPP hRk
          go_wp2_with fail
          refine hLN.mono ?_
          rintro e w6 ⟨rfl, rfl⟩
          go_wp2_with fail
          refine hIN.mono ?_
          rintro e w6 ⟨rfl, nn, rfl⟩
          go_wp2_with fail
          go_ret
          exact ⟨rfl, (hR5.drewN nn).below⟩

set_option maxRecDepth 100000 in
theorem lifted (os : Os) (started : os.Started) (H : Type) (enc : TypeId × Value → H) :
    ReturnsInHanded {} Try.checked os 3 .any (Rows.ringOrderSpec.pre6 enc Try.prog Try.f3 Rows.ringOrderRow.domain false) (Rows.ringOrderSpec.post enc Try.prog Try.f3 false true false false) := by
  refine returnsInHanded_of_change (C := Try.checked) own started (by kernel_rfl) Try.func3
    (ChangeSpec.witness6 (enc := enc) (C := Try.checked) false ⟨#[], #[.int .i64 0, .slice none 0 0, .slice none 0 0], []⟩ 8 (by kernel_rfl) (by kernel_rfl) (by kernel_rfl) (by kernel_rfl)) ?_
  intro W base args ds gs before hval0 hW hcnd _
  have hval : ∀ (j : Nat) t v, Try.f3.params[j]? = some t → args[j]? = some v → Value.okWide Try.prog W .any base t v := hval0
  have hW' := hW
  obtain ⟨p, q, hA0, hV, rfl, hfz, hnd⟩ := hW
  have hA : DataW.TrodAll enc Try.prog W 0 (fun _ => true) true Try.f3.params.toList args.toList ds p := hA0
  rw [Try.params3] at hA hval
  obtain ⟨v0, vs0, d0, ds0, p0, q0, hargs, rfl, rfl, h0, r0⟩ := trodAll_cons hA
  obtain ⟨v1, vs1, d1, ds1, p1, q1, rfl, rfl, rfl, h1, r1⟩ := trodAll_cons r0
  obtain ⟨v2, vs2, d2, ds2, p2, q2, rfl, rfl, rfl, h2, r2⟩ := trodAll_cons r1
  obtain ⟨rfl, rfl, rfl⟩ := trodAll_nil r2
  obtain rfl : args = #[v0, v1, v2] := by cases args; simp_all
  obtain ⟨rfl, rfl⟩ := trodVars_none hV
  obtain ⟨a0, rfl, rfl, rfl, w0⟩ := open_int Try.underlying3 (hval 0 3 v0 rfl rfl) h0
  obtain ⟨a1, len1, cap1, rfl⟩ := okWide_slice Try.underlying22 (hval 1 22 v1 rfl rfl)
  have k1 := h1
  have lt1 : ∀ x ∈ p1, x.block < W.heap.size := by obtain ⟨m, hm⟩ := k1; exact DataW.trod_lt m _ _ _ hm
  obtain ⟨b1, off1, l1, w1⟩ : ∃ b off l, Base.IntsAt .i64 W a1 len1 cap1 b off l := by
    obtain ⟨fuel, hf⟩ := h1
    rcases open_ints Try.underlying22 Try.underlying3 (by kernel_rfl) hf with ⟨hcs, _⟩ | ⟨x, l, c, zs, hcs, _, hl, hm, hz, _, hcell, hwz⟩
    · simp [Value.cells] at hcs
      obtain ⟨rfl, rfl, rfl⟩ := hcs
      exact ⟨0, 0, [], Base.intsAt_nil _ _⟩
    · simp [Value.cells] at hcs
      obtain ⟨rfl, rfl, rfl⟩ := hcs
      obtain ⟨b, off, h⟩ := Base.intsAt_some hl hm (by simpa using hz) hcell hwz
      exact ⟨b, off, _, h⟩
  obtain ⟨a2, len2, cap2, rfl⟩ := okWide_slice Try.underlying23 (hval 2 23 v2 rfl rfl)
  have k2 := h2
  have lt2 : ∀ x ∈ p2, x.block < W.heap.size := by obtain ⟨m, hm⟩ := k2; exact DataW.trod_lt m _ _ _ hm
  obtain ⟨b2, off2, l2, w2⟩ : ∃ b off l, Base.BoolsAt W a2 len2 cap2 b off l := by
    obtain ⟨fuel, hf⟩ := h2
    rcases Go.Deep.open_bools Try.underlying23 Try.underlying4 (by kernel_rfl) hf with ⟨hcs, _⟩ | ⟨x, l, c, zs, hcs, _, hl, hm, _, hcell⟩
    · simp [Value.cells] at hcs
      obtain ⟨rfl, rfl, rfl⟩ := hcs
      exact ⟨0, 0, [], Base.boolsAt_nil _⟩
    · simp [Value.cells] at hcs
      obtain ⟨rfl, rfl, rfl⟩ := hcs
      obtain ⟨b, off, h⟩ := Base.boolsAt_some hl hm hcell
      exact ⟨b, off, _, h⟩
  clear hA0 hval0
  refine (walk a0 a1 len1 cap1 b1 off1 l1 a2 len2 cap2 b2 off2 l2 W w0 w1 w2).mono fun e W' ⟨he, bel⟩ => ?_
  subst he
  exact ⟨_, rfl, _, _, _, [], _, [], hW', trodAll_mk1 (shut_bool Try.underlying4 _), (trodAll_cons_mk (shut_int Try.underlying3 w0) (trodAll_cons_mk (Below.trod laidOut (by kernel_rfl) (of_decide_eq_true (by kernel_rfl)) k1 bel lt1) (trodAll_cons_mk (Below.trod laidOut (by kernel_rfl) (of_decide_eq_true (by kernel_rfl)) k2 bel lt2) trodAll_mk0))), rfl, bel.frame _, fun h => by cases h⟩

theorem over : Rows.ringOrderRow.holds Try.pinned (OpenSpec.ofChange Rows.ringOrderSpec) :=
  OpenClaim.holds_of_wide 3 Try.f3 rfl rfl rfl rfl rfl rfl rfl ⟨rfl, rfl, rfl, rfl, rfl⟩ rfl rfl rfl rfl rfl (by kernel_rfl) Try.func3 (by kernel_rfl)
    (of_decide_eq_true (by kernel_rfl)) (by unfold Func.isWrapper; first | (rw [if_pos (by decide +kernel)]; kernel_rfl) | (rw [if_neg (by decide +kernel)]; exact ⟨rfl, rfl⟩))
    (fun os started H enc _ => lifted os started H enc)

theorem proved : Rows.RingOrderSaid := over
#print axioms proved
end Go.Proofs.Ytbkoccpgbhnncaa.ringOrder
