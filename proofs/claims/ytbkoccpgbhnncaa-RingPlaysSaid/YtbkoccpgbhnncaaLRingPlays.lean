/- RingPlays returns true for every room and every list of numbers, and leaves its arguments as they were; no condition. -/
import Derived.Test.YtbkoccpgbhnncaaRows
import Derived.WalkKit
import Derived.ProofKit
import Derived.OpenShut
import Derived.ShutString
import Derived.ChangeOld
import Derived.Below
import Derived.Test.YtbkoccpgbhnncaaRingTwo
import Derived.Deep.RegionHeld3
import Derived.Deep.RegionWith
namespace Go.Proofs.Ytbkoccpgbhnncaa.ringPlays
open Go.ChangeShapes Go.WideShapes Go.ChangeAt Go.RowKit
open Go.ChangeMaps (open_string shut_string)
set_option linter.unusedVariables false
set_option linter.unusedSimpArgs false

theorem own : ownKnob Try.prog.godebug = none := by kernel_rfl
theorem laidOut : laidOutB Try.prog = true := by kernel_rfl

set_option maxHeartbeats 4000000 in
set_option maxRecDepth 100000 in
theorem walk (a0 : Int) (a1 : Option Addr) (len1 cap1 b1 off1 : Nat) (l1 : List Int) (w : World) (w0 : (Lit.int .i64 a0).wf = true) (w1 : Base.IntsAt .i64 w a1 len1 cap1 b1 off1 l1) :
    Calls Try.prog 5 #[.int .i64 a0, .slice a1 len1 cap1] w fun e w' => e = .returned (.bool true) ∧ Below w.heap.size w w' := by
  obtain ⟨hr0, hr1⟩ := Base.wf_i64_bounds w0
  have hsm := w1.small
  have Hlen := Lib.hid w1.len_eq
  go_enter Try.func5, Try.ntmps5
  go_wp2_with fail
  refine (RingLaws.awake_any _).mono ?_
  rintro e v2 ⟨rfl, hb2⟩
  go_wp2_with fail
  · go_ret
    exact ⟨rfl, hb2⟩
  refine (RingInt.new_any v2 a0).mono ?_
  rintro e v3 ⟨rfl, rfl⟩
  go_wp2_with fail
  refine (Ref03.new_any _ a0).mono ?_
  rintro e v3 ⟨rfl, rfl⟩
  have hR := RingLaws.Two.new hb2 a0
  obtain ⟨hc0, hc1⟩ := RingInt.clamp_bd a0
  simp only [World.size_alloc] at hR ⊢
  generalize RingInt.clamp a0 = room at *
  generalize (v2.alloc (.cells #[.slice none 0 0, .int .i64 room] 53)).alloc (.cells #[.slice none 0 0, .int .i64 room] 47) = v3 at *
  generalize v2.heap.size = rb at *
  obtain ⟨sa, sc, hs0, hs1, _⟩ := hR.ref_list
  have hRM := (hR.drewN 1).roomy
  have hne : (room != room) = false := by simp
  go_wp2_with fail
  go_region_held3 (fun w' => w'.cell? ⟨rb + 1, 1, none⟩ = some (.int .i64 room)) (first | go_keep | assumption)
    ((go_at_call 14; refine hRM.mono ?_; rintro e w5 ⟨rfl, rfl⟩))
  replace hR := hR.drewN 1
  clear hs0 hs1 hRM
  go_wp2_with fail
  go_loopw [8] (fun i wr => ∃ (k : Nat) (l : List Int), k ≤ len1 ∧ l.length ≤ k ∧ i = .int .i64 k ∧ RingLaws.Two w rb (rb + 1) l l room wr) (fun i _ => len1 - (intOf i).toNat)
  case atStart => exact ⟨0, [], by omega, by simp, rfl, hR⟩
  case round =>
    obtain ⟨k, l, hk, hlk, rfl, hRk⟩ := hrel
    by_cases hlt : k < len1
    · obtain ⟨x, hx, hwx, hcx, rfl, hbx⟩ := w1.get hlt
      have hcr : wr.cell? ⟨b1, off1 + k, none⟩ = some (.int .i64 x) := by rw [hRk.below.cell (p := ⟨b1, off1 + k, none⟩) hbx]; exact hcx
      by_cases hneg : x < 0
      · rcases l with _ | ⟨y, l⟩
        · clear hx hcx hwx
          go_wp2_with fail
          refine hRk.pop_none.mono ?_
          rintro e w3 ⟨rfl, hR3⟩
          go_wp2_with fail
          refine hR3.ref_none.mono ?_
          rintro e w4 ⟨rfl, hR4⟩
          have hll : ([] : List Int).length ≤ k + 1 := by first | omega | (simp; done) | (simp; omega)
          have hLN := (hR4.drewN 1).len
          have hAL := (hR4.drewN 1).all 100 (by omega)
          rw [show ([] : List Int).take 100 = ([] : List Int) from List.take_of_length_le (by omega)] at hAL
          obtain ⟨sa, sc, hs0, hs1, hs2⟩ := hR4.ref_list
          generalize ([] : List Int) = l4 at *
          have hne4 : ((l4.length : Int) != (l4.length : Int)) = false := by simp
          clear hs1 hRk hR3
          go_wp2_with fail
          go_region_held3 (fun w' => w'.cell? ⟨rb + 1, 0, none⟩ = some (.slice sa l4.length sc)) (first | go_keep | assumption)
            ((first
            | (go_at_call 13; refine hLN.mono ?_; rintro e w5 ⟨rfl, rfl⟩)
            | (go_at_call 25; refine hAL.mono ?_; rintro e w6 ⟨a, c, rfl, hs3, hT6, hk6⟩; have hs4 := hk6 _ _ hs0; have hs5 := hs2.stable hk6; clear hk6)
            | (go_at_call 15; refine (Ref01.ints_any _ _ _ l4 l4 hs3 hs5).mono ?_; rintro e w7 ⟨rfl, nn, rfl⟩)))
          have hR7 := hT6.drewN nn
          clear hs0 hs2 hs3 hs4 hs5 hT6 hLN hAL hR4
          generalize w6.drewN nn = w7 at *
          go_wp2_with fail
          go_roundw
          case rel => exact ⟨k + 1, l4, by omega, hll, by go_num, hR7⟩
          case measure => simp [intOf]; omega
        · have hyy : (y != y) = false := by simp
          clear hx hcx hwx
          go_wp2_with fail
          refine hRk.pop_some.mono ?_
          rintro e w3 ⟨rfl, hR3⟩
          go_wp2_with fail
          refine hR3.ref_some.mono ?_
          rintro e w4 ⟨rfl, hR4⟩
          simp only [List.length_cons] at hlk
          have hll : l.length ≤ k + 1 := by first | omega | (simp; done) | (simp; omega)
          have hLN := (hR4.drewN 1).len
          have hAL := (hR4.drewN 1).all 100 (by omega)
          rw [show l.take 100 = l from List.take_of_length_le (by omega)] at hAL
          obtain ⟨sa, sc, hs0, hs1, hs2⟩ := hR4.ref_list
          generalize l = l4 at *
          have hne4 : ((l4.length : Int) != (l4.length : Int)) = false := by simp
          clear hs1 hRk hR3
          go_wp2_with fail
          go_region_held3 (fun w' => w'.cell? ⟨rb + 1, 0, none⟩ = some (.slice sa l4.length sc)) (first | go_keep | assumption)
            ((first
            | (go_at_call 13; refine hLN.mono ?_; rintro e w5 ⟨rfl, rfl⟩)
            | (go_at_call 25; refine hAL.mono ?_; rintro e w6 ⟨a, c, rfl, hs3, hT6, hk6⟩; have hs4 := hk6 _ _ hs0; have hs5 := hs2.stable hk6; clear hk6)
            | (go_at_call 15; refine (Ref01.ints_any _ _ _ l4 l4 hs3 hs5).mono ?_; rintro e w7 ⟨rfl, nn, rfl⟩)))
          have hR7 := hT6.drewN nn
          clear hs0 hs2 hs3 hs4 hs5 hT6 hLN hAL hR4
          generalize w6.drewN nn = w7 at *
          go_wp2_with fail
          go_roundw
          case rel => exact ⟨k + 1, l4, by omega, hll, by go_num, hR7⟩
          case measure => simp [intOf]; omega
      · by_cases hroom : (l.length : Int) < room
        · go_wp2_with fail
          refine (hRk.push_yes x hroom).mono ?_
          rintro e w3 ⟨rfl, hR3⟩
          have hcr3 : w3.cell? ⟨b1, off1 + k, none⟩ = some (.int .i64 x) := by rw [hR3.below.cell (p := ⟨b1, off1 + k, none⟩) hbx]; exact hcx
          clear hx hcx hwx
          go_wp2_with fail
          refine (hR3.ref_yes x hroom).mono ?_
          rintro e w4 ⟨rfl, hR4⟩
          have hll : (l ++ [x]).length ≤ k + 1 := by first | omega | (simp; done) | (simp; omega)
          have hLN := (hR4.drewN 1).len
          have hAL := (hR4.drewN 1).all 100 (by omega)
          rw [show (l ++ [x]).take 100 = (l ++ [x]) from List.take_of_length_le (by omega)] at hAL
          obtain ⟨sa, sc, hs0, hs1, hs2⟩ := hR4.ref_list
          generalize (l ++ [x]) = l4 at *
          have hne4 : ((l4.length : Int) != (l4.length : Int)) = false := by simp
          clear hs1 hRk hR3
          go_wp2_with fail
          go_region_held3 (fun w' => w'.cell? ⟨rb + 1, 0, none⟩ = some (.slice sa l4.length sc)) (first | go_keep | assumption)
            ((first
            | (go_at_call 13; refine hLN.mono ?_; rintro e w5 ⟨rfl, rfl⟩)
            | (go_at_call 25; refine hAL.mono ?_; rintro e w6 ⟨a, c, rfl, hs3, hT6, hk6⟩; have hs4 := hk6 _ _ hs0; have hs5 := hs2.stable hk6; clear hk6)
            | (go_at_call 15; refine (Ref01.ints_any _ _ _ l4 l4 hs3 hs5).mono ?_; rintro e w7 ⟨rfl, nn, rfl⟩)))
          have hR7 := hT6.drewN nn
          clear hs0 hs2 hs3 hs4 hs5 hT6 hLN hAL hR4
          generalize w6.drewN nn = w7 at *
          go_wp2_with fail
          go_roundw
          case rel => exact ⟨k + 1, l4, by omega, hll, by go_num, hR7⟩
          case measure => simp [intOf]; omega
        · go_wp2_with fail
          refine (hRk.push_no x (by omega)).mono ?_
          rintro e w3 ⟨rfl, hR3⟩
          have hcr3 : w3.cell? ⟨b1, off1 + k, none⟩ = some (.int .i64 x) := by rw [hR3.below.cell (p := ⟨b1, off1 + k, none⟩) hbx]; exact hcx
          clear hx hcx hwx
          go_wp2_with fail
          refine (hR3.ref_no x (by omega)).mono ?_
          rintro e w4 ⟨rfl, hR4⟩
          have hll : l.length ≤ k + 1 := by first | omega | (simp; done) | (simp; omega)
          have hLN := (hR4.drewN 1).len
          have hAL := (hR4.drewN 1).all 100 (by omega)
          rw [show l.take 100 = l from List.take_of_length_le (by omega)] at hAL
          obtain ⟨sa, sc, hs0, hs1, hs2⟩ := hR4.ref_list
          generalize l = l4 at *
          have hne4 : ((l4.length : Int) != (l4.length : Int)) = false := by simp
          clear hs1 hRk hR3
          go_wp2_with fail
          go_region_held3 (fun w' => w'.cell? ⟨rb + 1, 0, none⟩ = some (.slice sa l4.length sc)) (first | go_keep | assumption)
            ((first
            | (go_at_call 13; refine hLN.mono ?_; rintro e w5 ⟨rfl, rfl⟩)
            | (go_at_call 25; refine hAL.mono ?_; rintro e w6 ⟨a, c, rfl, hs3, hT6, hk6⟩; have hs4 := hk6 _ _ hs0; have hs5 := hs2.stable hk6; clear hk6)
            | (go_at_call 15; refine (Ref01.ints_any _ _ _ l4 l4 hs3 hs5).mono ?_; rintro e w7 ⟨rfl, nn, rfl⟩)))
          have hR7 := hT6.drewN nn
          clear hs0 hs2 hs3 hs4 hs5 hT6 hLN hAL hR4
          generalize w6.drewN nn = w7 at *
          go_wp2_with fail
          go_roundw
          case rel => exact ⟨k + 1, l4, by omega, hll, by go_num, hR7⟩
          case measure => simp [intOf]; omega
    · go_wp2_with fail
      go_ret
      exact ⟨rfl, hRk.below⟩

set_option maxRecDepth 100000 in
theorem lifted (os : Os) (started : os.Started) (H : Type) (enc : TypeId × Value → H) :
    ReturnsInHanded {} Try.checked os 5 .any (Rows.ringPlaysSpec.pre6 enc Try.prog Try.f5 Rows.ringPlaysRow.domain false) (Rows.ringPlaysSpec.post enc Try.prog Try.f5 false true false false) := by
  refine returnsInHanded_of_change (C := Try.checked) own started (by kernel_rfl) Try.func5
    (ChangeSpec.witness6 (enc := enc) (C := Try.checked) false ⟨#[], #[.int .i64 0, .slice none 0 0], []⟩ 8 (by kernel_rfl) (by kernel_rfl) (by kernel_rfl) (by kernel_rfl)) ?_
  intro W base args ds gs before hval0 hW hcnd _
  have hval : ∀ (j : Nat) t v, Try.f5.params[j]? = some t → args[j]? = some v → Value.okWide Try.prog W .any base t v := hval0
  have hW' := hW
  obtain ⟨p, q, hA0, hV, rfl, hfz, hnd⟩ := hW
  have hA : DataW.TrodAll enc Try.prog W 0 (fun _ => true) true Try.f5.params.toList args.toList ds p := hA0
  rw [Try.params5] at hA hval
  obtain ⟨v0, vs0, d0, ds0, p0, q0, hargs, rfl, rfl, h0, r0⟩ := trodAll_cons hA
  obtain ⟨v1, vs1, d1, ds1, p1, q1, rfl, rfl, rfl, h1, r1⟩ := trodAll_cons r0
  obtain ⟨rfl, rfl, rfl⟩ := trodAll_nil r1
  obtain rfl : args = #[v0, v1] := by cases args; simp_all
  obtain ⟨rfl, rfl⟩ := trodVars_none hV
  obtain ⟨a0, rfl, rfl, rfl, w0⟩ := open_int Try.underlying3 (hval 0 3 v0 rfl rfl) h0
  obtain ⟨a1, len1, cap1, rfl⟩ := okWide_slice Try.underlying22 (hval 1 22 v1 rfl rfl)
  have k1 := h1
  have lt1 : ∀ x ∈ p1, x.block < W.heap.size := by obtain ⟨m, hm⟩ := k1; exact DataW.trod_lt m _ _ _ hm
  obtain ⟨b1, off1, l1, w1⟩ : ∃ b off l, Base.IntsAt .i64 W a1 len1 cap1 b off l := by
    obtain ⟨fuel, hf⟩ := h1
    rcases open_ints Try.underlying22 Try.underlying3 (by kernel_rfl) hf with ⟨hcs, _⟩ | ⟨x, l, c, zs, hcs, _, hl, hm, hz, _, hcell, hwz⟩
    · simp [Value.cells] at hcs
      obtain ⟨rfl, rfl, rfl⟩ := hcs
      exact ⟨0, 0, [], Base.intsAt_nil _ _⟩
    · simp [Value.cells] at hcs
      obtain ⟨rfl, rfl, rfl⟩ := hcs
      obtain ⟨b, off, h⟩ := Base.intsAt_some hl hm (by simpa using hz) hcell hwz
      exact ⟨b, off, _, h⟩
  clear hA0 hval0
  refine (walk a0 a1 len1 cap1 b1 off1 l1 W w0 w1).mono fun e W' ⟨he, bel⟩ => ?_
  subst he
  exact ⟨_, rfl, _, _, _, [], _, [], hW', trodAll_mk1 (shut_bool Try.underlying4 _), (trodAll_cons_mk (shut_int Try.underlying3 w0) (trodAll_cons_mk (Below.trod laidOut (by kernel_rfl) (of_decide_eq_true (by kernel_rfl)) k1 bel lt1) trodAll_mk0)), rfl, bel.frame _, fun h => by cases h⟩

theorem over : Rows.ringPlaysRow.holds Try.pinned (OpenSpec.ofChange Rows.ringPlaysSpec) :=
  OpenClaim.holds_of_wide 5 Try.f5 rfl rfl rfl rfl rfl rfl rfl ⟨rfl, rfl, rfl, rfl, rfl⟩ rfl rfl rfl rfl rfl (by kernel_rfl) Try.func5 (by kernel_rfl)
    (of_decide_eq_true (by kernel_rfl)) (by unfold Func.isWrapper; first | (rw [if_pos (by decide +kernel)]; kernel_rfl) | (rw [if_neg (by decide +kernel)]; exact ⟨rfl, rfl⟩))
    (fun os started H enc _ => lifted os started H enc)

theorem proved : Rows.RingPlaysSaid := over
#print axioms proved
end Go.Proofs.Ytbkoccpgbhnncaa.ringPlays
