/- WorldLater returns true for every list and every number, and leaves its arguments as they were; no condition. -/
import Derived.Test.YtokmnjepglagjaaRows
import Derived.WalkKit
import Derived.ProofKit
import Derived.OpenShut
import Derived.ShutString
import Derived.ChangeOld
import Derived.Below
import Derived.Test.YtokmnjepglagjaaWorldLists
namespace Go.Proofs.Ytokmnjepglagjaa.worldLater
open Go.ChangeShapes Go.WideShapes Go.ChangeAt Go.RowKit
open Go.ChangeMaps (open_string shut_string)
set_option linter.unusedVariables false
set_option linter.unusedSimpArgs false

theorem own : ownKnob Try.prog.godebug = none := by kernel_rfl
theorem laidOut : laidOutB Try.prog = true := by kernel_rfl

set_option maxHeartbeats 4000000 in
set_option maxRecDepth 100000 in
theorem walk (a0 : Option Addr) (len0 cap0 b0 off0 : Nat) (l0 : List Bool) (a1 : Int) (w : World) (w0 : Base.BoolsAt w a0 len0 cap0 b0 off0 l0) (w1 : (Lit.int .u8 a1).wf = true) :
    Calls Try.prog 4 #[.slice a0 len0 cap0, .int .u8 a1] w fun e w' => e = .returned (.bool true) ∧ Below w.heap.size w w' := by
  obtain ⟨hf0, hf1⟩ := Base.wf_u8_bounds w1
  have hsl := Ref01.boolsAt_at w0
  have hget := fun j (hj : j < len0) => w0.get hj
  have hcap := w0.len_cap
  have hll : len0 = l0.length := w0.len_eq
  obtain ⟨H, hH, hH1, hH2⟩ : ∃ H : Nat, Int.tdiv (len0 : Int) 2 = (H : Int) ∧ H ≤ len0 ∧ (0 < len0 → H < len0) := ⟨len0 / 2, by rw [Int.tdiv_eq_ediv_of_nonneg (by omega)]; omega, by omega, by omega⟩
  obtain ⟨N, hN, hN1⟩ : ∃ N : Nat, Int.tmod a1 70 = (N : Int) ∧ N < 70 := ⟨(Int.tmod a1 70).toNat, by rw [Int.toNat_of_nonneg (Int.tmod_nonneg _ hf0)], by have := Int.tmod_lt_of_pos a1 (b := 70) (by omega); have := Int.tmod_nonneg 70 hf0; omega⟩
  have HLL := Lib.hid hll
  clear hll
  go_enter Try.func4, Try.ntmps4
  go_wp2_with fail
  refine (World11.awake_any _).mono ?_
  rintro e v2 ⟨rfl, hb2⟩
  go_wp2_with fail
  refine (World11.new_any v2).mono ?_
  rintro e v3 ⟨rfl, hA, hB⟩
  have hW := World11.Wd.made hb2 hA hB
  generalize v2.heap.size + 1 = wb at *
  clear hA hB
  generalize v2.heap.size = rb at *
  by_cases hlen : len0 ≤ 60
  · go_wp2_with fail
    go_loopw [8] (fun iv wr => ∃ i : Nat, iv = .int .i64 i ∧ i ≤ H ∧ World11.Wd w wb rb (l0.take i) 0 0 wr) (fun iv _ => H - (intOf iv).toNat)
    case atStart => exact ⟨0, rfl, by omega, by simpa using hW⟩
    case round =>
      obtain ⟨i, rfl, hi, hW2⟩ := hrel
      by_cases hlt : i < H
      · obtain ⟨x, hx, hcx, rfl, hbx⟩ := hget i (by omega)
        have hcr : wr.cell? ⟨b0, off0 + i, none⟩ = some (.bool x) := by rw [hW2.below.cell (p := ⟨b0, off0 + i, none⟩) hbx]; exact hcx
        have hp := hW2.feed_yes x (by simp; omega)
        rw [World11.take_push hx] at hp
        clear hx hcx
        go_wp2_with fail
        refine hp.mono ?_
        rintro e v4 ⟨rfl, hW3⟩
        go_wp2_with fail
        go_roundw
        case rel => exact ⟨i + 1, by go_num, by omega, hW3⟩
        case measure => simp [intOf]; omega
      · obtain rfl : i = H := by omega
        obtain ⟨wo, hwo⟩ : ∃ wo : World, wo = wr := ⟨_, rfl⟩
        clear hwo
        go_wp2_with fail
        go_loopw [10, 11] (fun jv xv wr2 => ∃ (j g b : Nat), jv = .int .i64 j ∧ j ≤ N ∧ g ≤ j ∧ b ≤ j ∧ World11.Wd w wb rb ((l0.take i).drop j) g b wr2) (fun jv xv _ => N - (intOf jv).toNat)
        case atStart => exact ⟨0, 0, 0, rfl, by omega, by omega, by omega, by simpa using hW2⟩
        case round =>
          obtain ⟨j, g, b, rfl, hj, hg, hb, hW4⟩ := hrel
          by_cases hlt2 : j < N
          · by_cases hji : i ≤ j
            · rw [World11.take_drop_nil l0 hji] at hW4
              have hnil := World11.take_drop_nil l0 (show i ≤ j + 1 by omega)
              go_wp2_with fail
              refine (hW4.next_none ⟨by omega, by omega⟩).mono ?_
              rintro e v4 ⟨rfl, hW5⟩
              rw [← hnil] at hW5
              clear hnil
              go_wp2_with fail
              go_roundw
              case rel => exact ⟨j + 1, g + 1, b, by go_num, by omega, by omega, by omega, by simpa using hW5⟩
              case measure => simp [intOf]; omega
            · obtain ⟨x, hx, hcx, rfl, hbx⟩ := hget j (by omega)
              have hcr : wr.cell? ⟨b0, off0 + j, none⟩ = some (.bool x) := by rw [hW4.below.cell (p := ⟨b0, off0 + j, none⟩) hbx]; exact hcx
              rw [World11.take_drop_cons hx (by omega)] at hW4
              have hm1 : (j : Int) ≤ (len0 : Int) - 1 := by omega
              clear hx hcx
              have hp := World11.Wd.next_some x hW4 ⟨by omega, by omega⟩ ⟨by omega, by omega⟩
              cases x
              all_goals (
                go_wp2_with fail
                refine hp.mono ?_
                rintro e v4 ⟨rfl, hW5⟩
                clear hp
                simp only [if_true, if_false, Bool.false_eq_true] at hW5
                go_wp2_with fail
                go_roundw)
              case rel => exact ⟨j + 1, g, b + 1, by go_num, by omega, by omega, by omega, by simpa using hW5⟩
              case measure => simp [intOf]; omega
              case rel => exact ⟨j + 1, g + 1, b, by go_num, by omega, by omega, by omega, by simpa using hW5⟩
              case measure => simp [intOf]; omega
          · go_wp2_with fail
            obtain rfl : j = N := by omega
            obtain ⟨T, hT⟩ : ∃ T, T = l0.drop (min j i) := ⟨_, rfl⟩
            have hcat := World11.drop_take_append l0 i j
            rw [← hT] at hcat
            have hTl : T.length ≤ 60 := by rw [hT]; simp; have := HLL.out; omega
            have HT := Lib.hid hT
            have Hcat := Lib.hid hcat
            clear hT hcat
            obtain ⟨wo2, hwo2⟩ : ∃ wo : World, wo = wr := ⟨_, rfl⟩
            clear hwo2
            go_loopw [12] (fun mv wr3 => ∃ (m : Nat) (L : List Bool), mv = .int .i64 m ∧ m ≤ len0 ∧ RowKit.Hid (L ++ l0.drop m = T) ∧ World11.Wd w wb rb L g b wr3) (fun mv _ => len0 - (intOf mv).toNat)
            case atStart => exact ⟨i, _, rfl, by omega, Hcat, hW4⟩
            case round =>
              obtain ⟨m, L, rfl, hm, hL, hW6⟩ := hrel
              by_cases hlt3 : m < len0
              · obtain ⟨x, hx, hcx, rfl, hbx⟩ := hget m (by omega)
                have hcr : wr.cell? ⟨b0, off0 + m, none⟩ = some (.bool x) := by rw [hW6.below.cell (p := ⟨b0, off0 + m, none⟩) hbx]; exact hcx
                have hL2 : (L ++ [x]) ++ l0.drop (m + 1) = T := by
                  have h1 := hL.out
                  have hlt := (List.getElem?_eq_some_iff.1 hx).1
                  rw [List.drop_eq_getElem_cons hlt, (List.getElem?_eq_some_iff.1 hx).2] at h1
                  simpa using h1
                have HL2 := Lib.hid hL2
                have hLl : L.length ≤ 60 := by
                  have h1 := congrArg List.length hL.out
                  simp at h1; omega
                have hp := hW6.feed_yes x (by omega)
                clear hx hcx hL2 hLl
                go_wp2_with fail
                refine hp.mono ?_
                rintro e v4 ⟨rfl, hW7⟩
                go_wp2_with fail
                go_roundw
                case rel => exact ⟨m + 1, _, by go_num, by omega, HL2, hW7⟩
                case measure => simp [intOf]; omega
              · have hLT : L = T := by
                  have h1 := hL.out
                  rwa [List.drop_eq_nil_of_le (by have := HLL.out; omega), List.append_nil] at h1
                subst hLT
                clear hL
                have hcl : len0 ≤ cap0 := hcap
                have hsr : ∀ K : Nat, K ≤ len0 → L = l0.drop K → Hp.SliceAt w (.slice (if cap0 = K then a0 else a0.map (·.add (K * 1))) (len0 - K) (cap0 - K)) (L.map Value.bool) := by
                  intro K hK hLK
                  rw [hLK, List.map_drop]
                  exact Hp.slice_drop_eq a0 len0 cap0 K _ w hsl hK hcl
                by_cases hji : j ≤ i
                · have hs1 := hsr j (by omega) (by rw [HT.out, Nat.min_eq_left hji])
                  by_cases hcj : cap0 = j
                  · rw [if_pos hcj, show cap0 - j = 0 by omega] at hs1
                    have Hs1 := Lib.hid hs1
                    clear hs1 hsr
                    go_wp2_with fail
                    refine (hW6.ahead).mono ?_
                    rintro e v5 ⟨a, c, rfl, hS, hW8⟩
                    have hs2 := Hs1.out.stable (w' := v5) fun p u hp => (hW8.below.cell (World.block_lt_of_cell? _ _ hp)).trans hp
                    clear Hs1
                    go_wp2_with fail
                    refine (Ref01.bools_any _ _ _ _ _ hS hs2).mono ?_
                    rintro e v6 ⟨rfl, n, rfl⟩
                    have hW9 := hW8.drewN n
                    clear hS hs2 hW8
                    simp only [decide_true]
                    go_wp2_with fail
                    go_ret
                    exact ⟨rfl, hW9.below⟩
                  · rw [if_neg hcj, Nat.mul_one] at hs1
                    have Hs1 := Lib.hid hs1
                    clear hs1 hsr
                    go_wp2_with fail
                    refine (hW6.ahead).mono ?_
                    rintro e v5 ⟨a, c, rfl, hS, hW8⟩
                    have hs2 := Hs1.out.stable (w' := v5) fun p u hp => (hW8.below.cell (World.block_lt_of_cell? _ _ hp)).trans hp
                    clear Hs1
                    go_wp2_with fail
                    refine (Ref01.bools_any _ _ _ _ _ hS hs2).mono ?_
                    rintro e v6 ⟨rfl, n, rfl⟩
                    have hW9 := hW8.drewN n
                    clear hS hs2 hW8
                    simp only [decide_true]
                    go_wp2_with fail
                    go_ret
                    exact ⟨rfl, hW9.below⟩
                · have hs1 := hsr i (by omega) (by rw [HT.out, Nat.min_eq_right (by omega)])
                  by_cases hcj : cap0 = i
                  · rw [if_pos hcj, show cap0 - i = 0 by omega] at hs1
                    have Hs1 := Lib.hid hs1
                    clear hs1 hsr
                    go_wp2_with fail
                    refine (hW6.ahead).mono ?_
                    rintro e v5 ⟨a, c, rfl, hS, hW8⟩
                    have hs2 := Hs1.out.stable (w' := v5) fun p u hp => (hW8.below.cell (World.block_lt_of_cell? _ _ hp)).trans hp
                    clear Hs1
                    go_wp2_with fail
                    refine (Ref01.bools_any _ _ _ _ _ hS hs2).mono ?_
                    rintro e v6 ⟨rfl, n, rfl⟩
                    have hW9 := hW8.drewN n
                    clear hS hs2 hW8
                    simp only [decide_true]
                    go_wp2_with fail
                    go_ret
                    exact ⟨rfl, hW9.below⟩
                  · rw [if_neg hcj, Nat.mul_one] at hs1
                    have Hs1 := Lib.hid hs1
                    clear hs1 hsr
                    go_wp2_with fail
                    refine (hW6.ahead).mono ?_
                    rintro e v5 ⟨a, c, rfl, hS, hW8⟩
                    have hs2 := Hs1.out.stable (w' := v5) fun p u hp => (hW8.below.cell (World.block_lt_of_cell? _ _ hp)).trans hp
                    clear Hs1
                    go_wp2_with fail
                    refine (Ref01.bools_any _ _ _ _ _ hS hs2).mono ?_
                    rintro e v6 ⟨rfl, n, rfl⟩
                    have hW9 := hW8.drewN n
                    clear hS hs2 hW8
                    simp only [decide_true]
                    go_wp2_with fail
                    go_ret
                    exact ⟨rfl, hW9.below⟩
  · go_wp2_with fail
    go_ret
    exact ⟨rfl, hW.below⟩

set_option maxRecDepth 100000 in
theorem lifted (os : Os) (started : os.Started) (H : Type) (enc : TypeId × Value → H) :
    ReturnsInHanded {} Try.checked os 4 .any (Rows.worldLaterSpec.pre6 enc Try.prog Try.f4 Rows.worldLaterRow.domain false) (Rows.worldLaterSpec.post enc Try.prog Try.f4 false true false false) := by
  refine returnsInHanded_of_change (C := Try.checked) own started (by kernel_rfl) Try.func4
    (ChangeSpec.witness6 (enc := enc) (C := Try.checked) false ⟨#[], #[.slice none 0 0, .int .u8 0], []⟩ 8 (by kernel_rfl) (by kernel_rfl) (by kernel_rfl) (by kernel_rfl)) ?_
  intro W base args ds gs before hval0 hW hcnd _
  have hval : ∀ (j : Nat) t v, Try.f4.params[j]? = some t → args[j]? = some v → Value.okWide Try.prog W .any base t v := hval0
  have hW' := hW
  obtain ⟨p, q, hA0, hV, rfl, hfz, hnd⟩ := hW
  have hA : DataW.TrodAll enc Try.prog W 0 (fun _ => true) true Try.f4.params.toList args.toList ds p := hA0
  rw [Try.params4] at hA hval
  obtain ⟨v0, vs0, d0, ds0, p0, q0, hargs, rfl, rfl, h0, r0⟩ := trodAll_cons hA
  obtain ⟨v1, vs1, d1, ds1, p1, q1, rfl, rfl, rfl, h1, r1⟩ := trodAll_cons r0
  obtain ⟨rfl, rfl, rfl⟩ := trodAll_nil r1
  obtain rfl : args = #[v0, v1] := by cases args; simp_all
  obtain ⟨rfl, rfl⟩ := trodVars_none hV
  obtain ⟨a0, len0, cap0, rfl⟩ := okWide_slice Try.underlying26 (hval 0 26 v0 rfl rfl)
  have k0 := h0
  have lt0 : ∀ x ∈ p0, x.block < W.heap.size := by obtain ⟨m, hm⟩ := k0; exact DataW.trod_lt m _ _ _ hm
  obtain ⟨b0, off0, l0, w0⟩ : ∃ b off l, Base.BoolsAt W a0 len0 cap0 b off l := by
    obtain ⟨fuel, hf⟩ := h0
    rcases Go.Deep.open_bools Try.underlying26 Try.underlying4 (by kernel_rfl) hf with ⟨hcs, _⟩ | ⟨x, l, c, zs, hcs, _, hl, hm, _, hcell⟩
    · simp [Value.cells] at hcs
      obtain ⟨rfl, rfl, rfl⟩ := hcs
      exact ⟨0, 0, [], Base.boolsAt_nil _⟩
    · simp [Value.cells] at hcs
      obtain ⟨rfl, rfl, rfl⟩ := hcs
      obtain ⟨b, off, h⟩ := Base.boolsAt_some hl hm hcell
      exact ⟨b, off, _, h⟩
  obtain ⟨a1, rfl, rfl, rfl, w1⟩ := open_int Try.underlying5 (hval 1 5 v1 rfl rfl) h1
  clear hA0 hval0
  refine (walk a0 len0 cap0 b0 off0 l0 a1 W w0 w1).mono fun e W' ⟨he, bel⟩ => ?_
  subst he
  exact ⟨_, rfl, _, _, _, [], _, [], hW', trodAll_mk1 (shut_bool Try.underlying4 _), (trodAll_cons_mk (Below.trod laidOut (by kernel_rfl) (of_decide_eq_true (by kernel_rfl)) k0 bel lt0) (trodAll_cons_mk (shut_int Try.underlying5 w1) trodAll_mk0)), rfl, bel.frame _, fun h => by cases h⟩

theorem over : Rows.worldLaterRow.holds Try.pinned (OpenSpec.ofChange Rows.worldLaterSpec) :=
  OpenClaim.holds_of_wide 4 Try.f4 rfl rfl rfl rfl rfl rfl rfl ⟨rfl, rfl, rfl, rfl, rfl⟩ rfl rfl rfl rfl rfl (by kernel_rfl) Try.func4 (by kernel_rfl)
    (of_decide_eq_true (by kernel_rfl)) (by unfold Func.isWrapper; first | (rw [if_pos (by decide +kernel)]; kernel_rfl) | (rw [if_neg (by decide +kernel)]; exact ⟨rfl, rfl⟩))
    (fun os started H enc _ => lifted os started H enc)

theorem proved : Rows.WorldLaterSaid := over
#print axioms proved
end Go.Proofs.Ytokmnjepglagjaa.worldLater
