/- WorldPlays returns true for every list of bytes, and leaves its argument as it was; no condition. -/
import Derived.Test.YtokmnjepglagjaaRows
import Derived.WalkKit
import Derived.ProofKit
import Derived.OpenShut
import Derived.ShutString
import Derived.ChangeOld
import Derived.Below
import Derived.Test.YtokmnjepglagjaaWorldPair
import Derived.Deep.RegionHeld3
import Derived.Deep.RegionWith
namespace Go.Proofs.Ytokmnjepglagjaa.worldPlays
open Go.ChangeShapes Go.WideShapes Go.ChangeAt Go.RowKit
open Go.ChangeMaps (open_string shut_string)
set_option linter.unusedVariables false
set_option linter.unusedSimpArgs false

theorem own : ownKnob Try.prog.godebug = none := by kernel_rfl
theorem laidOut : laidOutB Try.prog = true := by kernel_rfl

set_option maxHeartbeats 4000000 in
set_option maxRecDepth 100000 in
theorem walk (a0 : Option Addr) (len0 cap0 b0 off0 : Nat) (l0 : List Int) (w : World) (w0 : Base.IntsAt .u8 w a0 len0 cap0 b0 off0 l0) :
    Calls Try.prog 5 #[.slice a0 len0 cap0] w fun e w' => e = .returned (.bool true) ∧ Below w.heap.size w w' := by
  have Hlen := Lib.hid w0.len_eq
  have hget := fun j (hj : j < len0) => w0.get hj
  go_enter Try.func5, Try.ntmps5
  go_wp2_with fail
  refine (World11.awake_any _).mono ?_
  rintro e v2 ⟨rfl, hb2⟩
  go_wp2_with fail
  refine (World11.new_any v2).mono ?_
  rintro e v3 ⟨rfl, hA, hB⟩
  have hW := World11.Wd.made hb2 hA hB
  generalize v2.heap.size + 1 = wb at *
  clear hA hB
  generalize v2.heap.size = rb at *
  have hP := World11.Pw.made hW
  by_cases hlen : len0 ≤ 60
  · go_wp2_with fail
    generalize v3.alloc (.cells #[.slice none 0 0, .int .i64 0, .int .i64 0] 34) = v4 at *
    generalize v3.heap.size = sb at *
    clear hW
    go_loopw [6] (fun iv wr => ∃ (k : Nat) (l : List Bool) (g b : Int), iv = .int .i64 k ∧ k ≤ len0 ∧ l.length ≤ k ∧ (0 ≤ g ∧ g ≤ k) ∧ (0 ≤ b ∧ b ≤ k) ∧ World11.Pw w wb rb sb l g b l g b wr) (fun iv _ => len0 - (intOf iv).toNat)
    case atStart => exact ⟨0, [], 0, 0, rfl, by omega, by simp, by omega, by omega, hP⟩
    case round =>
      obtain ⟨k, l, g, b, rfl, hk, hl, ⟨hg0, hg1⟩, ⟨hb0, hb1⟩, hP1⟩ := hrel
      by_cases hlt : k < len0
      · obtain ⟨x, hx, hwx, hcx, rfl, hbx⟩ := hget k hlt
        obtain ⟨hx0, hx1⟩ := Base.wf_u8_bounds hwx
        have hcr : wr.cell? ⟨b0, off0 + k, none⟩ = some (.int .u8 x) := (hP1.below.cell (p := ⟨b0, off0 + k, none⟩) hbx).trans hcx
        clear hx
        by_cases hx2 : x < 2
        · by_cases hx4 : x = 1
          · have hx3 : (x == 1) = true := by simp; omega
            go_wp2_with fail
            refine (hP1.feed true (by omega)).mono ?_
            rintro e w2 ⟨rfl, hP2⟩
            have hcr2 : w2.cell? ⟨b0, off0 + k, none⟩ = some (.int .u8 x) := (hP2.below.cell (p := ⟨b0, off0 + k, none⟩) hbx).trans hcx
            clear hcr hP1 hcx
            go_wp2_with fail
            refine (hP2.feed2 true (by omega)).mono ?_
            rintro e w3 ⟨rfl, hP3⟩
            clear hcr2 hP2
            have hll : (l ++ [true]).length ≤ k + 1 := by first | omega | (simp; done) | (simp; omega)
            have hg9 : 0 ≤ (g : Int) ∧ (g : Int) ≤ k + 1 := by omega
            have hb9 : 0 ≤ (b : Int) ∧ (b : Int) ≤ k + 1 := by omega
            generalize (l ++ [true]) = l4 at *
            generalize (g : Int) = g4 at *
            generalize (b : Int) = b4 at *
            go_wp2_with fail
            refine hP3.asked.mono ?_
            rintro e w4 ⟨rfl, hP4⟩
            clear hP3
            obtain ⟨sa, sc, hs0, hs1, hs2, hs3⟩ := hP4.reads
            have hAL := (hP4.drewN 1).ahead
            have hne1 : (g4 != g4) = false := by simp
            have hne2 : (b4 != b4) = false := by simp
            go_wp2_with fail
            go_region_held3 (fun w' => w'.cell? ⟨sb, 0, none⟩ = some (.slice sa l4.length sc) ∧ w'.cell? ⟨sb, 1, none⟩ = some (.int .i64 g4) ∧ w'.cell? ⟨sb, 2, none⟩ = some (.int .i64 b4)) (first | go_keep | assumption | exact ⟨by assumption, by assumption, by assumption⟩)
              ((first
              | (go_at_call 11; refine hAL.mono ?_; rintro e w6 ⟨a, c, rfl, hs4, hP6, hk6⟩; have hs5 := hk6 _ _ hs0; have hs7 := hk6 _ _ hs1; have hs8 := hk6 _ _ hs2; have hs6 := hs3.stable hk6; clear hk6)
              | (go_at_call 12; refine (Ref01.bools_any _ _ _ l4 l4 hs4 hs6).mono ?_; rintro e w7 ⟨rfl, nn, rfl⟩; simp only [decide_true])))
            have hP7 := hP6.drewN nn
            clear hs0 hs1 hs2 hs3 hs4 hs5 hs6 hs7 hs8 hP6 hAL hP4
            generalize w6.drewN nn = w7 at *
            go_wp2_with fail
            go_roundw
            case rel => exact ⟨k + 1, l4, g4, b4, by go_num, by omega, hll, by simpa using hg9, by simpa using hb9, hP7⟩
            case measure => simp [intOf]; omega
          · have hx3 : (x == 1) = false := by simp; omega
            go_wp2_with fail
            refine (hP1.feed false (by omega)).mono ?_
            rintro e w2 ⟨rfl, hP2⟩
            have hcr2 : w2.cell? ⟨b0, off0 + k, none⟩ = some (.int .u8 x) := (hP2.below.cell (p := ⟨b0, off0 + k, none⟩) hbx).trans hcx
            clear hcr hP1 hcx
            go_wp2_with fail
            refine (hP2.feed2 false (by omega)).mono ?_
            rintro e w3 ⟨rfl, hP3⟩
            clear hcr2 hP2
            have hll : (l ++ [false]).length ≤ k + 1 := by first | omega | (simp; done) | (simp; omega)
            have hg9 : 0 ≤ (g : Int) ∧ (g : Int) ≤ k + 1 := by omega
            have hb9 : 0 ≤ (b : Int) ∧ (b : Int) ≤ k + 1 := by omega
            generalize (l ++ [false]) = l4 at *
            generalize (g : Int) = g4 at *
            generalize (b : Int) = b4 at *
            go_wp2_with fail
            refine hP3.asked.mono ?_
            rintro e w4 ⟨rfl, hP4⟩
            clear hP3
            obtain ⟨sa, sc, hs0, hs1, hs2, hs3⟩ := hP4.reads
            have hAL := (hP4.drewN 1).ahead
            have hne1 : (g4 != g4) = false := by simp
            have hne2 : (b4 != b4) = false := by simp
            go_wp2_with fail
            go_region_held3 (fun w' => w'.cell? ⟨sb, 0, none⟩ = some (.slice sa l4.length sc) ∧ w'.cell? ⟨sb, 1, none⟩ = some (.int .i64 g4) ∧ w'.cell? ⟨sb, 2, none⟩ = some (.int .i64 b4)) (first | go_keep | assumption | exact ⟨by assumption, by assumption, by assumption⟩)
              ((first
              | (go_at_call 11; refine hAL.mono ?_; rintro e w6 ⟨a, c, rfl, hs4, hP6, hk6⟩; have hs5 := hk6 _ _ hs0; have hs7 := hk6 _ _ hs1; have hs8 := hk6 _ _ hs2; have hs6 := hs3.stable hk6; clear hk6)
              | (go_at_call 12; refine (Ref01.bools_any _ _ _ l4 l4 hs4 hs6).mono ?_; rintro e w7 ⟨rfl, nn, rfl⟩; simp only [decide_true])))
            have hP7 := hP6.drewN nn
            clear hs0 hs1 hs2 hs3 hs4 hs5 hs6 hs7 hs8 hP6 hAL hP4
            generalize w6.drewN nn = w7 at *
            go_wp2_with fail
            go_roundw
            case rel => exact ⟨k + 1, l4, g4, b4, by go_num, by omega, hll, by simpa using hg9, by simpa using hb9, hP7⟩
            case measure => simp [intOf]; omega
        · rcases l with _ | ⟨y, l⟩
          · go_wp2_with fail
            refine (hP1.next_none ⟨by omega, by omega⟩).mono ?_
            rintro e w2 ⟨rfl, hP2⟩
            clear hcr hP1 hcx
            go_wp2_with fail
            refine (hP2.next_none2 ⟨by omega, by omega⟩).mono ?_
            rintro e w3 ⟨rfl, hP3⟩
            clear hP2
            have hll : ([] : List Bool).length ≤ k + 1 := by first | omega | (simp; done) | (simp; omega)
            have hg9 : 0 ≤ ((g + 1) : Int) ∧ ((g + 1) : Int) ≤ k + 1 := by omega
            have hb9 : 0 ≤ (b : Int) ∧ (b : Int) ≤ k + 1 := by omega
            generalize ([] : List Bool) = l4 at *
            generalize ((g + 1) : Int) = g4 at *
            generalize (b : Int) = b4 at *
            go_wp2_with fail
            refine hP3.asked.mono ?_
            rintro e w4 ⟨rfl, hP4⟩
            clear hP3
            obtain ⟨sa, sc, hs0, hs1, hs2, hs3⟩ := hP4.reads
            have hAL := (hP4.drewN 1).ahead
            have hne1 : (g4 != g4) = false := by simp
            have hne2 : (b4 != b4) = false := by simp
            go_wp2_with fail
            go_region_held3 (fun w' => w'.cell? ⟨sb, 0, none⟩ = some (.slice sa l4.length sc) ∧ w'.cell? ⟨sb, 1, none⟩ = some (.int .i64 g4) ∧ w'.cell? ⟨sb, 2, none⟩ = some (.int .i64 b4)) (first | go_keep | assumption | exact ⟨by assumption, by assumption, by assumption⟩)
              ((first
              | (go_at_call 11; refine hAL.mono ?_; rintro e w6 ⟨a, c, rfl, hs4, hP6, hk6⟩; have hs5 := hk6 _ _ hs0; have hs7 := hk6 _ _ hs1; have hs8 := hk6 _ _ hs2; have hs6 := hs3.stable hk6; clear hk6)
              | (go_at_call 12; refine (Ref01.bools_any _ _ _ l4 l4 hs4 hs6).mono ?_; rintro e w7 ⟨rfl, nn, rfl⟩; simp only [decide_true])))
            have hP7 := hP6.drewN nn
            clear hs0 hs1 hs2 hs3 hs4 hs5 hs6 hs7 hs8 hP6 hAL hP4
            generalize w6.drewN nn = w7 at *
            go_wp2_with fail
            go_roundw
            case rel => exact ⟨k + 1, l4, g4, b4, by go_num, by omega, hll, by simpa using hg9, by simpa using hb9, hP7⟩
            case measure => simp [intOf]; omega
          · simp only [List.length_cons] at hl
            cases y
            · go_wp2_with fail
              refine (World11.Pw.next_some false hP1 ⟨by omega, by omega⟩ ⟨by omega, by omega⟩).mono ?_
              rintro e w2 ⟨rfl, hP2⟩
              clear hcr hP1 hcx
              simp only [if_true, if_false, Bool.false_eq_true] at hP2
              go_wp2_with fail
              refine (World11.Pw.next_some2 false hP2 ⟨by omega, by omega⟩ ⟨by omega, by omega⟩).mono ?_
              rintro e w3 ⟨rfl, hP3⟩
              clear hP2
              simp only [if_true, if_false, Bool.false_eq_true] at hP3
              have hll : l.length ≤ k + 1 := by first | omega | (simp; done) | (simp; omega)
              have hg9 : 0 ≤ (g : Int) ∧ (g : Int) ≤ k + 1 := by omega
              have hb9 : 0 ≤ ((b + 1) : Int) ∧ ((b + 1) : Int) ≤ k + 1 := by omega
              generalize l = l4 at *
              generalize (g : Int) = g4 at *
              generalize ((b + 1) : Int) = b4 at *
              go_wp2_with fail
              refine hP3.asked.mono ?_
              rintro e w4 ⟨rfl, hP4⟩
              clear hP3
              obtain ⟨sa, sc, hs0, hs1, hs2, hs3⟩ := hP4.reads
              have hAL := (hP4.drewN 1).ahead
              have hne1 : (g4 != g4) = false := by simp
              have hne2 : (b4 != b4) = false := by simp
              go_wp2_with fail
              go_region_held3 (fun w' => w'.cell? ⟨sb, 0, none⟩ = some (.slice sa l4.length sc) ∧ w'.cell? ⟨sb, 1, none⟩ = some (.int .i64 g4) ∧ w'.cell? ⟨sb, 2, none⟩ = some (.int .i64 b4)) (first | go_keep | assumption | exact ⟨by assumption, by assumption, by assumption⟩)
                ((first
                | (go_at_call 11; refine hAL.mono ?_; rintro e w6 ⟨a, c, rfl, hs4, hP6, hk6⟩; have hs5 := hk6 _ _ hs0; have hs7 := hk6 _ _ hs1; have hs8 := hk6 _ _ hs2; have hs6 := hs3.stable hk6; clear hk6)
                | (go_at_call 12; refine (Ref01.bools_any _ _ _ l4 l4 hs4 hs6).mono ?_; rintro e w7 ⟨rfl, nn, rfl⟩; simp only [decide_true])))
              have hP7 := hP6.drewN nn
              clear hs0 hs1 hs2 hs3 hs4 hs5 hs6 hs7 hs8 hP6 hAL hP4
              generalize w6.drewN nn = w7 at *
              go_wp2_with fail
              go_roundw
              case rel => exact ⟨k + 1, l4, g4, b4, by go_num, by omega, hll, by simpa using hg9, by simpa using hb9, hP7⟩
              case measure => simp [intOf]; omega
            · go_wp2_with fail
              refine (World11.Pw.next_some true hP1 ⟨by omega, by omega⟩ ⟨by omega, by omega⟩).mono ?_
              rintro e w2 ⟨rfl, hP2⟩
              clear hcr hP1 hcx
              simp only [if_true, if_false, Bool.false_eq_true] at hP2
              go_wp2_with fail
              refine (World11.Pw.next_some2 true hP2 ⟨by omega, by omega⟩ ⟨by omega, by omega⟩).mono ?_
              rintro e w3 ⟨rfl, hP3⟩
              clear hP2
              simp only [if_true, if_false, Bool.false_eq_true] at hP3
              have hll : l.length ≤ k + 1 := by first | omega | (simp; done) | (simp; omega)
              have hg9 : 0 ≤ ((g + 1) : Int) ∧ ((g + 1) : Int) ≤ k + 1 := by omega
              have hb9 : 0 ≤ (b : Int) ∧ (b : Int) ≤ k + 1 := by omega
              generalize l = l4 at *
              generalize ((g + 1) : Int) = g4 at *
              generalize (b : Int) = b4 at *
              go_wp2_with fail
              refine hP3.asked.mono ?_
              rintro e w4 ⟨rfl, hP4⟩
              clear hP3
              obtain ⟨sa, sc, hs0, hs1, hs2, hs3⟩ := hP4.reads
              have hAL := (hP4.drewN 1).ahead
              have hne1 : (g4 != g4) = false := by simp
              have hne2 : (b4 != b4) = false := by simp
              go_wp2_with fail
              go_region_held3 (fun w' => w'.cell? ⟨sb, 0, none⟩ = some (.slice sa l4.length sc) ∧ w'.cell? ⟨sb, 1, none⟩ = some (.int .i64 g4) ∧ w'.cell? ⟨sb, 2, none⟩ = some (.int .i64 b4)) (first | go_keep | assumption | exact ⟨by assumption, by assumption, by assumption⟩)
                ((first
                | (go_at_call 11; refine hAL.mono ?_; rintro e w6 ⟨a, c, rfl, hs4, hP6, hk6⟩; have hs5 := hk6 _ _ hs0; have hs7 := hk6 _ _ hs1; have hs8 := hk6 _ _ hs2; have hs6 := hs3.stable hk6; clear hk6)
                | (go_at_call 12; refine (Ref01.bools_any _ _ _ l4 l4 hs4 hs6).mono ?_; rintro e w7 ⟨rfl, nn, rfl⟩; simp only [decide_true])))
              have hP7 := hP6.drewN nn
              clear hs0 hs1 hs2 hs3 hs4 hs5 hs6 hs7 hs8 hP6 hAL hP4
              generalize w6.drewN nn = w7 at *
              go_wp2_with fail
              go_roundw
              case rel => exact ⟨k + 1, l4, g4, b4, by go_num, by omega, hll, by simpa using hg9, by simpa using hb9, hP7⟩
              case measure => simp [intOf]; omega
      · go_wp2_with fail
        go_ret
        exact ⟨rfl, hP1.below⟩
  · go_wp2_with fail
    go_ret
    exact ⟨rfl, hP.below⟩

set_option maxRecDepth 100000 in
theorem lifted (os : Os) (started : os.Started) (H : Type) (enc : TypeId × Value → H) :
    ReturnsInHanded {} Try.checked os 5 .any (Rows.worldPlaysSpec.pre6 enc Try.prog Try.f5 Rows.worldPlaysRow.domain false) (Rows.worldPlaysSpec.post enc Try.prog Try.f5 false true false false) := by
  refine returnsInHanded_of_change (C := Try.checked) own started (by kernel_rfl) Try.func5
    (ChangeSpec.witness6 (enc := enc) (C := Try.checked) false ⟨#[], #[.slice none 0 0], []⟩ 8 (by kernel_rfl) (by kernel_rfl) (by kernel_rfl) (by kernel_rfl)) ?_
  intro W base args ds gs before hval0 hW hcnd _
  have hval : ∀ (j : Nat) t v, Try.f5.params[j]? = some t → args[j]? = some v → Value.okWide Try.prog W .any base t v := hval0
  have hW' := hW
  obtain ⟨p, q, hA0, hV, rfl, hfz, hnd⟩ := hW
  have hA : DataW.TrodAll enc Try.prog W 0 (fun _ => true) true Try.f5.params.toList args.toList ds p := hA0
  rw [Try.params5] at hA hval
  obtain ⟨v0, vs0, d0, ds0, p0, q0, hargs, rfl, rfl, h0, r0⟩ := trodAll_cons hA
  obtain ⟨rfl, rfl, rfl⟩ := trodAll_nil r0
  obtain rfl : args = #[v0] := by cases args; simp_all
  obtain ⟨rfl, rfl⟩ := trodVars_none hV
  obtain ⟨a0, len0, cap0, rfl⟩ := okWide_slice Try.underlying31 (hval 0 31 v0 rfl rfl)
  have k0 := h0
  have lt0 : ∀ x ∈ p0, x.block < W.heap.size := by obtain ⟨m, hm⟩ := k0; exact DataW.trod_lt m _ _ _ hm
  obtain ⟨b0, off0, l0, w0⟩ : ∃ b off l, Base.IntsAt .u8 W a0 len0 cap0 b off l := by
    obtain ⟨fuel, hf⟩ := h0
    rcases open_ints Try.underlying31 Try.underlying5 (by kernel_rfl) hf with ⟨hcs, _⟩ | ⟨x, l, c, zs, hcs, _, hl, hm, hz, _, hcell, hwz⟩
    · simp [Value.cells] at hcs
      obtain ⟨rfl, rfl, rfl⟩ := hcs
      exact ⟨0, 0, [], Base.intsAt_nil _ _⟩
    · simp [Value.cells] at hcs
      obtain ⟨rfl, rfl, rfl⟩ := hcs
      obtain ⟨b, off, h⟩ := Base.intsAt_some hl hm (by simpa using hz) hcell hwz
      exact ⟨b, off, _, h⟩
  clear hA0 hval0
  refine (walk a0 len0 cap0 b0 off0 l0 W w0).mono fun e W' ⟨he, bel⟩ => ?_
  subst he
  exact ⟨_, rfl, _, _, _, [], _, [], hW', trodAll_mk1 (shut_bool Try.underlying4 _), (trodAll_cons_mk (Below.trod laidOut (by kernel_rfl) (of_decide_eq_true (by kernel_rfl)) k0 bel lt0) trodAll_mk0), rfl, bel.frame _, fun h => by cases h⟩

theorem over : Rows.worldPlaysRow.holds Try.pinned (OpenSpec.ofChange Rows.worldPlaysSpec) :=
  OpenClaim.holds_of_wide 5 Try.f5 rfl rfl rfl rfl rfl rfl rfl ⟨rfl, rfl, rfl, rfl, rfl⟩ rfl rfl rfl rfl rfl (by kernel_rfl) Try.func5 (by kernel_rfl)
    (of_decide_eq_true (by kernel_rfl)) (by unfold Func.isWrapper; first | (rw [if_pos (by decide +kernel)]; kernel_rfl) | (rw [if_neg (by decide +kernel)]; exact ⟨rfl, rfl⟩))
    (fun os started H enc _ => lifted os started H enc)

theorem proved : Rows.WorldPlaysSaid := over
#print axioms proved
end Go.Proofs.Ytokmnjepglagjaa.worldPlays
