/- PinLess returns true for every list of words, both epochs and every place, and leaves its arguments as they were; no condition. -/
import Derived.Test.YtmblcdbpjdjcpaaRows
import Derived.WalkKit
import Derived.ProofKit
import Derived.OpenShut
import Derived.ShutString
import Derived.ChangeOld
import Derived.Below
import Derived.Test.YtmblcdbpjdjcpaaPinMore
namespace Go.Proofs.Ytmblcdbpjdjcpaa.pinLess
open Go.ChangeShapes Go.WideShapes Go.ChangeAt Go.RowKit
open Go.ChangeMaps (open_string shut_string)
set_option linter.unusedVariables false
set_option linter.unusedSimpArgs false

theorem own : ownKnob Try.prog.godebug = none := by kernel_rfl
theorem laidOut : laidOutB Try.prog = true := by kernel_rfl

set_option maxHeartbeats 4000000 in
set_option maxRecDepth 100000 in
theorem walk (a0 : Option Addr) (len0 cap0 b0 off0 : Nat) (l0 : List Int) (a1 : Int) (a2 : Int) (a3 : Int) (w : World) (w0 : Base.IntsAt .i64 w a0 len0 cap0 b0 off0 l0) (w1 : (Lit.int .i64 a1).wf = true) (w2 : (Lit.int .i64 a2).wf = true) (w3 : (Lit.int .u8 a3).wf = true) :
    Calls Try.prog 5 #[.slice a0 len0 cap0, .int .i64 a1, .int .i64 a2, .int .u8 a3] w fun e w' => e = .returned (.bool true) ∧ Below w.heap.size w w' := by
  obtain ⟨he0, he1⟩ := Base.wf_i64_bounds w1
  obtain ⟨hf0, hf1⟩ := Base.wf_i64_bounds w2
  obtain ⟨ht0, ht1⟩ := Base.wf_u8_bounds w3
  have hsl := w0.at
  have hsm := w0.small
  have hlen : len0 = l0.length := w0.len_eq
  subst hlen
  have hw64 : ∀ x ∈ l0, Pin.W64 x := fun x hx => Base.wf_i64_bounds (w0.wf x hx)
  go_enter Try.func5, Try.ntmps5
  go_wp2_with fail
  refine (Ref09.awake_any _).mono ?_
  rintro e v2 ⟨rfl, hb2⟩
  have hsl2 := hsl.below hb2
  go_wp2_with fail
  refine (Ref09.few_any _ _ _ _ hsl2).mono ?_
  rintro e v3 ⟨rfl, ⟨rfl, hfew⟩ | ⟨rfl, hfew⟩⟩
  · by_cases hg : 0 ≤ a1 ∧ a1 ≤ 1099511627776 ∧ a1 ≤ a2 ∧ a2 ≤ 1099511627776
    · obtain ⟨g0, g1, g2, g3⟩ := hg
      have hl20 := hfew.2
      have hC0 : Pin.Cur w (.slice a0 l0.length cap0) l0 v2 := ⟨hb2, hsl2⟩
      clear hb2 hsl2 hfew
      have fL := fun (W : World) (h : Pin.Cur w (.slice a0 l0.length cap0) l0 W) => Pin.Cur.least h hw64
      have fF := fun (W : World) (h : Pin.Cur w (.slice a0 l0.length cap0) l0 W) => Pin.Cur.free h hw64 (-1) a2
      have fE := fun (W : World) (h : Pin.Cur w (.slice a0 l0.length cap0) l0 W) => Pin.Cur.free h hw64 (-1) a1
      have fP := fun (v : Value) (xs : List Int) (W : World) (h : Pin.Cur w v xs W) => Pin.Cur.free0 h hsl hw64 (-1) a1
      have hmono := fun h : Pin.blockedB l0 (-1) a1 = true => Pin.blockedB_mono g2 h
      have hnone := fun h : (Pin.lst l0).2 = false => (And.intro (Pin.blockedB_none (e := a1) h) (Pin.blockedB_none (e := a2) h))
      have hsome := fun h : (Pin.lst l0).2 = true => Pin.blockedB_some (e := a1) h
      have hz : l0.length = 0 → (Pin.lst l0).2 = false := fun h => by rw [List.eq_nil_of_length_eq_zero h]; rfl
      have hle : ∀ k : Nat, Pin.blockedB l0 k a1 = true → Pin.blockedB l0 (-1) a1 = true := fun k h => Pin.blockedB_le h
      generalize (Pin.lst l0).1 = lm at *
      generalize (Pin.lst l0).2 = sm at *
      generalize Pin.blockedB l0 (-1) a2 = bf at *
      generalize Pin.blockedB l0 (-1) a1 = be at *
      go_wp2_with fail
      refine (fL _ hC0).mono ?_
      rintro r v3 ⟨rfl, hC1⟩
      clear hC0
      cases sm
      · obtain ⟨rfl, rfl⟩ := hnone rfl
        clear hmono hnone hsome
        go_wp2_with fail
        refine (fF _ hC1).mono ?_
        rintro r v4 ⟨rfl, hC2⟩
        go_wp2_with fail
        refine (fE _ hC2).mono ?_
        rintro r v5 ⟨rfl, hC3⟩
        go_wp2_with fail
        refine (fF _ hC3).mono ?_
        rintro r v6 ⟨rfl, hC4⟩
        by_cases hlz : l0.length = 0
        · have hlb : (((l0.length : Nat) : Int) == 0) = true := by simp [hlz]
          go_wp2_with fail
          go_ret
          first | exact ⟨rfl, hC4.1⟩ | exact ⟨Base.ret_bool (by simp), hC4.1⟩
        · have hlp : 0 < l0.length := by omega
          obtain ⟨k, hk, hkl⟩ : ∃ k : Nat, Int.tmod a3 (l0.length : Int) = (k : Int) ∧ k < l0.length := ⟨(Int.tmod a3 l0.length).toNat, by rw [Int.toNat_of_nonneg (Int.tmod_nonneg _ ht0)], by have := Int.tmod_lt_of_pos a3 (b := (l0.length : Int)) (by omega); have := Int.tmod_nonneg (l0.length : Int) ht0; omega⟩
          have hWc := hC4.2
          have hWb := hC4.1
          obtain ⟨a9, c9, hv9, hm9, hnil | ⟨g, off, ha9, hcells⟩⟩ := hWc
          · exact absurd (List.map_eq_nil_iff.1 hnil) (by intro h; rw [h] at hlp; simp at hlp)
          injection hv9 with e1 e2 e3
          subst e1; subst ha9; clear e2 e3 hz hm9
          have hlp2 : (l0.length : Int) ≠ 0 := by omega
          have hk0 : (0 : Int) ≤ (k : Int) := by omega
          have hk1 : (k : Int) < (l0.length : Int) := by omega
          obtain ⟨i0, hi, hz0, hz1, hz2⟩ := info_parts Pin.info
          go_wp2_with (at_builtin; refine Hp.wpList_append _ rfl _ _ 22 rfl 3 i0 (.int .i64 0) 1 8 Try.underlying22 hi hz0 hz1 hz2 rfl (by decide) _ _ _ rfl (Pin.own_new _ _) ⟨g, off, none⟩ l0.length cap0 (l0.map (Value.int .i64)) rfl (by simp) ?c1 ?c2 ?c3 ?c4 ?_)
          case c1 => exact fun j u hj => by rw [Addr.add_lit]; exact (World.cell?_alloc_lt _ _ _ (World.block_lt_of_cell? _ _ (hcells j u hj))).trans (hcells j u hj)
          case c2 => exact fun u hu => by obtain ⟨x, _, rfl⟩ := List.mem_map.1 hu; rfl
          case c3 => unfold maxLen; omega
          case c4 => omega
          intro a7 c7 w7 hown7 hfp7 hch7
          obtain ⟨g7, off7, u7, rfl, hcell7, hfz7, hR⟩ := Pin.Cur.copied hC4 _ hown7 hfp7 hch7 hkl
          have fR := fun (c : Nat) (a : Option Addr) (W : World) (h : Pin.Cur w (.slice a l0.length c) (l0.set k 0) W) => Pin.Cur.free_set h hw64 hkl a1
          have fK := fun (v : Value) (xs : List Int) (W : World) (h : Pin.Cur w v xs W) => Pin.Cur.free0 h hsl hw64 k a1
          have hb9 := hle k
          clear hown7 hfp7 hch7 hcells hle
          generalize Pin.blockedB l0 k a1 = bk at *
          obtain rfl : bk = false := by cases bk <;> simp_all
          clear hb9
          go_wp2_with fail
          refine (fR _ _ _ hR).mono ?_
          rintro r v8 ⟨rfl, hR2⟩
          go_wp2_with fail
          refine (fK _ _ _ hR2).mono ?_
          rintro r v9 ⟨rfl, hR3⟩
          go_wp2_with fail
          refine (fP _ _ _ hR3).mono ?_
          rintro r v10 ⟨rfl, hR4⟩
          go_wp2_with fail
          refine (fR _ _ _ hR4).mono ?_
          rintro r v11 ⟨rfl, hR5⟩
          go_wp2_with fail
          go_ret
          first | exact ⟨rfl, hR5.1⟩ | exact ⟨Base.ret_bool (by simp), hR5.1⟩
      · have hs := hsome rfl
        cases be
        · have hlt : decide (a1 < lm) = true := by simp at hs ⊢; omega
          clear hs hmono hnone hsome
          cases bf
          · skip
            go_wp2_with fail
            refine (fF _ hC1).mono ?_
            rintro r v4 ⟨rfl, hC2⟩
            go_wp2_with fail
            refine (fE _ hC2).mono ?_
            rintro r v5 ⟨rfl, hC3⟩
            go_wp2_with fail
            refine (fE _ hC3).mono ?_
            rintro r v6 ⟨rfl, hC4⟩
            by_cases hlz : l0.length = 0
            · exact absurd (hz hlz) (by simp)
            · have hlp : 0 < l0.length := by omega
              obtain ⟨k, hk, hkl⟩ : ∃ k : Nat, Int.tmod a3 (l0.length : Int) = (k : Int) ∧ k < l0.length := ⟨(Int.tmod a3 l0.length).toNat, by rw [Int.toNat_of_nonneg (Int.tmod_nonneg _ ht0)], by have := Int.tmod_lt_of_pos a3 (b := (l0.length : Int)) (by omega); have := Int.tmod_nonneg (l0.length : Int) ht0; omega⟩
              have hWc := hC4.2
              have hWb := hC4.1
              obtain ⟨a9, c9, hv9, hm9, hnil | ⟨g, off, ha9, hcells⟩⟩ := hWc
              · exact absurd (List.map_eq_nil_iff.1 hnil) (by intro h; rw [h] at hlp; simp at hlp)
              injection hv9 with e1 e2 e3
              subst e1; subst ha9; clear e2 e3 hz hm9
              have hlp2 : (l0.length : Int) ≠ 0 := by omega
              have hk0 : (0 : Int) ≤ (k : Int) := by omega
              have hk1 : (k : Int) < (l0.length : Int) := by omega
              obtain ⟨i0, hi, hz0, hz1, hz2⟩ := info_parts Pin.info
              go_wp2_with (at_builtin; refine Hp.wpList_append _ rfl _ _ 22 rfl 3 i0 (.int .i64 0) 1 8 Try.underlying22 hi hz0 hz1 hz2 rfl (by decide) _ _ _ rfl (Pin.own_new _ _) ⟨g, off, none⟩ l0.length cap0 (l0.map (Value.int .i64)) rfl (by simp) ?c1 ?c2 ?c3 ?c4 ?_)
              case c1 => exact fun j u hj => by rw [Addr.add_lit]; exact (World.cell?_alloc_lt _ _ _ (World.block_lt_of_cell? _ _ (hcells j u hj))).trans (hcells j u hj)
              case c2 => exact fun u hu => by obtain ⟨x, _, rfl⟩ := List.mem_map.1 hu; rfl
              case c3 => unfold maxLen; omega
              case c4 => omega
              intro a7 c7 w7 hown7 hfp7 hch7
              obtain ⟨g7, off7, u7, rfl, hcell7, hfz7, hR⟩ := Pin.Cur.copied hC4 _ hown7 hfp7 hch7 hkl
              have fR := fun (c : Nat) (a : Option Addr) (W : World) (h : Pin.Cur w (.slice a l0.length c) (l0.set k 0) W) => Pin.Cur.free_set h hw64 hkl a1
              have fK := fun (v : Value) (xs : List Int) (W : World) (h : Pin.Cur w v xs W) => Pin.Cur.free0 h hsl hw64 k a1
              have hb9 := hle k
              clear hown7 hfp7 hch7 hcells hle
              generalize Pin.blockedB l0 k a1 = bk at *
              obtain rfl : bk = false := by cases bk <;> simp_all
              clear hb9
              go_wp2_with fail
              refine (fR _ _ _ hR).mono ?_
              rintro r v8 ⟨rfl, hR2⟩
              go_wp2_with fail
              refine (fK _ _ _ hR2).mono ?_
              rintro r v9 ⟨rfl, hR3⟩
              go_wp2_with fail
              refine (fP _ _ _ hR3).mono ?_
              rintro r v10 ⟨rfl, hR4⟩
              go_wp2_with fail
              refine (fR _ _ _ hR4).mono ?_
              rintro r v11 ⟨rfl, hR5⟩
              go_wp2_with fail
              go_ret
              first | exact ⟨rfl, hR5.1⟩ | exact ⟨Base.ret_bool (by simp), hR5.1⟩
          · skip
            go_wp2_with fail
            refine (fF _ hC1).mono ?_
            rintro r v4 ⟨rfl, hC2⟩
            go_wp2_with fail
            refine (fE _ hC2).mono ?_
            rintro r v5 ⟨rfl, hC4⟩
            by_cases hlz : l0.length = 0
            · exact absurd (hz hlz) (by simp)
            · have hlp : 0 < l0.length := by omega
              obtain ⟨k, hk, hkl⟩ : ∃ k : Nat, Int.tmod a3 (l0.length : Int) = (k : Int) ∧ k < l0.length := ⟨(Int.tmod a3 l0.length).toNat, by rw [Int.toNat_of_nonneg (Int.tmod_nonneg _ ht0)], by have := Int.tmod_lt_of_pos a3 (b := (l0.length : Int)) (by omega); have := Int.tmod_nonneg (l0.length : Int) ht0; omega⟩
              have hWc := hC4.2
              have hWb := hC4.1
              obtain ⟨a9, c9, hv9, hm9, hnil | ⟨g, off, ha9, hcells⟩⟩ := hWc
              · exact absurd (List.map_eq_nil_iff.1 hnil) (by intro h; rw [h] at hlp; simp at hlp)
              injection hv9 with e1 e2 e3
              subst e1; subst ha9; clear e2 e3 hz hm9
              have hlp2 : (l0.length : Int) ≠ 0 := by omega
              have hk0 : (0 : Int) ≤ (k : Int) := by omega
              have hk1 : (k : Int) < (l0.length : Int) := by omega
              obtain ⟨i0, hi, hz0, hz1, hz2⟩ := info_parts Pin.info
              go_wp2_with (at_builtin; refine Hp.wpList_append _ rfl _ _ 22 rfl 3 i0 (.int .i64 0) 1 8 Try.underlying22 hi hz0 hz1 hz2 rfl (by decide) _ _ _ rfl (Pin.own_new _ _) ⟨g, off, none⟩ l0.length cap0 (l0.map (Value.int .i64)) rfl (by simp) ?c1 ?c2 ?c3 ?c4 ?_)
              case c1 => exact fun j u hj => by rw [Addr.add_lit]; exact (World.cell?_alloc_lt _ _ _ (World.block_lt_of_cell? _ _ (hcells j u hj))).trans (hcells j u hj)
              case c2 => exact fun u hu => by obtain ⟨x, _, rfl⟩ := List.mem_map.1 hu; rfl
              case c3 => unfold maxLen; omega
              case c4 => omega
              intro a7 c7 w7 hown7 hfp7 hch7
              obtain ⟨g7, off7, u7, rfl, hcell7, hfz7, hR⟩ := Pin.Cur.copied hC4 _ hown7 hfp7 hch7 hkl
              have fR := fun (c : Nat) (a : Option Addr) (W : World) (h : Pin.Cur w (.slice a l0.length c) (l0.set k 0) W) => Pin.Cur.free_set h hw64 hkl a1
              have fK := fun (v : Value) (xs : List Int) (W : World) (h : Pin.Cur w v xs W) => Pin.Cur.free0 h hsl hw64 k a1
              have hb9 := hle k
              clear hown7 hfp7 hch7 hcells hle
              generalize Pin.blockedB l0 k a1 = bk at *
              obtain rfl : bk = false := by cases bk <;> simp_all
              clear hb9
              go_wp2_with fail
              refine (fR _ _ _ hR).mono ?_
              rintro r v8 ⟨rfl, hR2⟩
              go_wp2_with fail
              refine (fK _ _ _ hR2).mono ?_
              rintro r v9 ⟨rfl, hR3⟩
              go_wp2_with fail
              refine (fP _ _ _ hR3).mono ?_
              rintro r v10 ⟨rfl, hR4⟩
              go_wp2_with fail
              refine (fR _ _ _ hR4).mono ?_
              rintro r v11 ⟨rfl, hR5⟩
              go_wp2_with fail
              go_ret
              first | exact ⟨rfl, hR5.1⟩ | exact ⟨Base.ret_bool (by simp), hR5.1⟩
        · obtain rfl := hmono rfl
          have hlt : decide (a1 < lm) = false := by simp at hs ⊢; omega
          clear hs hmono hnone hsome
          go_wp2_with fail
          refine (fF _ hC1).mono ?_
          rintro r v4 ⟨rfl, hC2⟩
          go_wp2_with fail
          refine (fE _ hC2).mono ?_
          rintro r v5 ⟨rfl, hC4⟩
          by_cases hlz : l0.length = 0
          · exact absurd (hz hlz) (by simp)
          · have hlp : 0 < l0.length := by omega
            obtain ⟨k, hk, hkl⟩ : ∃ k : Nat, Int.tmod a3 (l0.length : Int) = (k : Int) ∧ k < l0.length := ⟨(Int.tmod a3 l0.length).toNat, by rw [Int.toNat_of_nonneg (Int.tmod_nonneg _ ht0)], by have := Int.tmod_lt_of_pos a3 (b := (l0.length : Int)) (by omega); have := Int.tmod_nonneg (l0.length : Int) ht0; omega⟩
            have hWc := hC4.2
            have hWb := hC4.1
            obtain ⟨a9, c9, hv9, hm9, hnil | ⟨g, off, ha9, hcells⟩⟩ := hWc
            · exact absurd (List.map_eq_nil_iff.1 hnil) (by intro h; rw [h] at hlp; simp at hlp)
            injection hv9 with e1 e2 e3
            subst e1; subst ha9; clear e2 e3 hz hm9
            have hlp2 : (l0.length : Int) ≠ 0 := by omega
            have hk0 : (0 : Int) ≤ (k : Int) := by omega
            have hk1 : (k : Int) < (l0.length : Int) := by omega
            obtain ⟨i0, hi, hz0, hz1, hz2⟩ := info_parts Pin.info
            go_wp2_with (at_builtin; refine Hp.wpList_append _ rfl _ _ 22 rfl 3 i0 (.int .i64 0) 1 8 Try.underlying22 hi hz0 hz1 hz2 rfl (by decide) _ _ _ rfl (Pin.own_new _ _) ⟨g, off, none⟩ l0.length cap0 (l0.map (Value.int .i64)) rfl (by simp) ?c1 ?c2 ?c3 ?c4 ?_)
            case c1 => exact fun j u hj => by rw [Addr.add_lit]; exact (World.cell?_alloc_lt _ _ _ (World.block_lt_of_cell? _ _ (hcells j u hj))).trans (hcells j u hj)
            case c2 => exact fun u hu => by obtain ⟨x, _, rfl⟩ := List.mem_map.1 hu; rfl
            case c3 => unfold maxLen; omega
            case c4 => omega
            intro a7 c7 w7 hown7 hfp7 hch7
            obtain ⟨g7, off7, u7, rfl, hcell7, hfz7, hR⟩ := Pin.Cur.copied hC4 _ hown7 hfp7 hch7 hkl
            have fR := fun (c : Nat) (a : Option Addr) (W : World) (h : Pin.Cur w (.slice a l0.length c) (l0.set k 0) W) => Pin.Cur.free_set h hw64 hkl a1
            have fK := fun (v : Value) (xs : List Int) (W : World) (h : Pin.Cur w v xs W) => Pin.Cur.free0 h hsl hw64 k a1
            have hb9 := hle k
            clear hown7 hfp7 hch7 hcells hle
            generalize Pin.blockedB l0 k a1 = bk at *
            cases bk
            · skip
              clear hb9
              go_wp2_with fail
              refine (fR _ _ _ hR).mono ?_
              rintro r v8 ⟨rfl, hR2⟩
              go_wp2_with fail
              refine (fK _ _ _ hR2).mono ?_
              rintro r v9 ⟨rfl, hR3⟩
              go_wp2_with fail
              refine (fP _ _ _ hR3).mono ?_
              rintro r v10 ⟨rfl, hR4⟩
              go_wp2_with fail
              go_ret
              first | exact ⟨rfl, hR4.1⟩ | exact ⟨Base.ret_bool (by simp), hR4.1⟩
            · skip
              clear hb9
              go_wp2_with fail
              refine (fR _ _ _ hR).mono ?_
              rintro r v8 ⟨rfl, hR2⟩
              go_wp2_with fail
              refine (fK _ _ _ hR2).mono ?_
              rintro r v9 ⟨rfl, hR3⟩
              go_wp2_with fail
              refine (fP _ _ _ hR3).mono ?_
              rintro r v10 ⟨rfl, hR4⟩
              go_wp2_with fail
              go_ret
              first | exact ⟨rfl, hR4.1⟩ | exact ⟨Base.ret_bool (by simp), hR4.1⟩
    · go_wp2_with fail
      all_goals go_ret
      all_goals exact ⟨rfl, hb2⟩
  · go_wp2_with fail
    go_ret
    exact ⟨rfl, hb2⟩

set_option maxRecDepth 100000 in
theorem lifted (os : Os) (started : os.Started) (H : Type) (enc : TypeId × Value → H) :
    ReturnsInHanded {} Try.checked os 5 .any (Rows.pinLessSpec.pre6 enc Try.prog Try.f5 Rows.pinLessRow.domain false) (Rows.pinLessSpec.post enc Try.prog Try.f5 false true false false) := by
  refine returnsInHanded_of_change (C := Try.checked) own started (by kernel_rfl) Try.func5
    (ChangeSpec.witness6 (enc := enc) (C := Try.checked) false ⟨#[], #[.slice none 0 0, .int .i64 0, .int .i64 0, .int .u8 0], []⟩ 8 (by kernel_rfl) (by kernel_rfl) (by kernel_rfl) (by kernel_rfl)) ?_
  intro W base args ds gs before hval0 hW hcnd _
  have hval : ∀ (j : Nat) t v, Try.f5.params[j]? = some t → args[j]? = some v → Value.okWide Try.prog W .any base t v := hval0
  have hW' := hW
  obtain ⟨p, q, hA0, hV, rfl, hfz, hnd⟩ := hW
  have hA : DataW.TrodAll enc Try.prog W 0 (fun _ => true) true Try.f5.params.toList args.toList ds p := hA0
  rw [Try.params5] at hA hval
  obtain ⟨v0, vs0, d0, ds0, p0, q0, hargs, rfl, rfl, h0, r0⟩ := trodAll_cons hA
  obtain ⟨v1, vs1, d1, ds1, p1, q1, rfl, rfl, rfl, h1, r1⟩ := trodAll_cons r0
  obtain ⟨v2, vs2, d2, ds2, p2, q2, rfl, rfl, rfl, h2, r2⟩ := trodAll_cons r1
  obtain ⟨v3, vs3, d3, ds3, p3, q3, rfl, rfl, rfl, h3, r3⟩ := trodAll_cons r2
  obtain ⟨rfl, rfl, rfl⟩ := trodAll_nil r3
  obtain rfl : args = #[v0, v1, v2, v3] := by cases args; simp_all
  obtain ⟨rfl, rfl⟩ := trodVars_none hV
  obtain ⟨a0, len0, cap0, rfl⟩ := okWide_slice Try.underlying22 (hval 0 22 v0 rfl rfl)
  have k0 := h0
  have lt0 : ∀ x ∈ p0, x.block < W.heap.size := by obtain ⟨m, hm⟩ := k0; exact DataW.trod_lt m _ _ _ hm
  obtain ⟨b0, off0, l0, w0⟩ : ∃ b off l, Base.IntsAt .i64 W a0 len0 cap0 b off l := by
    obtain ⟨fuel, hf⟩ := h0
    rcases open_ints Try.underlying22 Try.underlying3 (by kernel_rfl) hf with ⟨hcs, _⟩ | ⟨x, l, c, zs, hcs, _, hl, hm, hz, _, hcell, hwz⟩
    · simp [Value.cells] at hcs
      obtain ⟨rfl, rfl, rfl⟩ := hcs
      exact ⟨0, 0, [], Base.intsAt_nil _ _⟩
    · simp [Value.cells] at hcs
      obtain ⟨rfl, rfl, rfl⟩ := hcs
      obtain ⟨b, off, h⟩ := Base.intsAt_some hl hm (by simpa using hz) hcell hwz
      exact ⟨b, off, _, h⟩
  obtain ⟨a1, rfl, rfl, rfl, w1⟩ := open_int Try.underlying3 (hval 1 3 v1 rfl rfl) h1
  obtain ⟨a2, rfl, rfl, rfl, w2⟩ := open_int Try.underlying3 (hval 2 3 v2 rfl rfl) h2
  obtain ⟨a3, rfl, rfl, rfl, w3⟩ := open_int Try.underlying5 (hval 3 5 v3 rfl rfl) h3
  clear hA0 hval0
  refine (walk a0 len0 cap0 b0 off0 l0 a1 a2 a3 W w0 w1 w2 w3).mono fun e W' ⟨he, bel⟩ => ?_
  subst he
  exact ⟨_, rfl, _, _, _, [], _, [], hW', trodAll_mk1 (shut_bool Try.underlying4 _), (trodAll_cons_mk (Below.trod laidOut (by kernel_rfl) (of_decide_eq_true (by kernel_rfl)) k0 bel lt0) (trodAll_cons_mk (shut_int Try.underlying3 w1) (trodAll_cons_mk (shut_int Try.underlying3 w2) (trodAll_cons_mk (shut_int Try.underlying5 w3) trodAll_mk0)))), rfl, bel.frame _, fun h => by cases h⟩

theorem over : Rows.pinLessRow.holds Try.pinned (OpenSpec.ofChange Rows.pinLessSpec) :=
  OpenClaim.holds_of_wide 5 Try.f5 rfl rfl rfl rfl rfl rfl rfl ⟨rfl, rfl, rfl, rfl, rfl⟩ rfl rfl rfl rfl rfl (by kernel_rfl) Try.func5 (by kernel_rfl)
    (of_decide_eq_true (by kernel_rfl)) (by unfold Func.isWrapper; first | (rw [if_pos (by decide +kernel)]; kernel_rfl) | (rw [if_neg (by decide +kernel)]; exact ⟨rfl, rfl⟩))
    (fun os started H enc _ => lifted os started H enc)

theorem proved : Rows.PinLessSaid := over
#print axioms proved
end Go.Proofs.Ytmblcdbpjdjcpaa.pinLess
