/- PinTurns returns true for every list of words, every epoch, every turn and every time later, and leaves its arguments as they were; no condition. -/
import Derived.Test.YtmblcdbpjdjcpaaRows
import Derived.WalkKit
import Derived.ProofKit
import Derived.OpenShut
import Derived.ShutString
import Derived.ChangeOld
import Derived.Below
import Derived.Test.YtmblcdbpjdjcpaaPinTurn
namespace Go.Proofs.Ytmblcdbpjdjcpaa.pinTurns
open Go.ChangeShapes Go.WideShapes Go.ChangeAt Go.RowKit
open Go.ChangeMaps (open_string shut_string)
set_option linter.unusedVariables false
set_option linter.unusedSimpArgs false

theorem own : ownKnob Try.prog.godebug = none := by kernel_rfl
theorem laidOut : laidOutB Try.prog = true := by kernel_rfl

set_option maxHeartbeats 4000000 in
set_option maxRecDepth 100000 in
theorem walk (a0 : Option Addr) (len0 cap0 b0 off0 : Nat) (l0 : List Int) (a1 : Int) (a2 : Int) (a3 : Int) (w : World) (w0 : Base.IntsAt .i64 w a0 len0 cap0 b0 off0 l0) (w1 : (Lit.int .i64 a1).wf = true) (w2 : (Lit.int .u8 a2).wf = true) (w3 : (Lit.int .u8 a3).wf = true) :
    Calls Try.prog 6 #[.slice a0 len0 cap0, .int .i64 a1, .int .u8 a2, .int .u8 a3] w fun e w' => e = .returned (.bool true) ∧ Below w.heap.size w w' := by
  obtain ⟨he0, he1⟩ := Base.wf_i64_bounds w1
  obtain ⟨hf0, hf1⟩ := Base.wf_u8_bounds w2
  obtain ⟨ht0, ht1⟩ := Base.wf_u8_bounds w3
  have hsl := w0.at
  have hsm := w0.small
  have hlen : len0 = l0.length := w0.len_eq
  subst hlen
  have hw64 : ∀ x ∈ l0, Pin.W64 x := fun x hx => Base.wf_i64_bounds (w0.wf x hx)
  obtain ⟨i0, hi, hz0, hz1, hz2⟩ := info_parts Pin.info
  go_enter Try.func6, Try.ntmps6
  go_wp2_with fail
  refine (Ref09.awake_any _).mono ?_
  rintro e v2 ⟨rfl, hb2⟩
  have hsl2 := hsl.below hb2
  go_wp2_with fail
  refine (Ref09.few_any _ _ _ _ hsl2).mono ?_
  rintro e v3 ⟨rfl, ⟨rfl, hfew⟩ | ⟨rfl, hfew⟩⟩
  · by_cases hg : 0 ≤ a1 ∧ a1 ≤ 1099511627776
    · obtain ⟨g0, g1⟩ := hg
      have hl20 := hfew.2
      have hM0 := Pin.Mine.nil hb2
      clear hfew
      go_wp2_with fail
      go_loopw [11, 12] (fun v i wr => ∃ (xs : List Int) (a : Option Addr) (c : Nat), v = .slice a xs.length c ∧ i = .int .i64 xs.length ∧ Pin.Turn l0 a2.toNat xs ∧ Pin.Mine w (.slice a xs.length c) xs wr) (fun v i _ => l0.length - (intOf i).toNat)
      case atStart => exact ⟨[], none, 0, rfl, rfl, Pin.Turn.nil _ _, hM0⟩
      case round =>
        obtain ⟨xs, a, c, rfl, rfl, hT, hM⟩ := hrel
        have hxl := hT.1
        by_cases hlt : xs.length < l0.length
        · have hmod := Nat.mod_lt (xs.length + a2.toNat) (show 0 < l0.length by omega)
          have hrem := Pin.tmod_nat xs.length hf0 l0.length
          have hTs := fun x h => hT.push (x := x) hlt h
          have hslr := hsl.below hM.below
          obtain ⟨g, off, rfl, hx⟩ := Ref09.at_cell hslr hmod
          have hxx := List.getElem?_eq_getElem hmod
          generalize l0[(xs.length + a2.toNat) % l0.length] = x at *
          have hT2 := hTs x hxx
          clear hTs hxx
          generalize (xs.length + a2.toNat) % l0.length = k at *
          have hk0 : (0 : Int) ≤ (k : Int) := by omega
          have hk1 : (k : Int) < (l0.length : Int) := by omega
          have hlp2 : (l0.length : Int) ≠ 0 := by omega
          go_wp2_with (at_builtin; refine Hp.wpList_append _ rfl _ _ 22 rfl 3 i0 (.int .i64 0) 1 8 Try.underlying22 hi hz0 hz1 hz2 rfl (by decide) _ _ _ rfl (hM.own.alloc _) ⟨wr.heap.size, 0, none⟩ 1 1 [.int .i64 x] rfl rfl ?c1 ?c2 ?c3 ?c4 ?_)
          case c1 => exact Hp.one_new _ _ _
          case c2 => simp [Value.oneCell']
          case c3 => unfold maxLen; omega
          case c4 => omega
          intro a7 c7 w7 hown7 hfp7 hch7
          have hM2 := hM.push (.cells #[.int .i64 x] 3) hown7 hfp7 hch7
          clear hown7 hfp7 hch7
          go_wp2_with fail
          go_roundw
          case rel => exact ⟨xs ++ [x], a7, c7, by simp, by simp, hT2, hM2⟩
          case measure => simp [intOf]; omega
        · have hall := hT.all (by omega)
          have hwx : ∀ y ∈ xs, Pin.W64 y := fun y hy => hw64 y (hT.mem hy)
          have hC1 := hM.cur
          have fL0 := fun (v : Value) (xs : List Int) (W : World) (h : Pin.Cur w v xs W) => Pin.Cur.least0 h hsl hw64
          have fL := fun (W : World) (h : Pin.Cur w (.slice a xs.length c) xs W) => Pin.Cur.least h hwx
          have fE := fun (W : World) (h : Pin.Cur w (.slice a xs.length c) xs W) => Pin.Cur.free h hwx (-1) a1
          have fP := fun (v : Value) (xs : List Int) (W : World) (h : Pin.Cur w v xs W) => Pin.Cur.free0 h hsl hw64 (-1) a1
          rw [Pin.lst_mem hall] at fL
          rw [Pin.blockedB_mem hall] at fE
          have hlm0 := Pin.lst_nonneg l0 hw64
          have hmore := fun (d : Int) (h : (Pin.lst l0).2 = true) (hd : 0 ≤ d) => Pin.lst_more h hd
          have hbm := fun (x : Int) => Pin.blockedB_more (l := l0) (x := x) (e := a1)
          have hz : l0.length = 0 → (Pin.lst l0).2 = false := fun h => by rw [List.eq_nil_of_length_eq_zero h]; rfl
          clear hall hT hM
          generalize (Pin.lst l0) = L at *
          obtain ⟨lm, sm⟩ := L
          generalize Pin.blockedB l0 (-1) a1 = be at *
          simp only at hlm0 hmore hz fL fL0
          go_wp2_with fail
          refine (fL0 _ _ _ hC1).mono ?_
          rintro r u3 ⟨rfl, hC2⟩
          go_wp2_with fail
          refine (fL _ hC2).mono ?_
          rintro r u4 ⟨rfl, hC3⟩
          have hne : (lm != lm) = false := by simp
          have hne2 : (sm != sm) = false := by simp
          go_wp2_with fail
          refine (fE _ hC3).mono ?_
          rintro r u5 ⟨rfl, hC4⟩
          go_wp2_with fail
          refine (fP _ _ _ hC4).mono ?_
          rintro r u6 ⟨rfl, hC5⟩
          have hne3 : ((!be) != (!be)) = false := by simp
          clear hC1 hC2 hC3 hC4 fL fE fL0
          cases sm
          · clear hmore hz
            go_wp2_with fail
            go_ret
            first | exact ⟨rfl, hC5.1⟩ | exact ⟨Base.ret_bool (by simp), hC5.1⟩
          · by_cases hlm1 : 1099511627476 < lm
            · clear hmore hz
              go_wp2_with fail
              go_ret
              first | exact ⟨rfl, hC5.1⟩ | exact ⟨Base.ret_bool (by simp), hC5.1⟩
            · have hlp : 0 < l0.length := Nat.pos_of_ne_zero fun h => by have := hz h; cases this
              clear hz
              have hm1 := hmore a3 rfl ht0
              have hb1 := hbm (lm + a3 + 1)
              have hsome := Pin.blockedB_some (l := l0 ++ [lm + a3 + 1]) (e := a1) (by rw [hm1])
              rw [hm1] at hsome
              simp only at hsome
              have hwm : ∀ y ∈ l0 ++ [lm + a3 + 1], Pin.W64 y := fun y hy => by
                rcases List.mem_append.1 hy with h | h
                · exact hw64 y h
                · obtain rfl := List.mem_singleton.1 h; unfold Pin.W64; omega
              have gL := fun (W : World) (a : Option Addr) (c : Nat) (h : Pin.Cur w (.slice a (l0 ++ [lm + a3 + 1]).length c) (l0 ++ [lm + a3 + 1]) W) => Pin.Cur.least h hwm
              have gF := fun (W : World) (a : Option Addr) (c : Nat) (h : Pin.Cur w (.slice a (l0 ++ [lm + a3 + 1]).length c) (l0 ++ [lm + a3 + 1]) W) => Pin.Cur.free h hwm l0.length a1
              have gE := fun (W : World) (a : Option Addr) (c : Nat) (h : Pin.Cur w (.slice a (l0 ++ [lm + a3 + 1]).length c) (l0 ++ [lm + a3 + 1]) W) => Pin.Cur.free h hwm (-1) a1
              rw [hm1] at gL
              rw [hb1] at gF
              rw [hsome] at gE
              simp only at gL
              rw [List.length_append, List.length_singleton] at gL gF gE
              clear hm1 hb1 hsome hmore hbm
              obtain ⟨a9, c9, hv9, hm9, hnil | ⟨g, off, ha9, hcells⟩⟩ := hsl.below hC5.1
              · exact absurd (List.map_eq_nil_iff.1 hnil) (by intro h; rw [h] at hlp; simp at hlp)
              injection hv9 with e1 e2 e3
              subst e1; subst ha9; clear e2 e3 hm9
              go_wp2_with (at_builtin; refine Hp.wpList_append _ rfl _ _ 22 rfl 3 i0 (.int .i64 0) 1 8 Try.underlying22 hi hz0 hz1 hz2 rfl (by decide) _ _ _ rfl (Pin.own_new _ _) ⟨g, off, none⟩ l0.length cap0 (l0.map (Value.int .i64)) rfl (by simp) ?c1 ?c2 ?c3 ?c4 ?_)
              case c1 => exact fun j u hj => by rw [Addr.add_lit]; exact (World.cell?_alloc_lt _ _ _ (World.block_lt_of_cell? _ _ (hcells j u hj))).trans (hcells j u hj)
              case c2 => exact fun u hu => by obtain ⟨x, _, rfl⟩ := List.mem_map.1 hu; rfl
              case c3 => unfold maxLen; omega
              case c4 => omega
              intro a7 c7 w7 hown7 hfp7 hch7
              have hN := Pin.Mine.copied hC5 _ hown7 hfp7 hch7
              clear hown7 hfp7 hch7 hcells
              go_wp2_with fail
              refine (Pin.word_any _ (lm + a3) (by omega) (by omega)).mono ?_
              rintro r w8 ⟨rfl, rfl⟩
              go_wp2_with (at_builtin; refine Hp.wpList_append _ rfl _ _ 22 rfl 3 i0 (.int .i64 0) 1 8 Try.underlying22 hi hz0 hz1 hz2 rfl (by decide) _ _ _ rfl (hN.own.alloc _) ⟨w7.heap.size, 0, none⟩ 1 1 [.int .i64 (lm + a3 + 1)] rfl rfl ?d1 ?d2 ?d3 ?d4 ?_)
              case d1 => exact Hp.one_new _ _ _
              case d2 => simp [Value.oneCell']
              case d3 => unfold maxLen; omega
              case d4 => omega
              intro a8 c8 w8 hown8 hfp8 hch8
              have hN2 := (hN.push (.cells #[.int .i64 (lm + a3 + 1)] 3) hown8 hfp8 hch8).cur
              rw [List.length_append, List.length_singleton] at hN2
              clear hown8 hfp8 hch8 hN
              have heq : (lm == lm) = true := by simp
              go_wp2_with fail
              refine (gL _ _ _ hN2).mono ?_
              rintro r x1 ⟨rfl, hD1⟩
              go_wp2_with fail
              refine (gF _ _ _ hD1).mono ?_
              rintro r x2 ⟨rfl, hD2⟩
              go_wp2_with fail
              refine (fP _ _ _ hD2).mono ?_
              rintro r x3 ⟨rfl, hD3⟩
              have heq2 : ((!be) == (!be)) = true := by simp
              by_cases hge : lm ≤ a1
              · skip
                go_wp2_with fail
                go_ret
                first | exact ⟨rfl, hD3.1⟩ | exact ⟨Base.ret_bool (by simp), hD3.1⟩ | exact ⟨Base.ret_bool (by simp; omega), hD3.1⟩
              · skip
                go_wp2_with fail
                refine (gE _ _ _ hD3).mono ?_
                rintro r x4 ⟨rfl, hD4⟩
                go_wp2_with fail
                go_ret
                first | exact ⟨rfl, hD4.1⟩ | exact ⟨Base.ret_bool (by simp), hD4.1⟩ | exact ⟨Base.ret_bool (by simp; omega), hD4.1⟩
    · go_wp2_with fail
      all_goals go_ret
      all_goals exact ⟨rfl, hb2⟩
  · go_wp2_with fail
    go_ret
    exact ⟨rfl, hb2⟩

set_option maxRecDepth 100000 in
theorem lifted (os : Os) (started : os.Started) (H : Type) (enc : TypeId × Value → H) :
    ReturnsInHanded {} Try.checked os 6 .any (Rows.pinTurnsSpec.pre6 enc Try.prog Try.f6 Rows.pinTurnsRow.domain false) (Rows.pinTurnsSpec.post enc Try.prog Try.f6 false true false false) := by
  refine returnsInHanded_of_change (C := Try.checked) own started (by kernel_rfl) Try.func6
    (ChangeSpec.witness6 (enc := enc) (C := Try.checked) false ⟨#[], #[.slice none 0 0, .int .i64 0, .int .u8 0, .int .u8 0], []⟩ 8 (by kernel_rfl) (by kernel_rfl) (by kernel_rfl) (by kernel_rfl)) ?_
  intro W base args ds gs before hval0 hW hcnd _
  have hval : ∀ (j : Nat) t v, Try.f6.params[j]? = some t → args[j]? = some v → Value.okWide Try.prog W .any base t v := hval0
  have hW' := hW
  obtain ⟨p, q, hA0, hV, rfl, hfz, hnd⟩ := hW
  have hA : DataW.TrodAll enc Try.prog W 0 (fun _ => true) true Try.f6.params.toList args.toList ds p := hA0
  rw [Try.params6] at hA hval
  obtain ⟨v0, vs0, d0, ds0, p0, q0, hargs, rfl, rfl, h0, r0⟩ := trodAll_cons hA
  obtain ⟨v1, vs1, d1, ds1, p1, q1, rfl, rfl, rfl, h1, r1⟩ := trodAll_cons r0
  obtain ⟨v2, vs2, d2, ds2, p2, q2, rfl, rfl, rfl, h2, r2⟩ := trodAll_cons r1
  obtain ⟨v3, vs3, d3, ds3, p3, q3, rfl, rfl, rfl, h3, r3⟩ := trodAll_cons r2
  obtain ⟨rfl, rfl, rfl⟩ := trodAll_nil r3
  obtain rfl : args = #[v0, v1, v2, v3] := by cases args; simp_all
  obtain ⟨rfl, rfl⟩ := trodVars_none hV
  obtain ⟨a0, len0, cap0, rfl⟩ := okWide_slice Try.underlying22 (hval 0 22 v0 rfl rfl)
  have k0 := h0
  have lt0 : ∀ x ∈ p0, x.block < W.heap.size := by obtain ⟨m, hm⟩ := k0; exact DataW.trod_lt m _ _ _ hm
  obtain ⟨b0, off0, l0, w0⟩ : ∃ b off l, Base.IntsAt .i64 W a0 len0 cap0 b off l := by
    obtain ⟨fuel, hf⟩ := h0
    rcases open_ints Try.underlying22 Try.underlying3 (by kernel_rfl) hf with ⟨hcs, _⟩ | ⟨x, l, c, zs, hcs, _, hl, hm, hz, _, hcell, hwz⟩
    · simp [Value.cells] at hcs
      obtain ⟨rfl, rfl, rfl⟩ := hcs
      exact ⟨0, 0, [], Base.intsAt_nil _ _⟩
    · simp [Value.cells] at hcs
      obtain ⟨rfl, rfl, rfl⟩ := hcs
      obtain ⟨b, off, h⟩ := Base.intsAt_some hl hm (by simpa using hz) hcell hwz
      exact ⟨b, off, _, h⟩
  obtain ⟨a1, rfl, rfl, rfl, w1⟩ := open_int Try.underlying3 (hval 1 3 v1 rfl rfl) h1
  obtain ⟨a2, rfl, rfl, rfl, w2⟩ := open_int Try.underlying5 (hval 2 5 v2 rfl rfl) h2
  obtain ⟨a3, rfl, rfl, rfl, w3⟩ := open_int Try.underlying5 (hval 3 5 v3 rfl rfl) h3
  clear hA0 hval0
  refine (walk a0 len0 cap0 b0 off0 l0 a1 a2 a3 W w0 w1 w2 w3).mono fun e W' ⟨he, bel⟩ => ?_
  subst he
  exact ⟨_, rfl, _, _, _, [], _, [], hW', trodAll_mk1 (shut_bool Try.underlying4 _), (trodAll_cons_mk (Below.trod laidOut (by kernel_rfl) (of_decide_eq_true (by kernel_rfl)) k0 bel lt0) (trodAll_cons_mk (shut_int Try.underlying3 w1) (trodAll_cons_mk (shut_int Try.underlying5 w2) (trodAll_cons_mk (shut_int Try.underlying5 w3) trodAll_mk0)))), rfl, bel.frame _, fun h => by cases h⟩

theorem over : Rows.pinTurnsRow.holds Try.pinned (OpenSpec.ofChange Rows.pinTurnsSpec) :=
  OpenClaim.holds_of_wide 6 Try.f6 rfl rfl rfl rfl rfl rfl rfl ⟨rfl, rfl, rfl, rfl, rfl⟩ rfl rfl rfl rfl rfl (by kernel_rfl) Try.func6 (by kernel_rfl)
    (of_decide_eq_true (by kernel_rfl)) (by unfold Func.isWrapper; first | (rw [if_pos (by decide +kernel)]; kernel_rfl) | (rw [if_neg (by decide +kernel)]; exact ⟨rfl, rfl⟩))
    (fun os started H enc _ => lifted os started H enc)

theorem proved : Rows.PinTurnsSaid := over
#print axioms proved
end Go.Proofs.Ytmblcdbpjdjcpaa.pinTurns
