/- Part 17 of the walks and plain laws that the last text joins. -/
import Derived.Test.YtpmkgddjgebojaaGreatDoorE15
import Derived.Great.BuildSlice
import Derived.Deep.DeepCutAuto
set_option maxRecDepth 100000
set_option maxHeartbeats 16000000
set_option linter.unusedVariables false
set_option linter.unusedSimpArgs false
namespace Go.Proofs.YtpmkgddjgebojaaGreatDoor.Mod
open Go.RowKit Hp Slot RowL Life
theorem ev_size' : (Tryz.prog.info? 36).map (·.size) = some 18:=by kernel_rfl
theorem ev_zero' : ((Tryz.prog.info? 36).bind (·.zero)) = some Ev.zero.val:=by kernel_rfl
theorem ev_fill (y : Ev) : Instr.fill (fun i => some (i * 18, 18)) ((Array.range (1 * 18)).map (Ev.zero.val.cells[· % Ev.zero.val.cells.size]!)) [(0, y.val)] = some y.cells:=by kernel_rfl
theorem build_ev (w : World) (y : Ev) : (Instr.buildSlice 52 1 #[(0, .agg y.cells)]).run Tryz.prog w = .ok (.slice (some ⟨w.heap.size, 0, none⟩) 1 1) (w.alloc (.cells y.cells 36)):=by
 have hs:=ev_size'
 have hz:=ev_zero'
 cases hi : Tryz.prog.info? 36 with
 | none => rw [hi] at hs; cases hs
 | some ie =>
  rw [hi] at hs hz
  simp only [Option.map_some, Option.some.injEq, Option.bind_some] at hs hz
  refine run_buildSlice w 52 36 1 #[(0, .agg y.cells)] y.cells ie Ev.zero.val Tryz.underlying52 hi hz (by rw [hs]; omega) (by rw [hs]; omega) ?_
  rw [hs]
  exact ev_fill y
theorem wpList_build_ev {ops : Array Oper} {rest : List Oper} {o : Oper} {a : Act} {w : World} {Q : Exit → Act → World → Prop} (hg : o.guard = none) (x : Operand) (ho : o.op = .buildSlice 52 1 #[(0, x)]) (y : Ev) (hx : a.eval x = .agg y.cells)
  (h : wpList Tryz.prog ops Q rest (a.put o.dst (.slice (some ⟨w.heap.size, 0, none⟩) 1 1)) (w.alloc (.cells y.cells 36))) : wpList Tryz.prog ops Q (o :: rest) a w :=
 wpList_plain hg fun _ hK => by
  have e : ((#[(0, x)] : Array (Nat × Operand)).map fun (i, x) => (i, a.eval x)) = #[(0, .agg y.cells)]:=by simp [hx]
  unfold Oper.wp execOp
  simp only [ho]
  rw [e]
  simp only [Sem.run_bind, build_ev w y, Result.andThen_ok]
  exact hK _ _ h
end Go.Proofs.YtpmkgddjgebojaaGreatDoor.Mod
namespace Go.Proofs.YtpmkgddjgebojaaGreatDoor.R8
open Go.RowKit Hp Slot RowL Life
theorem row15_any (w : World) (s : S) (own more : Int) (hr : s.right = true) : Calls Tryz.prog 101 #[s.val, .i 15, .i own, .i more] w fun e w' => e = .returned (.tuple #[(row8 15 s own more).1.val, .bool (row8 15 s own more).2]) ∧ Below w.heap.size w w':=by
 have hrb:=(right_bounds hr).2.2.2.2.2
 obtain ⟨st, ow, sm, br, ma, us, ge, ep, ve⟩:=s
 simp only at hrb
 have hR : row8 15 ⟨st, ow, sm, br, ma, us, ge, ep, ve⟩ own more = (if st ≠ 3 ∨ ow ≠ own ∨ more < 0 ∨ 7 < more then (⟨st, ow, sm, br, ma, us, ge, ep, ve⟩, false) else ({ (⟨st, ow, sm, br, ma, us, ge, ep, ve⟩ : S) with streams:=sm - pw more.toNat }, sm / pw more.toNat % 2 == 1)):=rfl
 have HR:=Lib.hid hR
 obtain ⟨hs0, hs1⟩:=hrb
 clear hR hr
 simp only [S.val, S.cells]
 obtain ⟨hA, ra, rb, rc⟩:=boxes8 w st ow sm br ma us ge ep ve
 go_enter Tryz.func101, Tryz.ntmps101
 go_upto_region 3 with (fail)
 generalize (((w.alloc (.cells (Ac st ow sm br ma us ge ep ve) 59)).alloc (.cells zero9 59)).alloc (.cells (Ac st ow sm br ma us ge ep ve) 59)) = wa at *
 obtain ⟨a0, a1, a2, a3, a4⟩:=rl5 ra
 clear a1 a3 a4
 generalize wa = wb at *
 by_cases hp : st = 3
 rotate_left
 ·have hq0 : (st != 3) = true:=by first | (simpa using hp) | omega
  have HR1:=Lib.hid (HR.out.trans (if_pos (.inl hp)))
  clear HR
  have hK : Kp wb (w.heap.size + 1) wb:=⟨Chg.refl _ _, zero9, rfl, rb⟩
  have hF:=below_setRow hA (g:=w.heap.size + 1) (by omega) (Ac st ow sm br ma us ge ep ve)
  have hr0 : ∃ r : S, r = ⟨st, ow, sm, br, ma, us, ge, ep, ve⟩:=⟨_, rfl⟩
  obtain ⟨r, hre⟩:=hr0
  have rc : RowAt wb (w.heap.size + 1 + 1) r.cells 59:=by rw [hre]; exact rc
  have HR2:=Lib.hid (show row8 15 ⟨st, ow, sm, br, ma, us, ge, ep, ve⟩ own more = (r, false) by rw [HR1.out, hre])
  clear HR1
  have hF : Below w.heap.size w (wb.setRow (w.heap.size + 1) r.cells):=by rw [hre]; exact hF
  have hst:=hK.store r
  have hsz : r.cells.size = 9:=rfl
  clear hre hp
  go_upto_region 49 with (fail)
  refine wp_region_lit ?_
  refine RowL.grow rc 59 (.tmp 10) Tryz.underlying59 ?_
  clear ra rb rc hA a0 a2
  go_wp2_with fail
  refine bR2 (w.heap.size + 1) (hK.row r) Tryz.underlying59 ?_
  exact ⟨by rw [show row8 _ _ _ _ = _ from HR2.out]; rfl, hF⟩
 have hq0 : (st != 3) = false:=by first | (simpa using hp) | omega
 have hz0:=Lib.hid hp
 clear hp
 by_cases hp : ow = own
 rotate_left
 ·have hq1 : (ow == own) = false:=by first | (simpa using hp) | omega
  have HR1:=Lib.hid (HR.out.trans (if_pos (.inr (.inl hp))))
  clear HR
  have hK : Kp wb (w.heap.size + 1) wb:=⟨Chg.refl _ _, zero9, rfl, rb⟩
  have hF:=below_setRow hA (g:=w.heap.size + 1) (by omega) (Ac st ow sm br ma us ge ep ve)
  have hr0 : ∃ r : S, r = ⟨st, ow, sm, br, ma, us, ge, ep, ve⟩:=⟨_, rfl⟩
  obtain ⟨r, hre⟩:=hr0
  have rc : RowAt wb (w.heap.size + 1 + 1) r.cells 59:=by rw [hre]; exact rc
  have HR2:=Lib.hid (show row8 15 ⟨st, ow, sm, br, ma, us, ge, ep, ve⟩ own more = (r, false) by rw [HR1.out, hre])
  clear HR1
  have hF : Below w.heap.size w (wb.setRow (w.heap.size + 1) r.cells):=by rw [hre]; exact hF
  have hst:=hK.store r
  have hsz : r.cells.size = 9:=rfl
  clear hre hp
  go_upto_region 49 with (fail)
  refine wp_region_lit ?_
  refine RowL.grow rc 59 (.tmp 10) Tryz.underlying59 ?_
  clear ra rb rc hA a0 a2
  go_wp2_with fail
  refine bR2 (w.heap.size + 1) (hK.row r) Tryz.underlying59 ?_
  exact ⟨by rw [show row8 _ _ _ _ = _ from HR2.out]; rfl, hF⟩
 have hq1 : (ow == own) = true:=by first | (simpa using hp) | omega
 have hz1:=Lib.hid hp
 clear hp
 by_cases hp : 0 ≤ more
 rotate_left
 ·have hq2 : more < 0:=by first | (simpa using hp) | omega
  have HR1:=Lib.hid (HR.out.trans (if_pos (.inr (.inr (.inl (by omega))))))
  clear HR
  have hK : Kp wb (w.heap.size + 1) wb:=⟨Chg.refl _ _, zero9, rfl, rb⟩
  have hF:=below_setRow hA (g:=w.heap.size + 1) (by omega) (Ac st ow sm br ma us ge ep ve)
  have hr0 : ∃ r : S, r = ⟨st, ow, sm, br, ma, us, ge, ep, ve⟩:=⟨_, rfl⟩
  obtain ⟨r, hre⟩:=hr0
  have rc : RowAt wb (w.heap.size + 1 + 1) r.cells 59:=by rw [hre]; exact rc
  have HR2:=Lib.hid (show row8 15 ⟨st, ow, sm, br, ma, us, ge, ep, ve⟩ own more = (r, false) by rw [HR1.out, hre])
  clear HR1
  have hF : Below w.heap.size w (wb.setRow (w.heap.size + 1) r.cells):=by rw [hre]; exact hF
  have hst:=hK.store r
  have hsz : r.cells.size = 9:=rfl
  clear hre hp
  go_upto_region 49 with (fail)
  refine wp_region_lit ?_
  refine RowL.grow rc 59 (.tmp 10) Tryz.underlying59 ?_
  clear ra rb rc hA a0 a2
  go_wp2_with fail
  refine bR2 (w.heap.size + 1) (hK.row r) Tryz.underlying59 ?_
  exact ⟨by rw [show row8 _ _ _ _ = _ from HR2.out]; rfl, hF⟩
 have hq2 : 0 ≤ more:=by first | (simpa using hp) | omega
 have hz2:=Lib.hid hp
 clear hp
 by_cases hp : more ≤ 7
 rotate_left
 ·have hq3 : 7 < more:=by first | (simpa using hp) | omega
  have HR1:=Lib.hid (HR.out.trans (if_pos (.inr (.inr (.inr (by omega))))))
  clear HR
  have hK : Kp wb (w.heap.size + 1) wb:=⟨Chg.refl _ _, zero9, rfl, rb⟩
  have hF:=below_setRow hA (g:=w.heap.size + 1) (by omega) (Ac st ow sm br ma us ge ep ve)
  have hr0 : ∃ r : S, r = ⟨st, ow, sm, br, ma, us, ge, ep, ve⟩:=⟨_, rfl⟩
  obtain ⟨r, hre⟩:=hr0
  have rc : RowAt wb (w.heap.size + 1 + 1) r.cells 59:=by rw [hre]; exact rc
  have HR2:=Lib.hid (show row8 15 ⟨st, ow, sm, br, ma, us, ge, ep, ve⟩ own more = (r, false) by rw [HR1.out, hre])
  clear HR1
  have hF : Below w.heap.size w (wb.setRow (w.heap.size + 1) r.cells):=by rw [hre]; exact hF
  have hst:=hK.store r
  have hsz : r.cells.size = 9:=rfl
  clear hre hp
  go_upto_region 49 with (fail)
  refine wp_region_lit ?_
  refine RowL.grow rc 59 (.tmp 10) Tryz.underlying59 ?_
  clear ra rb rc hA a0 a2
  go_wp2_with fail
  refine bR2 (w.heap.size + 1) (hK.row r) Tryz.underlying59 ?_
  exact ⟨by rw [show row8 _ _ _ _ = _ from HR2.out]; rfl, hF⟩
 have hq3 : more ≤ 7:=by first | (simpa using hp) | omega
 have hz3:=Lib.hid hp
 clear hp
 have HR:=Lib.hid (HR.out.trans (if_neg (by have h0:=hz0.out; have h1:=hz1.out; intro h; rcases h with h | h | h | h <;> first | exact h h0 | exact h h1 | omega)))
 obtain ⟨i, rfl⟩ : ∃ i : Nat, more = (i : Int):=⟨more.toNat, by omega⟩
 rw [Int.toNat_natCast] at HR
 have hi9 : i ≤ 9:=by omega
 have hpw:=fun W => power_any W i hi9
 have hpb : (pw i : Int) ≤ 512:=by
  have h1 : 2 ^ i ≤ 2 ^ 9:=Nat.pow_le_pow_right (by omega) hi9
  have h2 : pw i = 2 ^ i:=rfl
  omega
 have hp0 : (1 : Int) ≤ (pw i : Int):=by
  have h1 : 0 < 2 ^ i:=Nat.pow_pos (by omega)
  have h2 : pw i = 2 ^ i:=rfl
  omega
 clear hi9 hz0 hz1
 generalize pw i = p at *
 go_upto_region 50 with (fail)
 have hpn : ∀ n, Calls Tryz.prog 110 #[.i (i : Int)] (wb.drewN n) fun e w' => e = .returned (.i (p : Int)) ∧ w' = wb.drewN n:=fun n => (hpw _).mono fun e w' h => ⟨h.1, h.2.symm⟩
 have HPN:=Lib.hid hpn
 have HPW:=Lib.hid hpw
 clear hpw hpn
 go_quiet ((go_at_call 110; exact Calls.quiet_of_same (HPN.out _)))
 have hpw:=HPW.out
 have hx : (sm / (p : Int)).tmod 2 = sm / (p : Int) % 2:=Int.tmod_eq_emod_of_nonneg (Int.ediv_nonneg hs0 (by omega))
 generalize (sm / (p : Int)).tmod 2 = x at *
 have HX:=Lib.hid hx
 have hbd : Below wb.heap.size wb (wb.drewN nq):=⟨rfl, rfl, rfl, Nat.le_refl _, fun _ _ => rfl⟩
 have ra:=ra.below hbd
 have rb:=rb.below hbd
 have rc:=rc.below hbd
 have hA:=hA.trans (hbd.mono hA.size)
 clear hx HPN HPW a0 a2 hbd
 generalize wb.drewN nq = wd at *
 have hKs : Ks w ⟨st, ow, sm, br, ma, us, ge, ep, ve⟩ wd:=⟨hA, ra, rb, _, rc⟩
 have hKd:=hKs.drew
 have lA : ∀ w', Ks w ⟨st, ow, sm, br, ma, us, ge, ep, ve⟩ w' → w'.cell? ⟨w.heap.size, 2, none⟩ = some (.i sm):=fun w' h => h.2.1.cell 2
 have hwr : IntKind.i64.wrap (sm - (p : Int)) = sm - (p : Int):=IntWalk.i64_in _ (by omega)
 clear hA ra rb rc hKs
 go_upto_region 51 with (fail)
 refine wp_region_held_drew (S:=fun w' => Ks w ⟨st, ow, sm, br, ma, us, ge, ep, ve⟩ w') (by kernel_rfl) (by exact hKd) (fun hHeld => ?_)
 refine tKg 0 241 hHeld ?_
 try simp only [Act.put, sA, sZ, sS]
 refine tKg 1 242 hHeld ?_
 try simp only [Act.put, sA, sZ, sS]
 refine tKg 2 243 hHeld ?_
 try simp only [Act.put, sA, sZ, sS]
 refine rKc (i:=3) 110 #[.tmp 243] #[3] (some 244) (none) #[.i (i : Nat)] (enters_of Tryz.func110 (by kernel_rfl) rfl) ?_
 refine (hpw _).mono ?_
 rintro e w6 ⟨rfl, rfl⟩
 refine ⟨_, rfl, hHeld, fun hHeld2 => ?_⟩
 try simp only [Act.put, sA, sZ, sS]
 refine tKg 4 245 hHeld2 ?_
 try simp only [Act.put, sA, sZ, sS]
 refine tKg 5 246 hHeld2 ?_
 try simp only [Act.put, sA, sZ, sS]
 refine ready1 (i:=6) (by kernel_rfl) (step_store_cell 3 (.tmp 246) (.tmp 245) (by kernel_rfl) (w.heap.size + 1 + 1) 2 (.i (sm - (p : Int))) (by kernel_rfl) (by kernel_rfl) (fun _ => by obtain ⟨-, -, -, x, hx⟩:=hHeld2; exact st_int hx (by simp [S.cells])) (hHeld2.set _) (fun hHeld3 => ?_))
 have hT:=hHeld2.setR (sm - (p : Int))
 try simp only [Act.put, sA, sZ, sS]
 refine wpAnyH_done (by kernel_rfl) ?_ _
 clear hwr
 obtain ⟨hA, ra, rb, -⟩:=hHeld3
 generalize hwc : World.setCell _ _ _ = wc at *
 clear hwc
 have hr0 : ∃ r : S, r = { (⟨st, ow, sm, br, ma, us, ge, ep, ve⟩ : S) with streams:=sm - (p : Int) }:=⟨_, rfl⟩
 obtain ⟨r, hre⟩:=hr0
 rw [← hre] at hT
 have HR2:=Lib.hid (show row8 15 ⟨st, ow, sm, br, ma, us, ge, ep, ve⟩ own i = (r, x == 1) by rw [HR.out, hre, HX.out])
 have hK : Kp wc (w.heap.size + 1) wc:=⟨Chg.refl _ _, zero9, rfl, rb⟩
 have hst:=hK.store r
 have hsz : r.cells.size = 9:=rfl
 have hF:=below_setRow hA (g:=w.heap.size + 1) (by omega) r.cells
 clear hre HR HX
 go_upto_region 52 with (fail)
 refine wp_region_lit ?_
 refine RowL.grow hT 59 (.tmp 10) Tryz.underlying59 ?_
 clear hpw hT ra rb hA lA hp0 hpb hs0 hs1
 go_wp2_with fail
 refine bR2 (w.heap.size + 1) (hK.row r) Tryz.underlying59 ?_
 exact ⟨by rw [show row8 _ _ _ _ = _ from HR2.out]; rfl, hF⟩
end Go.Proofs.YtpmkgddjgebojaaGreatDoor.R8
