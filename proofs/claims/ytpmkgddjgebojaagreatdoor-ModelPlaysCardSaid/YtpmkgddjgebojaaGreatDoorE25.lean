/- Part 25 of the walks and plain laws that the last text joins. -/
import Derived.Test.YtpmkgddjgebojaaGreatDoorE19
import Derived.Deep.Slices
import Derived.Deep.Fields
import Derived.ChangeSame
import Derived.Lib.SmallJoins
set_option maxRecDepth 100000
set_option maxHeartbeats 16000000
set_option linter.unusedVariables false
set_option linter.unusedSimpArgs false
namespace Go.Proofs.YtpmkgddjgebojaaGreatDoor.Mod
open Go.RowKit Hp Slot RowL Life
theorem st_bool {w : World} {g off : Nat} {Z : Array Value} {t : TypeId} {b : Bool} (h : RowAt w g Z t) (ho : off < Z.size) : (Instr.storeAt 4 (.pointer (some ⟨g, off, none⟩)) (.bool b)).run Tryz.prog w = .ok () (w.setCell ⟨g, off, none⟩ (.bool b)):=by
 have hc:=h.cell off
 rw [Array.getElem?_eq_getElem ho] at hc
 have hf:=h.frozen off
 generalize Z[off] = z at hc
 clear h ho
 go_simp
theorem st_int {w : World} {g off : Nat} {Z : Array Value} {t : TypeId} {b : Int} (h : RowAt w g Z t) (ho : off < Z.size) : (Instr.storeAt 3 (.pointer (some ⟨g, off, none⟩)) (.i b)).run Tryz.prog w = .ok () (w.setCell ⟨g, off, none⟩ (.i b)):=by
 have hc:=h.cell off
 rw [Array.getElem?_eq_getElem ho] at hc
 have hf:=h.frozen off
 generalize Z[off] = z at hc
 clear h ho
 go_simp
theorem answered_any (W : World) (x : Ev) (who : Int) (a : Ask) :
  Calls Tryz.prog 41 #[x.val, .i who, a.val] W fun e W' => e = .returned (M.answered x who a).val ∧ Below W.heap.size W W':=by
 obtain ⟨en, wh, at', ⟨o1, d1, ww1, ff1, s1, g1, t1⟩, er, sl, ge, st, c1, c2, c3, c4⟩:=x
 obtain ⟨op, dl, wt, fo, asl, ag, at2⟩:=a
 have hB : Below W.heap.size W (((W.alloc (.cells (Ah en wh at' o1 d1 ww1 ff1 s1 g1 t1 er sl ge st c1 c2 c3 c4) 36)).alloc (.cells (Ad op dl wt fo asl ag at2) 25)).alloc (.cells Zv 36)):=(((Below.refl _ _).alloc (Nat.le_refl _) _).alloc (by simp) _).alloc (by simp; omega) _
 have r0 : RowAt (((W.alloc (.cells (Ah en wh at' o1 d1 ww1 ff1 s1 g1 t1 er sl ge st c1 c2 c3 c4) 36)).alloc (.cells (Ad op dl wt fo asl ag at2) 25)).alloc (.cells Zv 36)) W.heap.size (Ah en wh at' o1 d1 ww1 ff1 s1 g1 t1 er sl ge st c1 c2 c3 c4) 36:=by rw [RowAt, Below.heap_alloc _ _ _ (by simp; omega)]; exact heap_alloc2_old W _ _
 have ra : RowAt (((W.alloc (.cells (Ah en wh at' o1 d1 ww1 ff1 s1 g1 t1 er sl ge st c1 c2 c3 c4) 36)).alloc (.cells (Ad op dl wt fo asl ag at2) 25)).alloc (.cells Zv 36)) (W.heap.size + 1) (Ad op dl wt fo asl ag at2) 25:=heap_alloc3_mid W _ _ _
 have e0 : ERow (((W.alloc (.cells (Ah en wh at' o1 d1 ww1 ff1 s1 g1 t1 er sl ge st c1 c2 c3 c4) 36)).alloc (.cells (Ad op dl wt fo asl ag at2) 25)).alloc (.cells Zv 36)) (W.heap.size + 1 + 1):=⟨Zv, rfl, by have:=RowAt.new ((W.alloc (.cells (Ah en wh at' o1 d1 ww1 ff1 s1 g1 t1 er sl ge st c1 c2 c3 c4) 36)).alloc (.cells (Ad op dl wt fo asl ag at2) 25)) Zv 36; simpa using this⟩
 simp only [Ev.val, Ask.val, Ev.cells, Ask.cells]
 go_enter Tryz.func41, Tryz.ntmps41
 go_upto_region 1 with (fail)
 refine Code.wp_mono (Q:=fun e a' w' => e = .normal ∧ a' = { tmps:=#[.agg (Ah en wh at' o1 d1 ww1 ff1 s1 g1 t1 er sl ge st c1 c2 c3 c4), .i who, .agg (Ad op dl wt fo asl ag at2), .pointer (some ⟨W.heap.size, 0, none⟩), undef, .pointer (some ⟨W.heap.size + 1, 0, none⟩), .pointer (some ⟨W.heap.size + 1 + 1, 0, none⟩), .i who, .agg (Ad op dl wt fo asl ag at2), .pointer (some ⟨W.heap.size, 0, none⟩), .pointer (some ⟨W.heap.size, 1, none⟩), .pointer (some ⟨W.heap.size, 2, none⟩), .pointer (some ⟨W.heap.size, 3, none⟩), undef], defers:=[] } ∧ RowAt w' W.heap.size (Ah true who 0 op dl wt fo asl ag at2 er sl ge st c1 c2 c3 c4) 36 ∧ Chg (fun k => k = W.heap.size) (((W.alloc (.cells (Ah en wh at' o1 d1 ww1 ff1 s1 g1 t1 er sl ge st c1 c2 c3 c4) 36)).alloc (.cells (Ad op dl wt fo asl ag at2) 25)).alloc (.cells Zv 36)) w') ?rest ?first
 case first =>
  have hKd : Chg (fun k => k = W.heap.size) (((W.alloc (.cells (Ah en wh at' o1 d1 ww1 ff1 s1 g1 t1 er sl ge st c1 c2 c3 c4) 36)).alloc (.cells (Ad op dl wt fo asl ag at2) 25)).alloc (.cells Zv 36)) ((((W.alloc (.cells (Ah en wh at' o1 d1 ww1 ff1 s1 g1 t1 er sl ge st c1 c2 c3 c4) 36)).alloc (.cells (Ad op dl wt fo asl ag at2) 25)).alloc (.cells Zv 36))).drew:=(Chg.refl _ _).drew
  have rA : ∀ w', Chg (fun k => k = W.heap.size) (((W.alloc (.cells (Ah en wh at' o1 d1 ww1 ff1 s1 g1 t1 er sl ge st c1 c2 c3 c4) 36)).alloc (.cells (Ad op dl wt fo asl ag at2) 25)).alloc (.cells Zv 36)) w' → RowAt w' (W.heap.size + 1) (Ad op dl wt fo asl ag at2) 25:=fun w' h => ra.chg h (by simp)
  have r1 : RowAt ((((W.alloc (.cells (Ah en wh at' o1 d1 ww1 ff1 s1 g1 t1 er sl ge st c1 c2 c3 c4) 36)).alloc (.cells (Ad op dl wt fo asl ag at2) 25)).alloc (.cells Zv 36))).drew W.heap.size (Ah en wh at' o1 d1 ww1 ff1 s1 g1 t1 er sl ge st c1 c2 c3 c4) 36:=r0
  clear ra e0 hB r0
  generalize hwz : (((W.alloc (.cells (Ah en wh at' o1 d1 ww1 ff1 s1 g1 t1 er sl ge st c1 c2 c3 c4) 36)).alloc (.cells (Ad op dl wt fo asl ag at2) 25)).alloc (.cells Zv 36)) = w1 at *
  clear hwz
  have hk5 : True:=trivial
  have hk25 : True:=trivial
  refine wp_region_held_drew (S:=fun w' => Chg (fun k => k = W.heap.size) w1 w') (by kernel_rfl) (by exact hKd) (fun hHeld => ?_)
  refine take_of (i:=0) (d:=some 7) (op:=.move (.tmp 1)) (gd:=none) (v:=(.i who)) (by kernel_rfl) (by kernel_rfl) (by kernel_rfl) (by kernel_rfl) (fun _ _ _ h => nomatch h.1) (by kernel_rfl) (run_move_of (.tmp 1) (.i who) (by kernel_rfl)) hHeld ?_
  try simp only [Act.put, sA, sZ, sS]
  refine take_of (i:=1) (d:=some 8) (op:=.load 25 (.tmp 5)) (gd:=none) (v:=.agg (Ad op dl wt fo asl ag at2)) (by kernel_rfl) (by kernel_rfl) (by kernel_rfl) (by kernel_rfl) (fun _ _ _ h => nomatch h.1) (by kernel_rfl) (run_load_row 25 (.tmp 5) (W.heap.size + 1) 25 (Ad op dl wt fo asl ag at2) _ (by kernel_rfl) Tryz.underlying25 rfl (by kernel_rfl) rA) hHeld ?_
  try simp only [Act.put, sA, sZ, sS]
  refine takeg (i:=2) (d:=some 9) (v:=?_) (by kernel_rfl) (by kernel_rfl) (by kernel_rfl) (by kernel_rfl) (fun _ _ _ h => nomatch h.1) (by kernel_rfl) ?_ hHeld ?_
  rotate_left
  ·intro w hSw
   try dsimp only at hSw
   go_simp
   try with_reducible rfl
  try simp only [Act.put, sA, sZ, sS]
  have hC0:=hHeld
  have row0:=r1
  generalize w1.drew = v0 at row0 hC0 ⊢
  have row1 : RowAt (v0.setCell ⟨W.heap.size, 0, none⟩ (.bool true)) W.heap.size (Ah true wh at' o1 d1 ww1 ff1 s1 g1 t1 er sl ge st c1 c2 c3 c4) 36:=row0.setc 0 (.bool true)
  have hC1 : Chg (fun k => k = W.heap.size) w1 (v0.setCell ⟨W.heap.size, 0, none⟩ (.bool true)):=hC0.setCell _ _ (fun _ => rfl)
  refine ready1 (i:=3) (by kernel_rfl) (step_store_cell 4 (.tmp 9) (.const (.bool true)) (by kernel_rfl) W.heap.size 0 (.bool true) (by kernel_rfl) (by kernel_rfl) (fun _ => st_bool row0 (by simp)) hC1 (fun _ => ?_))
  generalize (v0.setCell ⟨W.heap.size, 0, none⟩ (.bool true)) = v1 at row1 hC1 ⊢
  refine takeg (i:=4) (d:=some 10) (v:=?_) (by kernel_rfl) (by kernel_rfl) (by kernel_rfl) (by kernel_rfl) (fun _ _ _ h => nomatch h.1) (by kernel_rfl) ?_ hC1 ?_
  rotate_left
  ·intro w hSw
   try dsimp only at hSw
   go_simp
   try with_reducible rfl
  try simp only [Act.put, sA, sZ, sS]
  have row2 : RowAt (v1.setCell ⟨W.heap.size, 1, none⟩ (.i who)) W.heap.size (Ah true who at' o1 d1 ww1 ff1 s1 g1 t1 er sl ge st c1 c2 c3 c4) 36:=row1.setc 1 (.i who)
  have hC2 : Chg (fun k => k = W.heap.size) w1 (v1.setCell ⟨W.heap.size, 1, none⟩ (.i who)):=hC1.setCell _ _ (fun _ => rfl)
  refine ready1 (i:=5) (by kernel_rfl) (step_store_cell 3 (.tmp 10) (.tmp 7) (by kernel_rfl) W.heap.size 1 (.i who) (by kernel_rfl) (by kernel_rfl) (fun _ => st_int row1 (by simp)) hC2 (fun _ => ?_))
  generalize (v1.setCell ⟨W.heap.size, 1, none⟩ (.i who)) = v2 at row2 hC2 ⊢
  refine takeg (i:=6) (d:=some 11) (v:=?_) (by kernel_rfl) (by kernel_rfl) (by kernel_rfl) (by kernel_rfl) (fun _ _ _ h => nomatch h.1) (by kernel_rfl) ?_ hC2 ?_
  rotate_left
  ·intro w hSw
   try dsimp only at hSw
   go_simp
   try with_reducible rfl
  try simp only [Act.put, sA, sZ, sS]
  have row3 : RowAt (v2.setCell ⟨W.heap.size, 2, none⟩ (.i 0)) W.heap.size (Ah true who 0 o1 d1 ww1 ff1 s1 g1 t1 er sl ge st c1 c2 c3 c4) 36:=row2.setc 2 (.i 0)
  have hC3 : Chg (fun k => k = W.heap.size) w1 (v2.setCell ⟨W.heap.size, 2, none⟩ (.i 0)):=hC2.setCell _ _ (fun _ => rfl)
  refine ready1 (i:=7) (by kernel_rfl) (step_store_cell 3 (.tmp 11) (.const (.i 0)) (by kernel_rfl) W.heap.size 2 (.i 0) (by kernel_rfl) (by kernel_rfl) (fun _ => st_int row2 (by simp)) hC3 (fun _ => ?_))
  generalize (v2.setCell ⟨W.heap.size, 2, none⟩ (.i 0)) = v3 at row3 hC3 ⊢
  refine takeg (i:=8) (d:=some 12) (v:=?_) (by kernel_rfl) (by kernel_rfl) (by kernel_rfl) (by kernel_rfl) (fun _ _ _ h => nomatch h.1) (by kernel_rfl) ?_ hC3 ?_
  rotate_left
  ·intro w hSw
   try dsimp only at hSw
   go_simp
   try with_reducible rfl
  try simp only [Act.put, sA, sZ, sS]
  have row4 : RowAt (v3.setCells W.heap.size 3 (Ad op dl wt fo asl ag at2).toList) W.heap.size (Ah true who 0 op dl wt fo asl ag at2 er sl ge st c1 c2 c3 c4) 36:=(((((((row3.setc 3 (.i op)).setc 4 (.i dl)).setc 5 (.bool wt)).setc 6 (.bool fo)).setc 7 (.i asl)).setc 8 (.i ag)).setc 9 (.i at2))
  have hC4 : Chg (fun k => k = W.heap.size) w1 (v3.setCells W.heap.size 3 (Ad op dl wt fo asl ag at2).toList):=hC3.trans (chg_setCells _ _ _ _) (fun _ _ h => h)
  refine ready1 (i:=9) (by kernel_rfl) (step_store_mid 25 (.tmp 12) (.tmp 8) (by kernel_rfl) W.heap.size 3 (Ad op dl wt fo asl ag at2) (by kernel_rfl) (by kernel_rfl) (there_row row3 (by simp)) (by kernel_rfl) (by kernel_rfl) hC4 (fun _ => ?_))
  generalize (v3.setCells W.heap.size 3 (Ad op dl wt fo asl ag at2).toList) = v4 at row4 hC4 ⊢
  refine wpAnyH_done (by kernel_rfl) ?_ _
  exact ⟨rfl, rfl, row4, hC4⟩
 case rest =>
  rintro e a' wx ⟨rfl, rfl, r9, hC⟩
  have e9:=e0.chg hC (by omega)
  have hBx:=hB.trans (hC.below (by simp; omega) (fun k e => by omega))
  clear hC e0 hB ra r0
  obtain ⟨Z, z1, z2⟩:=e9
  go_upto_region 2 with (fail)
  refine wp_region_lit ?_
  refine RowL.grow r9 36 (.tmp 3) Tryz.underlying36 ?_
  refine RowL.wpList_store_row rfl 36 (.tmp 6) (.tmp 13) rfl (W.heap.size + 1 + 1) _ Z (Ah true who 0 op dl wt fo asl ag at2 er sl ge st c1 c2 c3 c4) rfl rfl z2 z1 (by kernel_rfl) (by simp [Value.oneCell']) ?_
  go_wp2_with fail
  refine bR1 (W.heap.size + 1 + 1) (z2.set _) Tryz.underlying36 ?_
  exact ⟨rfl, hBx.trans ((chg_setRow (F:=fun k => k = W.heap.size + 1 + 1) (Chg.refl _ _) _ _ (fun _ => rfl)).below hBx.size (fun k e => by omega))⟩
theorem dial_closed (m : M) (i : Nat) (who : Int) : (m.dial i who).2.closed = m.closed:=by unfold M.dial; split <;> rfl
theorem dial_ss (m : M) (i : Nat) (who : Int) : (m.dial i who).2.ss = turnL m.ss i (if m.good then 1 else 2) who 0:=by unfold M.dial; split <;> simp_all <;> rfl
def takeEnd (m : M) (r : Ev × M) (i : Nat) : Ev × M:=if r.1.e = 0 ∧ m.closed ≠ 0 then (M.failed 5, r.2.empty i) else r
theorem take_eq (m : M) (who : Int) (i : Nat) : m.take who i = takeEnd m (if ((m.turn i 16 who 0).slot i).state = 1 then (m.turn i 16 who 0).dial i who else ((m.turn i 16 who 0).leased i, m.turn i 16 who 0)) i:=rfl
theorem m_take {W : World} {p : Pl} {m : M} (h : MAt W p m) (i : Nat) (who : Int) (s : S) (hi : m.ss[i]? = some s) :
  Calls Tryz.prog 49 #[.pointer (some ⟨p.mb, 0, none⟩), .i who, .i i] W (MPost W p (m.take who i).1.val (m.take who i).2):=by
 have hB : Below W.heap.size W (W.alloc (.cells ev0 36)):=(Below.refl _ _).alloc (Nat.le_refl _) _
 have r0 : Re W.heap.size (W.alloc (.cells ev0 36)) p (W.alloc (.cells ev0 36)) p m:=Re.begin h hB
 have e0 : ERow (W.alloc (.cells ev0 36)) W.heap.size:=⟨ev0, rfl, RowAt.new _ _ _⟩
 have hg1 : W.heap.size < (W.alloc (.cells ev0 36)).heap.size:=by simp
 have HI:=Lib.hid hi
 have hfl:=fun W => failed_any W 5
 have hf5 : M.failed 5 = { Ev.zero with e:=5 }:=rfl
 have hcl : (m.turn i 16 who 0).closed = m.closed:=rfl
 have hil : i < m.ss.length:=(List.getElem?_eq_some_iff.1 hi).1
 have hns:=h.ok.ns
 have hss : (m.turn i 16 who 0).ss[i]? = some (step s 16 who 0):=turnL_get hi
 have hsl : ((m.turn i 16 who 0).slot i) = step s 16 who 0:=M.slot_of hss
 have ht:=m_turn' r0.at' i 16 i 16 who 0 s hi rfl rfl (by simp [Done])
 have hR : m.take who i = takeEnd m (if (step s 16 who 0).state = 1 then (m.turn i 16 who 0).dial i who else ((m.turn i 16 who 0).leased i, m.turn i 16 who 0)) i:=by rw [take_eq, hsl]
 rw [← hf5] at hfl
 unfold takeEnd at hR
 generalize m.take who i = R at *
 generalize M.failed 5 = x5 at *
 generalize step s 16 who 0 = s1 at *
 have hml : (m.turn i 16 who 0).ss.length = m.ss.length:=turnL_len _ _ _ _ _
 generalize m.turn i 16 who 0 = m1 at *
 have hle0 : ∀ W, MAt W p m1 → Calls Tryz.prog 88 #[.pointer (some ⟨p.mb, 0, none⟩), .i i] W fun e W' => e = .returned (m1.leased i).val ∧ Below W.heap.size W W':=fun W h1 => m_leased h1 i i s1 hss rfl
 have hdi0 : ∀ W, MAt W p m1 → Calls Tryz.prog 89 #[.pointer (some ⟨p.mb, 0, none⟩), .i i, .i who] W (MPost W p (m1.dial i who).1.val (m1.dial i who).2):=fun W h1 => m_dial h1 i i who s1 hss rfl
 have hdc:=dial_closed m1 i who
 have hds : ∃ s', (m1.dial i who).2.ss[i]? = some s':=by rw [dial_ss]; exact ⟨_, turnL_get hss⟩
 generalize m1.leased i = x1 at *
 generalize m1.dial i who = rd at *
 obtain ⟨xd, md⟩:=rd
 simp only at hdc hdi0 hds
 have HR:=Lib.hid hR
 have HSS:=Lib.hid hss
 have HCL:=Lib.hid hcl
 have HDC:=Lib.hid hdc
 have HDS:=Lib.hid hds
 have LE0:=Lib.hid hle0
 have DI0:=Lib.hid hdi0
 have HL : i < m1.ss.length:=by rw [hml]; exact hil
 clear hf5 hi hss hcl hml hsl hR hdc hds hle0 hdi0
 go_enter Tryz.func49, Tryz.ntmps49
 go_wp2_with fail
 refine ht.mono ?_
 rintro e w1 ⟨rfl, h1, hc1⟩
 have r1:=r0.slots h1 hc1
 have e1:=e0.chg hc1 (fun e => r0.not (Nat.le_refl _) hg1 (.inr (.inl e)))
 have hle:=LE0.out w1 h1
 clear ht hc1 r0 e0 LE0
 go_wp2_with fail
 refine hle.mono ?_
 rintro e w2 ⟨rfl, hb2⟩
 have r2:=r1.below hb2
 have e2:=e1.below hb2
 have hg2 : W.heap.size < (w2.alloc (.cells x1.cells 36)).heap.size:=by have:=r2.size; simp at this ⊢; omega
 have hlt2 : W.heap.size < w2.heap.size:=by have:=r2.size; simp at this; omega
 have hgn : ¬ mfp p W.heap.size:=r2.not (Nat.le_refl _) hg1
 clear hle hb2 r1 e1 h1
 have hB2 : Below w2.heap.size w2 (w2.alloc (.cells x1.cells 36)):=(Below.refl _ _).alloc (Nat.le_refl _) _
 have q0 : Re w2.heap.size (w2.alloc (.cells x1.cells 36)) p (w2.alloc (.cells x1.cells 36)) p m1:=Re.begin r2.at' hB2
 have hst0 : (storeCells ⟨w2.heap.size, 0, none⟩ x1.cells.toList 0).run Tryz.prog (w2.alloc (.cells Zv 36)) = .ok () (w2.alloc (.cells x1.cells 36)):=by
  have:=ev_store (RowAt.new w2 ev0 36) rfl x1
  rw [setRow_new] at this
  exact this
 have hsz0:=ev_size x1
 have row0 : RowAt (w2.alloc (.cells x1.cells 36)) w2.heap.size x1.cells 36:=RowAt.new _ _ _
 have eR0 : ERow (w2.alloc (.cells x1.cells 36)) W.heap.size:=e2.below ((Below.refl _ _).alloc (Nat.le_refl _) _)
 have hg7 : w2.heap.size < (w2.alloc (.cells x1.cells 36)).heap.size:=by simp
 have c5:=q0.at'.hd.c5
 have cS:=(q0.at'.slots.get HSS.out).1
 have b0 : (0 : Int) ≤ (i : Int):=by omega
 have b1 : (i : Int) < (m1.ss.length : Int):=by omega
 have b2 : (i : Int) ≤ (m1.ss.length : Int) - 1:=by omega
 by_cases hd : s1.state = 1
 ·have hd' : (s1.state == 1) = true:=by simpa using hd
  have HR : RowKit.Hid (R = if xd.e = 0 ∧ m.closed ≠ 0 then (x5, md.empty i) else (xd, md)):=Lib.hid (by rw [HR.out, if_pos hd])
  obtain ⟨s9, hs9⟩:=HDS.out
  have HS9:=Lib.hid hs9
  clear hd hs9
  go_wp2_with fail
  clear hst0 hsz0 e2 cS c5 hd'
  generalize hwz : w2.alloc (.cells x1.cells 36) = wv at *
  clear hwz
  have hdi:=DI0.out wv q0.at'
  clear DI0
  refine hdi.mono ?_
  rintro e w3 hp
  obtain ⟨rfl, p3, q3, hc3⟩:=q0.post hp
  have row3' : ERow w3 w2.heap.size:=ERow.chg ⟨_, rfl, row0⟩ hc3 (q0.not (Nat.le_refl _) hg7)
  have eR3':=eR0.chg hc3 (q0.not' hgn hg2)
  have hst7:=row3'.store xd
  have hsz7:=ev_size xd
  have row3:=row3'.set xd
  have q4:=q3.row (Nat.le_refl _) hg7 xd.cells
  have eR3 : ERow (w3.setRow w2.heap.size xd.cells) W.heap.size:=eR3'.chg (chg_setRow (F:=fun k => k = w2.heap.size) (Chg.refl _ _) _ _ (fun _ => rfl)) (by omega)
  clear hdi hp hc3 row0 eR0 row3' eR3' q0 q3
  have c8:=q4.at'.hd.c8
  rw [q4.mb, HDC.out, HCL.out] at c8
  have cE : (w3.setRow w2.heap.size xd.cells).cell? ⟨w2.heap.size, 10, none⟩ = some (.i xd.e):=row3.cell 10
  by_cases he : xd.e = 0
  ·have he' : (xd.e == 0) = true:=by simpa using he
   by_cases hc : m.closed = 0
   ·have hc' : (m.closed != 0) = false:=by simp [hc]
    have HR2 : RowKit.Hid (R = (xd, md)):=Lib.hid (by rw [HR.out]; exact if_neg (fun h => h.2 hc))
    clear he hc
    have hst:=eR3.store xd
    have hsz:=ev_size xd
    clear hfl
    go_upto_region 8 with (fail)
    refine wp_region_lit ?_
    refine RowL.grow row3 36 (.tmp 7) Tryz.underlying36 ?_
    go_wp2_with fail
    refine bR1 W.heap.size (eR3.set xd) Tryz.underlying36 ?_
    obtain ⟨-, p9, r9, -⟩:=r2.post (q4.fin hB2 (.bool true))
    rw [HR2.out]
    exact (r9.row (Nat.le_refl _) hg1 xd.cells).fin hB _
   ·have hc' : (m.closed != 0) = true:=by simp [hc]
    have HR2 : RowKit.Hid (R = (x5, (md).empty i)):=Lib.hid (by rw [HR.out]; exact if_pos ⟨he, hc⟩)
    have hem:=m_empty q4.at' i i s9 HS9.out rfl
    rw [q4.mb] at hem
    clear he hc
    go_wp2_with fail
    refine hem.mono ?_
    rintro e w4 ⟨⟨v4, rfl⟩, h4, hc4⟩
    have q4:=q4.slots h4 hc4
    have e4:=eR3.chg hc4 (fun e => q4.not' hgn hg2 (.inr (.inl e)))
    clear hem h4 hc4 c8 cE
    go_wp2_with fail
    refine (hfl _).mono ?_
    rintro e w5 ⟨rfl, hb5⟩
    have q5:=q4.below hb5
    have e5:=e4.below hb5
    have hst:=e5.store x5
    have hsz:=ev_size x5
    clear hfl hb5 q4 e4
    go_wp2_with fail
    refine bR1 W.heap.size (e5.set x5) Tryz.underlying36 ?_
    obtain ⟨-, p9, r9, -⟩:=r2.post (q5.fin hB2 (.bool true))
    rw [HR2.out]
    exact (r9.row (Nat.le_refl _) hg1 x5.cells).fin hB _
  ·have he' : (xd.e == 0) = false:=by simpa using he
   have HR2 : RowKit.Hid (R = (xd, md)):=Lib.hid (by rw [HR.out]; exact if_neg (fun h => he h.1))
   clear he
   have hst:=eR3.store xd
   have hsz:=ev_size xd
   clear hfl
   go_upto_region 8 with (fail)
   refine wp_region_lit ?_
   refine RowL.grow row3 36 (.tmp 7) Tryz.underlying36 ?_
   go_wp2_with fail
   refine bR1 W.heap.size (eR3.set xd) Tryz.underlying36 ?_
   obtain ⟨-, p9, r9, -⟩:=r2.post (q4.fin hB2 (.bool true))
   rw [HR2.out]
   exact (r9.row (Nat.le_refl _) hg1 xd.cells).fin hB _
 ·have hd' : (s1.state == 1) = false:=by simpa using hd
  have HR : RowKit.Hid (R = if x1.e = 0 ∧ m.closed ≠ 0 then (x5, m1.empty i) else (x1, m1)):=Lib.hid (by rw [HR.out, if_neg hd])
  clear hd DI0 e2
  have c8:=q0.at'.hd.c8
  rw [q0.mb, HCL.out] at c8
  have cE : (w2.alloc (.cells x1.cells 36)).cell? ⟨w2.heap.size, 10, none⟩ = some (.i x1.e):=row0.cell 10
  by_cases he : x1.e = 0
  ·have he' : (x1.e == 0) = true:=by simpa using he
   by_cases hc : m.closed = 0
   ·have hc' : (m.closed != 0) = false:=by simp [hc]
    have HR2 : RowKit.Hid (R = (x1, m1)):=Lib.hid (by rw [HR.out]; exact if_neg (fun h => h.2 hc))
    clear he hc
    have hst:=eR0.store x1
    have hsz:=ev_size x1
    clear hfl
    go_upto_region 8 with (fail)
    refine wp_region_lit ?_
    refine RowL.grow row0 36 (.tmp 7) Tryz.underlying36 ?_
    go_wp2_with fail
    refine bR1 W.heap.size (eR0.set x1) Tryz.underlying36 ?_
    obtain ⟨-, p9, r9, -⟩:=r2.post (q0.fin hB2 (.bool true))
    rw [HR2.out]
    exact (r9.row (Nat.le_refl _) hg1 x1.cells).fin hB _
   ·have hc' : (m.closed != 0) = true:=by simp [hc]
    have HR2 : RowKit.Hid (R = (x5, (m1).empty i)):=Lib.hid (by rw [HR.out]; exact if_pos ⟨he, hc⟩)
    have hem:=m_empty q0.at' i i s1 HSS.out rfl
    rw [q0.mb] at hem
    clear he hc
    go_wp2_with fail
    refine hem.mono ?_
    rintro e w4 ⟨⟨v4, rfl⟩, h4, hc4⟩
    have q4:=q0.slots h4 hc4
    have e4:=eR0.chg hc4 (fun e => q0.not' hgn hg2 (.inr (.inl e)))
    clear hem h4 hc4 c8 cE
    go_wp2_with fail
    refine (hfl _).mono ?_
    rintro e w5 ⟨rfl, hb5⟩
    have q5:=q4.below hb5
    have e5:=e4.below hb5
    have hst:=e5.store x5
    have hsz:=ev_size x5
    clear hfl hb5 q4 e4
    go_wp2_with fail
    refine bR1 W.heap.size (e5.set x5) Tryz.underlying36 ?_
    obtain ⟨-, p9, r9, -⟩:=r2.post (q5.fin hB2 (.bool true))
    rw [HR2.out]
    exact (r9.row (Nat.le_refl _) hg1 x5.cells).fin hB _
  ·have he' : (x1.e == 0) = false:=by simpa using he
   have HR2 : RowKit.Hid (R = (x1, m1)):=Lib.hid (by rw [HR.out]; exact if_neg (fun h => he h.1))
   clear he
   have hst:=eR0.store x1
   have hsz:=ev_size x1
   clear hfl
   go_upto_region 8 with (fail)
   refine wp_region_lit ?_
   refine RowL.grow row0 36 (.tmp 7) Tryz.underlying36 ?_
   go_wp2_with fail
   refine bR1 W.heap.size (eR0.set x1) Tryz.underlying36 ?_
   obtain ⟨-, p9, r9, -⟩:=r2.post (q0.fin hB2 (.bool true))
   rw [HR2.out]
   exact (r9.row (Nat.le_refl _) hg1 x1.cells).fin hB _
end Go.Proofs.YtpmkgddjgebojaaGreatDoor.Mod
namespace Go.Proofs.YtpmkgddjgebojaaGreatDoor.Mod
open Go.RowKit Hp Slot RowL Life Go.ChangeShapes Go.WideShapes Go.Deep Go.Joins
section
variable {H : Type} {enc : TypeId × Value → H} {P : Program} {w : World} {base : Nat} {spare : Nat → Bool} {held : Bool}
theorem open_slice_fields {t e : TypeId} {fs : Array Field} {fuel : Nat} {cs : List Value} {x : DataW H × List MemPlace} (ht : P.underlying t = some (.slice e)) (he : P.underlying e = some (.struct fs))
  (hone : oneCellFields P fs = true) (hC : P.cellsOf e = fs.size) (h : DataW.trod enc P w base spare held fuel t cs = some x) :
  (cs = [.slice none 0 0]) ∨
  ∃ (a : Addr) (len cap m : Nat), cs = [.slice (some a) len cap] ∧ len ≤ cap ∧ cap ≤ maxLen ∧ len ≤ m ∧
   ∀ i, i < m → ∀ (j : Nat) (f : Field), fs[j]? = some f → ∃ (v : Value) (y : DataW H × List MemPlace) (n : Nat), w.cell? (a.add (i * fs.size + j)) = some v ∧ DataW.trod enc P w base spare held n f.type [v] = some y:=by
 rcases open_slice ht h with h0 | ⟨a, len, cap, m, n, D, Pl, hcs, hb, hl, hm, hmm, hx, hi⟩
 ·exact .inl h0.1
 ·refine .inr ⟨a, len, cap, m, hcs, hl, hm, by rw [hmm]; split <;> omega, fun i him j f hj => ?_⟩
  obtain ⟨cs', hc, ht'⟩:=hi i him
  rw [hC] at hc
  obtain ⟨ys, n', hn', hy, hlen, hyl, hf⟩:=DataW.trod_struct he ht'
  obtain ⟨_, hcl, hat⟩:=World.cells?_some hc
  obtain ⟨ho, hk⟩:=hone_of hone j f hj
  have hjl : j < fs.size:=(Array.getElem?_eq_some_iff.1 hj).1
  have hcell:=hat j hjl
  have hv : cs'[j]? = some (cs'[j]'(by omega)):=List.getElem?_eq_getElem (by omega)
  have h1:=hf j f hj
  rw [ho, hk] at h1
  have hone' : (cs'.drop j).take 1 = [cs'[j]'(by omega)]:=by
   rw [List.drop_eq_getElem_cons (by omega)]
   rfl
  rw [hone'] at h1
  have hys : ys[j]? = some (ys[j]'(by omega)):=List.getElem?_eq_getElem (by omega)
  refine ⟨_, _, n', ?_, h1.trans hys⟩
  rw [← Go.Deep.add_add, hcell, hv]
theorem open_agg_any {r : Reach} {b0 : Nat} {t : TypeId} {fs : Array Field} {v : Value} {d : DataW H} {p : List MemPlace} (hs : P.underlying t = some (.struct fs)) (hone : oneCellFields P fs = true) (hC : P.cellsOf t = fs.size)
  (hv : Value.okWide P w r b0 t v) (h : DataW.Trod enc P w base spare held t v d p) :
  ∃ cs : List Value, v = .agg ⟨cs⟩ ∧ cs.length = fs.size ∧ ∀ (j : Nat) (f : Field), fs[j]? = some f → ∃ (u : Value) (y : DataW H × List MemPlace) (n : Nat), cs[j]? = some u ∧ DataW.trod enc P w base spare held n f.type [u] = some y:=by
 obtain ⟨cs, rfl, hsz⟩:=okWide_struct hs hv
 obtain ⟨l⟩:=cs
 have hl : l.length = fs.size:=hsz.trans hC
 obtain ⟨fuel, hf⟩:=h
 obtain ⟨xs, n, _, hx, _, hlen, hg⟩:=DataW.trod_struct hs hf
 refine ⟨l, rfl, hl, fun j f hj => ?_⟩
 obtain ⟨ho, hk⟩:=hone_of hone j f hj
 have hjl : j < fs.size:=(Array.getElem?_eq_some_iff.1 hj).1
 have h1:=hg j f hj
 rw [ho, hk] at h1
 have hone' : ((Value.agg ⟨l⟩).cells.toList.drop j).take 1 = [l[j]'(by omega)]:=by
  show (l.drop j).take 1 = _
  rw [List.drop_eq_getElem_cons (by omega)]
  rfl
 rw [hone'] at h1
 have hxs : xs[j]? = some (xs[j]'(by omega)):=List.getElem?_eq_getElem (by omega)
 exact ⟨_, _, n, List.getElem?_eq_getElem (by omega), h1.trans hxs⟩
end
section
variable {H : Type} {enc : TypeId × Value → H} {w : World} {base : Nat} {spare : Nat → Bool} {held : Bool}
theorem u8_bd {n : Int} (h : (Lit.int .u8 n).wf = true) : 0 ≤ n ∧ n < 256:=by
 have:=Base.wf_u8_bounds h
 omega
theorem i64_bd {n : Int} (h : (Lit.int .i64 n).wf = true) : -9223372036854775808 ≤ n ∧ n ≤ 9223372036854775807:=Base.wf_i64_bounds h
theorem open_u8_at {cs : List Value} {fs : Array Field} {j : Nat} {f : Field} (h : ∀ (j : Nat) (f : Field), fs[j]? = some f → ∃ (u : Value) (y : DataW H × List MemPlace) (n : Nat), cs[j]? = some u ∧ DataW.trod enc Tryz.prog w base spare held n f.type [u] = some y) (hj : fs[j]? = some f) (ht : f.type = 5) : ∃ a : Int, cs[j]? = some (.int .u8 a) ∧ 0 ≤ a ∧ a < 256:=by
 obtain ⟨u, y, n, h1, h2⟩:=h j f hj
 rw [ht] at h2
 obtain ⟨k, e1, -, e3⟩:=DataW.trod_int Tryz.underlying5 h2
 cases e1
 exact ⟨k, h1, u8_bd e3⟩
theorem open_int_at {cs : List Value} {fs : Array Field} {j : Nat} {f : Field} (h : ∀ (j : Nat) (f : Field), fs[j]? = some f → ∃ (u : Value) (y : DataW H × List MemPlace) (n : Nat), cs[j]? = some u ∧ DataW.trod enc Tryz.prog w base spare held n f.type [u] = some y) (hj : fs[j]? = some f) (ht : f.type = 3) : ∃ a : Int, cs[j]? = some (.i a) ∧ -9223372036854775808 ≤ a ∧ a ≤ 9223372036854775807:=by
 obtain ⟨u, y, n, h1, h2⟩:=h j f hj
 rw [ht] at h2
 obtain ⟨k, e1, -, e3⟩:=DataW.trod_int Tryz.underlying3 h2
 cases e1
 exact ⟨k, h1, i64_bd e3⟩
theorem open_bool_at {cs : List Value} {fs : Array Field} {j : Nat} {f : Field} (h : ∀ (j : Nat) (f : Field), fs[j]? = some f → ∃ (u : Value) (y : DataW H × List MemPlace) (n : Nat), cs[j]? = some u ∧ DataW.trod enc Tryz.prog w base spare held n f.type [u] = some y) (hj : fs[j]? = some f) (ht : f.type = 4) : ∃ a : Bool, cs[j]? = some (.bool a):=by
 obtain ⟨u, y, n, h1, h2⟩:=h j f hj
 rw [ht] at h2
 obtain ⟨k, e1, -⟩:=DataW.trod_bool Tryz.underlying4 h2
 cases e1
 exact ⟨k, h1⟩
theorem list_of_get {α : Type} : ∀ {cs : List α} {xs : List α}, cs.length = xs.length → (∀ (j : Nat) x, xs[j]? = some x → cs[j]? = some x) → cs = xs:=fun {cs xs} hl h => List.ext_getElem? fun j => by
 cases hx : xs[j]? with
 | none => rw [List.getElem?_eq_none_iff] at hx ⊢; omega
 | some x => exact h j x hx
theorem open_given {r : Reach} {b0 : Nat} {v : Value} {d : DataW H} {p : List MemPlace} (hv : Value.okWide Tryz.prog w r b0 49 v) (h : DataW.Trod enc Tryz.prog w base spare held 49 v d p) :
  ∃ a b c d e : Int, v = .agg #[.int .u8 a, .int .u8 b, .int .u8 c, .int .u8 d, .int .u8 e] ∧ (0 ≤ a ∧ a < 256) ∧ (0 ≤ b ∧ b < 256) ∧ (0 ≤ c ∧ c < 256) ∧ (0 ≤ d ∧ d < 256) ∧ (0 ≤ e ∧ e < 256):=by
 obtain ⟨cs, rfl, hl, hf⟩:=open_agg_any Tryz.underlying49 (by kernel_rfl) (by kernel_rfl) hv h
 obtain ⟨a, ha, wa⟩:=open_u8_at (j:=0) hf rfl rfl
 obtain ⟨b, hb, wb⟩:=open_u8_at (j:=1) hf rfl rfl
 obtain ⟨c, hc, wc⟩:=open_u8_at (j:=2) hf rfl rfl
 obtain ⟨d, hd, wd⟩:=open_u8_at (j:=3) hf rfl rfl
 obtain ⟨e, he, we⟩:=open_u8_at (j:=4) hf rfl rfl
 refine ⟨a, b, c, d, e, ?_, wa, wb, wc, wd, we⟩
 have hl : cs.length = 5:=hl
 match cs, hl with
 | [c0, c1, c2, c3, c4], _ =>
  simp at ha hb hc hd he
  subst ha hb hc hd he
  rfl
theorem open_ask {r : Reach} {b0 : Nat} {v : Value} {d : DataW H} {p : List MemPlace} (hv : Value.okWide Tryz.prog w r b0 25 v) (h : DataW.Trod enc Tryz.prog w base spare held 25 v d p) :
  ∃ a : Ask, v = a.val:=by
 obtain ⟨cs, rfl, hl, hf⟩:=open_agg_any Tryz.underlying25 (by kernel_rfl) (by kernel_rfl) hv h
 obtain ⟨a, ha, wa⟩:=open_int_at (j:=0) hf rfl rfl
 obtain ⟨b, hb, wb⟩:=open_int_at (j:=1) hf rfl rfl
 obtain ⟨c, hc⟩:=open_bool_at (j:=2) hf rfl rfl
 obtain ⟨d, hd⟩:=open_bool_at (j:=3) hf rfl rfl
 obtain ⟨e, he, we⟩:=open_int_at (j:=4) hf rfl rfl
 obtain ⟨f, hf', wf⟩:=open_int_at (j:=5) hf rfl rfl
 obtain ⟨g, hg, wg⟩:=open_int_at (j:=6) hf rfl rfl
 refine ⟨⟨a, b, c, d, e, f, g⟩, ?_⟩
 have hl : cs.length = 7:=hl
 match cs, hl with
 | [c0, c1, c2, c3, c4, c5, c6], _ =>
  simp at ha hb hc hd he hf' hg
  subst ha hb hc hd he hf' hg
  rfl
theorem open_conf {r : Reach} {b0 : Nat} {v : Value} {d : DataW H} {p : List MemPlace} (hv : Value.okWide Tryz.prog w r b0 23 v) (h : DataW.Trod enc Tryz.prog w base spare held 23 v d p) :
  ∃ c : Conf.Cf, v = c.val:=by
 obtain ⟨cs, rfl, hl, hf⟩:=open_agg_any Tryz.underlying23 (by kernel_rfl) (by kernel_rfl) hv h
 obtain ⟨a, ha, wa⟩:=open_int_at (j:=0) hf rfl rfl
 obtain ⟨b, hb, wb⟩:=open_int_at (j:=1) hf rfl rfl
 obtain ⟨c, hc, wc⟩:=open_int_at (j:=2) hf rfl rfl
 obtain ⟨d, hd, wd⟩:=open_int_at (j:=3) hf rfl rfl
 obtain ⟨e, he, we⟩:=open_int_at (j:=4) hf rfl rfl
 refine ⟨⟨a, b, c, d, e⟩, ?_⟩
 have hl : cs.length = 5:=hl
 match cs, hl with
 | [c0, c1, c2, c3, c4], _ =>
  simp at ha hb hc hd he
  subst ha hb hc hd he
  rfl
def numIn : Option Value → Int
 | some (.int _ n) => n
 | _ => 0
def turnIn (w : World) (a : Addr) (i : Nat) : Tn:=⟨numIn (w.cell? (a.add (i * 6 + 0))), numIn (w.cell? (a.add (i * 6 + 1))), numIn (w.cell? (a.add (i * 6 + 2))), numIn (w.cell? (a.add (i * 6 + 3))), numIn (w.cell? (a.add (i * 6 + 4))), numIn (w.cell? (a.add (i * 6 + 5)))⟩
theorem open_turns {v : Value} {d : DataW H} {p : List MemPlace} {a : Option Addr} {n c : Nat} (hv : v = .slice a n c) (h : DataW.Trod enc Tryz.prog w base spare held 50 v d p) : ∃ l, TurnsAt w v l ∧ l.length = n:=by
 subst hv
 obtain ⟨fuel, hf⟩:=h
 rcases open_slice_fields Tryz.underlying50 Tryz.underlying57 (by kernel_rfl) (by kernel_rfl) hf with hcs | ⟨x, len, cap, m, hcs, hl, hm, hmm, hi⟩
 ·simp [Value.cells] at hcs
  obtain ⟨rfl, rfl, rfl⟩:=hcs
  exact ⟨[], ⟨none, 0, rfl, fun _ h => (by cases h), .inl rfl⟩, rfl⟩
 ·simp [Value.cells] at hcs
  obtain ⟨rfl, rfl, rfl⟩:=hcs
  have fin : ∀ (i j : Nat) (u : Value) (y : DataW H × List MemPlace) (q : Nat), w.cell? (x.add (i * 6 + j)) = some u → DataW.trod enc Tryz.prog w base spare held q 5 [u] = some y → ∃ k : Int, w.cell? (x.add (i * 6 + j)) = some (.int .u8 k) ∧ 0 ≤ k ∧ k < 256:=fun i j u y q h1 h2 => by
   obtain ⟨k, e1, -, e3⟩:=DataW.trod_int Tryz.underlying5 h2
   cases e1
   exact ⟨k, h1, u8_bd e3⟩
  have key : ∀ i, i < n → ∀ j, j < 6 → ∃ k : Int, w.cell? (x.add (i * 6 + j)) = some (.int .u8 k) ∧ 0 ≤ k ∧ k < 256:=fun i hin j hj => by
   rcases (by omega : j = 0 ∨ j = 1 ∨ j = 2 ∨ j = 3 ∨ j = 4 ∨ j = 5) with rfl | rfl | rfl | rfl | rfl | rfl
   ·obtain ⟨u, y, q, h1, h2⟩:=hi i (by omega) 0 _ rfl
    exact fin i 0 u y q h1 h2
   ·obtain ⟨u, y, q, h1, h2⟩:=hi i (by omega) 1 _ rfl
    exact fin i 1 u y q h1 h2
   ·obtain ⟨u, y, q, h1, h2⟩:=hi i (by omega) 2 _ rfl
    exact fin i 2 u y q h1 h2
   ·obtain ⟨u, y, q, h1, h2⟩:=hi i (by omega) 3 _ rfl
    exact fin i 3 u y q h1 h2
   ·obtain ⟨u, y, q, h1, h2⟩:=hi i (by omega) 4 _ rfl
    exact fin i 4 u y q h1 h2
   ·obtain ⟨u, y, q, h1, h2⟩:=hi i (by omega) 5 _ rfl
    exact fin i 5 u y q h1 h2
  have key2 : ∀ i, i < n → ∀ j, j < 6 → w.cell? (x.add (i * 6 + j)) = some (.int .u8 (numIn (w.cell? (x.add (i * 6 + j))))) ∧ 0 ≤ numIn (w.cell? (x.add (i * 6 + j))) ∧ numIn (w.cell? (x.add (i * 6 + j))) < 256:=fun i hin j hj => by
   obtain ⟨k, h1, h2⟩:=key i hin j hj
   rw [h1]
   exact ⟨rfl, h2⟩
  by_cases hn : n = 0
  ·subst hn
   exact ⟨[], ⟨some x, c, rfl, fun _ h => (by cases h), .inl rfl⟩, rfl⟩
  obtain ⟨k0, hk0, -⟩:=key 0 (by omega) 0 (by omega)
  obtain ⟨g, off, rfl, -⟩:=Go.ints_at (zs:=[k0]) (k:=.u8) (fun i hi => by
   obtain rfl : i = 0:=by simpa using hi
   simpa using hk0) (by simp)
  clear hk0
  have hlen : ((List.range n).map (turnIn w ⟨g, off, none⟩)).length = n:=by simp
  have hget : ∀ (i : Nat) (t : Tn), ((List.range n).map (turnIn w ⟨g, off, none⟩))[i]? = some t → i < n ∧ t = turnIn w ⟨g, off, none⟩ i:=fun i t ht => by
   have hin : i < n:=by have:=(List.getElem?_eq_some_iff.1 ht).1; rw [hlen] at this; exact this
   rw [List.getElem?_map, List.getElem?_range hin] at ht
   simp at ht
   exact ⟨hin, ht.symm⟩
  refine ⟨(List.range n).map (turnIn w ⟨g, off, none⟩), ⟨some ⟨g, off, none⟩, c, by rw [hlen], fun t ht => ?_, .inr ⟨g, off, rfl, fun i t ht j u hu => ?_⟩⟩, hlen⟩
  ·obtain ⟨i, hi'⟩:=List.getElem?_of_mem ht
   obtain ⟨hin, rfl⟩:=hget i t hi'
   exact ⟨(key2 i hin 0 (by omega)).2, (key2 i hin 1 (by omega)).2, (key2 i hin 2 (by omega)).2, (key2 i hin 3 (by omega)).2, (key2 i hin 4 (by omega)).2, (key2 i hin 5 (by omega)).2⟩
  ·obtain ⟨hin, rfl⟩:=hget i t ht
   have hj : j < 6:=by have:=(Array.getElem?_eq_some_iff.1 hu).1; simpa [Tn.cells] using this
   have hk:=(key2 i hin j hj).1
   have he : (⟨g, off, none⟩ : Addr).add (i * 6 + j) = ⟨g, off + i * 6 + j, none⟩:=by simp [Addr.add, Nat.add_assoc]
   rw [← he, hk]
   rcases (by omega : j = 0 ∨ j = 1 ∨ j = 2 ∨ j = 3 ∨ j = 4 ∨ j = 5) with rfl | rfl | rfl | rfl | rfl | rfl <;> exact hu
end
end Go.Proofs.YtpmkgddjgebojaaGreatDoor.Mod
