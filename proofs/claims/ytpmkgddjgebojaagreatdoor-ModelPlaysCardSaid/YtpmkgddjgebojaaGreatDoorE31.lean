/- Part 31 of the walks and plain laws that the last text joins. -/
import Derived.Test.YtpmkgddjgebojaaGreatDoorE29
import Derived.Test.YtpmkgddjgebojaaGreatDoorE30
set_option maxRecDepth 100000
set_option maxHeartbeats 16000000
set_option linter.unusedVariables false
set_option linter.unusedSimpArgs false
namespace Go.Proofs.YtpmkgddjgebojaaGreatDoor.Mod
open Go.RowKit Hp Slot RowL Life
theorem Re.kb {B : Nat} {W0 w : World} {p p' : Pl} {m' : M} (r : Re B W0 p w p' m') : p'.kb = p.kb:=by obtain ⟨_, _, h⟩:=r.same; rw [h]
theorem Re.resting {B : Nat} {W0 w : World} {p p' : Pl} {m' : M} {n : Nat} (r : Re B W0 p w p' m') (hc : Chg (fun k => k = p.kb) w (w.drew.setCells p.kb (n * 9) Wk.zero.cells.toList)) (hn : n < m'.ks.length) :
  Re B W0 p (w.drew.setCells p.kb (n * 9) Wk.zero.cells.toList) p' (m'.rest n):=by
 have hk:=r.kb
 have hW:=(WorksAt.stable (W':=w.drew) r.at'.works rfl).setL hn Wk.zero
 rw [hk] at hW
 have hA:=r.at'.toWorks (by rw [hk]; exact hc) (by rw [hk]; exact hW) (by simp) (by
  intro k hk h2
  rcases List.mem_or_eq_of_mem_set hk with hk | rfl
  ·exact r.at'.ok.grants k hk h2
  ·cases h2)
 have he : m'.rest n = { m' with ks:=m'.ks.set n Wk.zero }:=by unfold M.rest; simp
 rw [he]
 exact r.works hA (by rw [hk]; exact hc)
theorem dial_ks (m : M) (i : Nat) (who : Int) : (m.dial i who).2.ks = m.ks:=by unfold M.dial; split <;> rfl
theorem take_ks (m : M) (i : Nat) (who : Int) : (m.take who i).2.ks = m.ks:=by
 unfold M.take
 have h : ∀ (r : Ev × M), r.2.ks = m.ks → (if r.1.e = 0 ∧ m.closed ≠ 0 then (M.failed 5, r.2.empty i) else r).2.ks = m.ks:=fun r hr => by split <;> exact hr
 refine h _ ?_
 split
 ·exact dial_ks _ _ _
 ·rfl
theorem m_wake_no {W : World} {p : Pl} {m : M} (h : MAt W p m) (who : Int) (hw : m.has who = false) : Calls Tryz.prog 16 #[.pointer (some ⟨p.mb, 0, none⟩), .i who] W (MPost W p (.tuple #[(m.wake who).1.1.val, .bool (m.wake who).1.2]) (m.wake who).2):=by
 have HR : RowKit.Hid (m.wake who = ((Ev.zero, false), m)):=Lib.hid (by unfold M.wake; simp [hw])
 generalize m.wake who = R at *
 have hB : Below W.heap.size W ((W.alloc (.cells #[.i who] 3)).alloc (.cells Zv 36)):=((Below.refl _ _).alloc (Nat.le_refl _) _).alloc (by simp) _
 have hsz0 : ((W.alloc (.cells #[.i who] 3)).alloc (.cells Zv 36)).heap.size = W.heap.size + 1 + 1:=by simp
 have a0 : RowAt ((W.alloc (.cells #[.i who] 3)).alloc (.cells Zv 36)) W.heap.size #[.i who] 3:=heap_alloc2_old W _ _
 have e0 : RowAt ((W.alloc (.cells #[.i who] 3)).alloc (.cells Zv 36)) (W.heap.size + 1) Zv 36:=by have:=RowAt.new (W.alloc (.cells #[.i who] 3)) Zv 36; simpa using this
 have h0:=h.below hB
 have hhas:=m_has h0 who
 have bc : ((W.alloc (.cells #[.i who] 3)).alloc (.cells Zv 36)).cell? ⟨W.heap.size, 0, none⟩ = some (.i who):=a0.cell 0
 clear hsz0
 have r0 : Re W.heap.size ((W.alloc (.cells #[.i who] 3)).alloc (.cells Zv 36)) p ((W.alloc (.cells #[.i who] 3)).alloc (.cells Zv 36)) p m:=Re.begin h hB
 have er : ERow ((W.alloc (.cells #[.i who] 3)).alloc (.cells Zv 36)) (W.heap.size + 1):=⟨_, rfl, e0⟩
 rw [hw] at hhas
 go_enter Tryz.func16, Tryz.ntmps16
 go_wp2_with fail
 refine hhas.mono ?_
 rintro e w' ⟨rfl, rfl⟩
 clear hhas a0 e0 h0 bc
 go_upto_region 2 with (fail)
 obtain ⟨Z, z1, z2⟩:=er
 refine wp_region_lit ?_
 refine RowL.gl Ev.zero.val ?_ (by go_simp; try rfl)
 refine RowL.gSt z2 Ev.zero.cells 36 (.tmp 4) (.tmp 11) ?_ (hsz:=z1) (h1:=ev_one _)
 go_wp2_with fail
 refine bR2 (W.heap.size + 1) (z2.set _) Tryz.underlying36 ?_
 rw [HR.out]
 exact (r0.row (by omega) (by first | omega | (simp)) _).fin hB _
theorem m_wake_told {W : World} {p : Pl} {m : M} (h : MAt W p m) (n : Nat) (op dl : Int) (wt fo : Bool) (sl ge st ks0 : Int) (hw : m.has n = true) (hk : m.ks[n]? = some ⟨3, ⟨op, dl, wt, fo, sl, ge, st⟩, ks0⟩) : Calls Tryz.prog 16 #[.pointer (some ⟨p.mb, 0, none⟩), .i n] W (MPost W p (.tuple #[(m.wake n).1.1.val, .bool (m.wake n).1.2]) (m.wake n).2):=by
 have HR : RowKit.Hid (m.wake n = ((M.answered (M.failed 5) n ⟨op, dl, wt, fo, sl, ge, st⟩, true), (m.rest n).tidy)):=Lib.hid (by unfold M.wake; simp [hw, M.worker, hk])
 generalize m.wake n = R at *
 have hnl : n < m.ks.length:=by simp [M.has] at hw; omega
 have HK:=Lib.hid hk
 have hkm : p.mb ≠ p.kb:=h.ne.2.2.1
 have hkbW : p.kb < W.heap.size:=h.lt (.inr (.inr (.inl rfl)))
 have hmbW : p.mb < W.heap.size:=h.lt (.inl rfl)
 have hB : Below W.heap.size W ((W.alloc (.cells #[.i n] 3)).alloc (.cells Zv 36)):=((Below.refl _ _).alloc (Nat.le_refl _) _).alloc (by simp) _
 have hsz0 : ((W.alloc (.cells #[.i n] 3)).alloc (.cells Zv 36)).heap.size = W.heap.size + 1 + 1:=by simp
 have a0 : RowAt ((W.alloc (.cells #[.i n] 3)).alloc (.cells Zv 36)) W.heap.size #[.i n] 3:=heap_alloc2_old W _ _
 have e0 : RowAt ((W.alloc (.cells #[.i n] 3)).alloc (.cells Zv 36)) (W.heap.size + 1) Zv 36:=by have:=RowAt.new (W.alloc (.cells #[.i n] 3)) Zv 36; simpa using this
 have h0:=h.below hB
 have hhas:=m_has h0 n
 have bc : ((W.alloc (.cells #[.i n] 3)).alloc (.cells Zv 36)).cell? ⟨W.heap.size, 0, none⟩ = some (.i n):=a0.cell 0
 rw [hw] at hhas
 have c6:=h0.hd.c6
 have cK:=h0.works.get hk
 have hnk:=h0.ok.nk
 simp only at cK
 have b0 : (0 : Int) ≤ (n : Int):=by omega
 have b1 : (n : Int) < (m.ks.length : Int):=by omega
 have b2 : (n : Int) ≤ (m.ks.length : Int) - 1:=by omega
 clear hk
 go_enter Tryz.func16, Tryz.ntmps16
 go_wp2_with fail
 refine hhas.mono ?_
 rintro e w' ⟨rfl, rfl⟩
 clear hhas
 generalize hwz : ((W.alloc (.cells #[.i n] 3)).alloc (.cells Zv 36)) = w1 at *
 clear hwz
 obtain ⟨d0, d1, d2, d3, d4, d5, d6, d7, d8⟩:=cK
 have HSZ:=Lib.hid hsz0
 clear hsz0 hw
 have L6 : ∀ w', Below w1.heap.size w1 w' → w'.cell? ⟨p.mb, 6, none⟩ = some (.slice (some ⟨p.kb, 0, none⟩) m.ks.length m.ks.length):=fun w' h => Field.bkeep h c6
 have LB : ∀ w', Below w1.heap.size w1 w' → w'.cell? ⟨W.heap.size, 0, none⟩ = some (.i n):=fun w' h => Field.bkeep h bc
 have Ls0 : ∀ w', Below w1.heap.size w1 w' → w'.cell? ⟨p.kb, n * 9, none⟩ = some (.i 3):=fun w' h => Field.bkeep h d0
 have Ls1 : ∀ w', Below w1.heap.size w1 w' → w'.cell? ⟨p.kb, n * 9 + 1, none⟩ = some (.i op):=fun w' h => Field.bkeep h d1
 have Ls2 : ∀ w', Below w1.heap.size w1 w' → w'.cell? ⟨p.kb, n * 9 + 2, none⟩ = some (.i dl):=fun w' h => Field.bkeep h d2
 have Ls3 : ∀ w', Below w1.heap.size w1 w' → w'.cell? ⟨p.kb, n * 9 + 3, none⟩ = some (.bool wt):=fun w' h => Field.bkeep h d3
 have Ls4 : ∀ w', Below w1.heap.size w1 w' → w'.cell? ⟨p.kb, n * 9 + 4, none⟩ = some (.bool fo):=fun w' h => Field.bkeep h d4
 have Ls5 : ∀ w', Below w1.heap.size w1 w' → w'.cell? ⟨p.kb, n * 9 + 5, none⟩ = some (.i sl):=fun w' h => Field.bkeep h d5
 have Ls6 : ∀ w', Below w1.heap.size w1 w' → w'.cell? ⟨p.kb, n * 9 + 6, none⟩ = some (.i ge):=fun w' h => Field.bkeep h d6
 have Ls7 : ∀ w', Below w1.heap.size w1 w' → w'.cell? ⟨p.kb, n * 9 + 7, none⟩ = some (.i st):=fun w' h => Field.bkeep h d7
 have Ls8 : ∀ w', Below w1.heap.size w1 w' → w'.cell? ⟨p.kb, n * 9 + 8, none⟩ = some (.i ks0):=fun w' h => Field.bkeep h d8
 have hKd : Below w1.heap.size w1 w1.drew:=(Below.refl _ _).drew
 clear d0 d1 d2 d3 d4 d5 d6 d7 d8 bc c6
 go_wp2_with fail
 go_region_held3 (fun w' => Below w1.heap.size w1 w') (first | assumption | exact ((Below.refl _ _).alloc (Nat.le_refl _) _) | exact ((Below.refl _ _).alloc (Nat.le_refl _) _).drew | exact ((Below.refl _ _).drew.alloc (Nat.le_refl _) _)) (fail)
 clear L6 LB Ls0 Ls1 Ls2 Ls3 Ls4 Ls5 Ls6 Ls7 Ls8 b0 b1 b2 hKd
 have hb2 : Below w1.heap.size w1 ((w1.alloc (.cells (Ac 3 op dl wt fo sl ge st ks0) 94)).drew):=((Below.refl _ _).alloc (Nat.le_refl _) _).drew
 have hB2:=hB.trans (hb2.mono hB.size)
 have r2:=Re.begin h hB2
 have a2:=a0.below hb2
 have e2:=e0.below hb2
 have q2 : RowAt ((w1.alloc (.cells (Ac 3 op dl wt fo sl ge st ks0) 94)).drew) (W.heap.size + 1 + 1) (Ac 3 op dl wt fo sl ge st ks0) 94:=by have:=RowAt.new w1 (Ac 3 op dl wt fo sl ge st ks0) 94; rw [HSZ.out] at this; exact this
 have hs2 : (W.heap.size + 1 + 1) < ((w1.alloc (.cells (Ac 3 op dl wt fo sl ge st ks0) 94)).drew).heap.size:=by have : ((w1.alloc (.cells (Ac 3 op dl wt fo sl ge st ks0) 94)).drew).heap.size = w1.heap.size + 1:=(by simp); have:=HSZ.out; omega
 try simp only [HSZ.out]
 clear hb2 a0 e0 hB h0
 generalize hwz : (w1.alloc (.cells (Ac 3 op dl wt fo sl ge st ks0) 94)).drew = w2 at *
 clear hwz
 have kc0 : w2.cell? ⟨W.heap.size + 1 + 1, 0, none⟩ = some (.i 3):=(q2).cell 0
 have kc1 : w2.cell? ⟨W.heap.size + 1 + 1, 1, none⟩ = some (.i op):=(q2).cell 1
 have kc2 : w2.cell? ⟨W.heap.size + 1 + 1, 2, none⟩ = some (.i dl):=(q2).cell 2
 have kc3 : w2.cell? ⟨W.heap.size + 1 + 1, 3, none⟩ = some (.bool wt):=(q2).cell 3
 have kc4 : w2.cell? ⟨W.heap.size + 1 + 1, 4, none⟩ = some (.bool fo):=(q2).cell 4
 have kc5 : w2.cell? ⟨W.heap.size + 1 + 1, 5, none⟩ = some (.i sl):=(q2).cell 5
 have kc6 : w2.cell? ⟨W.heap.size + 1 + 1, 6, none⟩ = some (.i ge):=(q2).cell 6
 have kc7 : w2.cell? ⟨W.heap.size + 1 + 1, 7, none⟩ = some (.i st):=(q2).cell 7
 have kc8 : w2.cell? ⟨W.heap.size + 1 + 1, 8, none⟩ = some (.i ks0):=(q2).cell 8
 have bc2 : w2.cell? ⟨W.heap.size, 0, none⟩ = some (.i n):=a2.cell 0
 have er2 : ERow w2 (W.heap.size + 1):=⟨_, rfl, e2⟩
 have hfl:=failed_any w2 5
 have hf : M.failed 5 = { Ev.zero with e:=5 }:=rfl
 rw [← hf] at hfl
 generalize M.failed 5 = x at *
 clear hf
 go_wp2_with fail
 refine hfl.mono ?_
 rintro e w3 ⟨rfl, hb3⟩
 have r3:=r2.below hb3
 have er3:=er2.below hb3
 have a3:=a2.below hb3
 have q3:=q2.below hb3
 have hst:=er3.store x
 have hsz:=ev_size x
 have r4:=r3.row (by omega) (by omega) x.cells (g:=(W.heap.size + 1))
 have row4:=er3.set x
 have hcs : Chg (fun k => k = (W.heap.size + 1)) w3 (w3.setRow (W.heap.size + 1) x.cells):=chg_setRow (Chg.refl _ _) _ _ (fun _ => rfl)
 have a4:=a3.chg hcs (by omega)
 have q4:=q3.chg hcs (by omega)
 clear hfl hb3 r2 er2 a2 q2 e2 r3 er3 a3 q3 hcs kc0 kc1 kc2 kc3 kc4 kc5 kc6 kc7 kc8 bc2
 go_upto_region 12 with (fail)
 generalize hwz : w3.setRow (W.heap.size + 1) x.cells = w4 at *
 clear hwz hst hsz
 have A6:=r4.at'
 have c6:=A6.hd.c6
 rw [r4.mb, r4.kb] at c6
 have hlm6 : p.mb < w4.heap.size:=by have:=A6.lt (.inl rfl); rwa [r4.mb] at this
 have L6 : ∀ w', Chg (fun k => k = p.kb) w4 w' → w'.cell? ⟨p.mb, 6, none⟩ = some (.slice (some ⟨p.kb, 0, none⟩) m.ks.length m.ks.length):=fun w' h => (h.cell (p:=⟨p.mb, 6, none⟩) hlm6 hkm).trans c6
 have LB : ∀ w', Chg (fun k => k = p.kb) w4 w' → w'.cell? ⟨W.heap.size, 0, none⟩ = some (.i n):=fun w' h => ((a4).chg h (by omega)).cell 0
 have hKd : Chg (fun k => k = p.kb) w4 w4.drew:=(Chg.refl _ _).drew
 have hth : w4.drew.there p.kb (n * 9) 9:=by
  have:=WorksAt.there A6.works (i:=n) (hnl)
  rw [r4.kb] at this
  simpa using this
 have hset : Chg (fun k => k = p.kb) w4 (w4.drew.setCells p.kb (n * 9) Wk.zero.cells.toList):=hKd.trans (chg_setCells _ _ _ _) (fun _ _ h => h)
 have r7:=r4.resting hset (hnl)
 have row7:=(row4).chg hset (by omega)
 have k7:=(q4).chg hset (by omega)
 have b7:=(a4).chg hset (by omega)
 have R7:=Lib.hid r7
 clear c6 A6 r7
 go_upto_region 12 with (fail)
 refine wp_region_held_drew (S:=fun w' => Chg (fun k => k = p.kb) w4 w') (by kernel_rfl) (by exact hKd) (fun hHeld => ?_)
 refine tKw (gd:=none) 0 58 (.move (.tmp 0)) ((.pointer (some ⟨p.mb, 0, none⟩))) (run_move_of (.tmp 0) (.pointer (some ⟨p.mb, 0, none⟩)) (by kernel_rfl)) hHeld ?_
 try simp only [Act.put, sA, sZ, sS]
 refine tKg 1 59 hHeld ?_
 try simp only [Act.put, sA, sZ, sS]
 refine tKg 2 60 hHeld ?_
 try simp only [Act.put, sA, sZ, sS]
 refine tKg 3 61 hHeld ?_
 try simp only [Act.put, sA, sZ, sS]
 refine tKg 4 62 hHeld ?_
 try simp only [Act.put, sA, sZ, sS]
 refine tKg 5 63 hHeld ?_
 try simp only [Act.put, sA, sZ, sS]
 refine tKg 6 64 hHeld ?_
 try simp only [Act.put, sA, sZ, sS]
 refine ready1 (i:=7) (by kernel_rfl) (step_store_mid 94 (.tmp 64) (.tmp 63) (by kernel_rfl) p.kb (n * 9) Wk.zero.cells (by kernel_rfl) (by kernel_rfl) hth (by kernel_rfl) (by kernel_rfl) hset (fun _ => ?_))
 refine wpAnyH_done (by kernel_rfl) ?_ _
 generalize hwz : w4.drew.setCells p.kb (n * 9) Wk.zero.cells.toList = w7 at *
 clear hwz hset hth hKd L6 LB hHeld
 have hty:=m_tidy R7.out.at'
 rw [R7.out.mb] at hty
 go_wp2_with fail
 refine hty.mono ?_
 rintro e w8 ⟨v8, hp8⟩
 obtain ⟨rfl, p8, r8, hc8⟩:=R7.out.post hp8
 have row8:=RowAt.kept row7 R7.out (by omega) (by omega) hc8
 have b8:=RowAt.kept b7 R7.out (Nat.le_refl _) (by omega) hc8
 have k8:=RowAt.kept k7 R7.out (by omega) hs2 hc8
 have han:=answered_any w8 (x) n ⟨op, dl, wt, fo, sl, ge, st⟩
 clear hty hp8 hc8 R7 row7 b7 k7
 have hyy : ∃ y, y = M.answered (x) n ⟨op, dl, wt, fo, sl, ge, st⟩:=⟨_, rfl⟩
 obtain ⟨y, hy⟩:=hyy
 rw [← hy] at han
 have HY:=Lib.hid hy
 clear hy
 have bcell8 : w8.cell? ⟨W.heap.size, 0, none⟩ = some (.i n):=b8.cell 0
 have kc0 : w8.cell? ⟨W.heap.size + 1 + 1, 0, none⟩ = some (.i 3):=(k8).cell 0
 have kc1 : w8.cell? ⟨W.heap.size + 1 + 1, 1, none⟩ = some (.i op):=(k8).cell 1
 have kc2 : w8.cell? ⟨W.heap.size + 1 + 1, 2, none⟩ = some (.i dl):=(k8).cell 2
 have kc3 : w8.cell? ⟨W.heap.size + 1 + 1, 3, none⟩ = some (.bool wt):=(k8).cell 3
 have kc4 : w8.cell? ⟨W.heap.size + 1 + 1, 4, none⟩ = some (.bool fo):=(k8).cell 4
 have kc5 : w8.cell? ⟨W.heap.size + 1 + 1, 5, none⟩ = some (.i sl):=(k8).cell 5
 have kc6 : w8.cell? ⟨W.heap.size + 1 + 1, 6, none⟩ = some (.i ge):=(k8).cell 6
 have kc7 : w8.cell? ⟨W.heap.size + 1 + 1, 7, none⟩ = some (.i st):=(k8).cell 7
 have kc8 : w8.cell? ⟨W.heap.size + 1 + 1, 8, none⟩ = some (.i ks0):=(k8).cell 8
 go_upto_region 14 with (fail)
 refine wp_region_lit ?_
 refine RowL.wpList_load_row rfl 36 (.tmp 4) rfl (W.heap.size + 1) _ (x).cells _ rfl row8 Tryz.underlying36 rfl (by kernel_rfl) ?_
 go_wp2_with fail
 refine han.mono ?_
 rintro e w9 ⟨rfl, hb9⟩
 have r9:=r8.below hb9
 have row9:=row8.below hb9
 have hst:=(show ERow w9 (W.heap.size + 1) from ⟨_, rfl, row9⟩).store y
 have hsz:=ev_size y
 have row10:=(show ERow w9 (W.heap.size + 1) from ⟨_, rfl, row9⟩).set y
 clear han hb9 r8 row8 b8 k8 row9 bcell8 kc0 kc1 kc2 kc3 kc4 kc5 kc6 kc7 kc8
 go_wp2_with fail
 refine bR2 (W.heap.size + 1) row10 Tryz.underlying36 ?_
 rw [HR.out, HY.out]
 exact (r9.row (by omega) (by omega) _).fin hB2 _
theorem m_wake_granted {W : World} {p : Pl} {m : M} (h : MAt W p m) (n i : Nat) (op dl : Int) (wt fo : Bool) (sl ge st : Int) (hw : m.has n = true) (hk : m.ks[n]? = some ⟨2, ⟨op, dl, wt, fo, sl, ge, st⟩, i⟩) : Calls Tryz.prog 16 #[.pointer (some ⟨p.mb, 0, none⟩), .i n] W (MPost W p (.tuple #[(m.wake n).1.1.val, .bool (m.wake n).1.2]) (m.wake n).2):=by
 have HR0 : RowKit.Hid (m.wake n = ((M.answered (m.take n i).1 n ⟨op, dl, wt, fo, sl, ge, st⟩, true), ((m.take n i).2.rest n).tidy)):=Lib.hid (by unfold M.wake; simp [hw, M.worker, hk])
 have hgr:=h.ok.grants _ (List.mem_of_getElem? hk) rfl
 obtain ⟨s, hs⟩ : ∃ s, m.ss[i]? = some s:=⟨_, List.getElem?_eq_getElem (by simp only at hgr; omega)⟩
 have hks:=take_ks m i n
 have htk0:=fun (w : World) (h : MAt w p m) => m_take h i n s hs
 generalize m.wake n = R at *
 generalize m.take n i = D at *
 obtain ⟨x, m2⟩:=D
 simp only at htk0 hks
 have HR:=Lib.hid HR0.out
 have HKS:=Lib.hid hks
 simp only at HR
 clear hgr hs hks HR0
 have hnl : n < m.ks.length:=by simp [M.has] at hw; omega
 have HK:=Lib.hid hk
 have hkm : p.mb ≠ p.kb:=h.ne.2.2.1
 have hkbW : p.kb < W.heap.size:=h.lt (.inr (.inr (.inl rfl)))
 have hmbW : p.mb < W.heap.size:=h.lt (.inl rfl)
 have hB : Below W.heap.size W ((W.alloc (.cells #[.i n] 3)).alloc (.cells Zv 36)):=((Below.refl _ _).alloc (Nat.le_refl _) _).alloc (by simp) _
 have hsz0 : ((W.alloc (.cells #[.i n] 3)).alloc (.cells Zv 36)).heap.size = W.heap.size + 1 + 1:=by simp
 have a0 : RowAt ((W.alloc (.cells #[.i n] 3)).alloc (.cells Zv 36)) W.heap.size #[.i n] 3:=heap_alloc2_old W _ _
 have e0 : RowAt ((W.alloc (.cells #[.i n] 3)).alloc (.cells Zv 36)) (W.heap.size + 1) Zv 36:=by have:=RowAt.new (W.alloc (.cells #[.i n] 3)) Zv 36; simpa using this
 have h0:=h.below hB
 have hhas:=m_has h0 n
 have bc : ((W.alloc (.cells #[.i n] 3)).alloc (.cells Zv 36)).cell? ⟨W.heap.size, 0, none⟩ = some (.i n):=a0.cell 0
 rw [hw] at hhas
 have c6:=h0.hd.c6
 have cK:=h0.works.get hk
 have hnk:=h0.ok.nk
 simp only at cK
 have b0 : (0 : Int) ≤ (n : Int):=by omega
 have b1 : (n : Int) < (m.ks.length : Int):=by omega
 have b2 : (n : Int) ≤ (m.ks.length : Int) - 1:=by omega
 clear hk
 go_enter Tryz.func16, Tryz.ntmps16
 go_wp2_with fail
 refine hhas.mono ?_
 rintro e w' ⟨rfl, rfl⟩
 clear hhas
 generalize hwz : ((W.alloc (.cells #[.i n] 3)).alloc (.cells Zv 36)) = w1 at *
 clear hwz
 obtain ⟨d0, d1, d2, d3, d4, d5, d6, d7, d8⟩:=cK
 have HSZ:=Lib.hid hsz0
 clear hsz0 hw
 have L6 : ∀ w', Below w1.heap.size w1 w' → w'.cell? ⟨p.mb, 6, none⟩ = some (.slice (some ⟨p.kb, 0, none⟩) m.ks.length m.ks.length):=fun w' h => Field.bkeep h c6
 have LB : ∀ w', Below w1.heap.size w1 w' → w'.cell? ⟨W.heap.size, 0, none⟩ = some (.i n):=fun w' h => Field.bkeep h bc
 have Ls0 : ∀ w', Below w1.heap.size w1 w' → w'.cell? ⟨p.kb, n * 9, none⟩ = some (.i 2):=fun w' h => Field.bkeep h d0
 have Ls1 : ∀ w', Below w1.heap.size w1 w' → w'.cell? ⟨p.kb, n * 9 + 1, none⟩ = some (.i op):=fun w' h => Field.bkeep h d1
 have Ls2 : ∀ w', Below w1.heap.size w1 w' → w'.cell? ⟨p.kb, n * 9 + 2, none⟩ = some (.i dl):=fun w' h => Field.bkeep h d2
 have Ls3 : ∀ w', Below w1.heap.size w1 w' → w'.cell? ⟨p.kb, n * 9 + 3, none⟩ = some (.bool wt):=fun w' h => Field.bkeep h d3
 have Ls4 : ∀ w', Below w1.heap.size w1 w' → w'.cell? ⟨p.kb, n * 9 + 4, none⟩ = some (.bool fo):=fun w' h => Field.bkeep h d4
 have Ls5 : ∀ w', Below w1.heap.size w1 w' → w'.cell? ⟨p.kb, n * 9 + 5, none⟩ = some (.i sl):=fun w' h => Field.bkeep h d5
 have Ls6 : ∀ w', Below w1.heap.size w1 w' → w'.cell? ⟨p.kb, n * 9 + 6, none⟩ = some (.i ge):=fun w' h => Field.bkeep h d6
 have Ls7 : ∀ w', Below w1.heap.size w1 w' → w'.cell? ⟨p.kb, n * 9 + 7, none⟩ = some (.i st):=fun w' h => Field.bkeep h d7
 have Ls8 : ∀ w', Below w1.heap.size w1 w' → w'.cell? ⟨p.kb, n * 9 + 8, none⟩ = some (.i i):=fun w' h => Field.bkeep h d8
 have hKd : Below w1.heap.size w1 w1.drew:=(Below.refl _ _).drew
 clear d0 d1 d2 d3 d4 d5 d6 d7 d8 bc c6
 go_wp2_with fail
 go_region_held3 (fun w' => Below w1.heap.size w1 w') (first | assumption | exact ((Below.refl _ _).alloc (Nat.le_refl _) _) | exact ((Below.refl _ _).alloc (Nat.le_refl _) _).drew | exact ((Below.refl _ _).drew.alloc (Nat.le_refl _) _)) (fail)
 clear L6 LB Ls0 Ls1 Ls2 Ls3 Ls4 Ls5 Ls6 Ls7 Ls8 b0 b1 b2 hKd
 have hb2 : Below w1.heap.size w1 ((w1.alloc (.cells (Ac 2 op dl wt fo sl ge st i) 94)).drew):=((Below.refl _ _).alloc (Nat.le_refl _) _).drew
 have hB2:=hB.trans (hb2.mono hB.size)
 have r2:=Re.begin h hB2
 have a2:=a0.below hb2
 have e2:=e0.below hb2
 have q2 : RowAt ((w1.alloc (.cells (Ac 2 op dl wt fo sl ge st i) 94)).drew) (W.heap.size + 1 + 1) (Ac 2 op dl wt fo sl ge st i) 94:=by have:=RowAt.new w1 (Ac 2 op dl wt fo sl ge st i) 94; rw [HSZ.out] at this; exact this
 have hs2 : (W.heap.size + 1 + 1) < ((w1.alloc (.cells (Ac 2 op dl wt fo sl ge st i) 94)).drew).heap.size:=by have : ((w1.alloc (.cells (Ac 2 op dl wt fo sl ge st i) 94)).drew).heap.size = w1.heap.size + 1:=(by simp); have:=HSZ.out; omega
 try simp only [HSZ.out]
 clear hb2 a0 e0 hB h0
 generalize hwz : (w1.alloc (.cells (Ac 2 op dl wt fo sl ge st i) 94)).drew = w2 at *
 clear hwz
 have kc0 : w2.cell? ⟨W.heap.size + 1 + 1, 0, none⟩ = some (.i 2):=(q2).cell 0
 have kc1 : w2.cell? ⟨W.heap.size + 1 + 1, 1, none⟩ = some (.i op):=(q2).cell 1
 have kc2 : w2.cell? ⟨W.heap.size + 1 + 1, 2, none⟩ = some (.i dl):=(q2).cell 2
 have kc3 : w2.cell? ⟨W.heap.size + 1 + 1, 3, none⟩ = some (.bool wt):=(q2).cell 3
 have kc4 : w2.cell? ⟨W.heap.size + 1 + 1, 4, none⟩ = some (.bool fo):=(q2).cell 4
 have kc5 : w2.cell? ⟨W.heap.size + 1 + 1, 5, none⟩ = some (.i sl):=(q2).cell 5
 have kc6 : w2.cell? ⟨W.heap.size + 1 + 1, 6, none⟩ = some (.i ge):=(q2).cell 6
 have kc7 : w2.cell? ⟨W.heap.size + 1 + 1, 7, none⟩ = some (.i st):=(q2).cell 7
 have kc8 : w2.cell? ⟨W.heap.size + 1 + 1, 8, none⟩ = some (.i i):=(q2).cell 8
 have bc2 : w2.cell? ⟨W.heap.size, 0, none⟩ = some (.i n):=a2.cell 0
 have er2 : ERow w2 (W.heap.size + 1):=⟨_, rfl, e2⟩
 have htk:=htk0 w2 r2.at'
 clear htk0
 go_wp2_with fail
 refine htk.mono ?_
 rintro e w3 hp3
 obtain ⟨rfl, p3, r3, hc3⟩:=r2.post hp3
 have er3:=er2.chg hc3 (r2.not (by omega) (by omega))
 have a3:=RowAt.kept a2 r2 (Nat.le_refl _) (by omega) hc3
 have q3:=RowAt.kept q2 r2 (by omega) hs2 hc3
 clear htk hp3 hc3 r2 er2 a2 q2 e2 kc0 kc1 kc2 kc3 kc4 kc5 kc6 kc7 kc8 bc2
 have hst:=er3.store x
 have hsz:=ev_size x
 have r4:=r3.row (by omega) (by omega) x.cells (g:=(W.heap.size + 1))
 have row4:=er3.set x
 have hcs : Chg (fun k => k = (W.heap.size + 1)) w3 (w3.setRow (W.heap.size + 1) x.cells):=chg_setRow (Chg.refl _ _) _ _ (fun _ => rfl)
 have a4:=a3.chg hcs (by omega)
 have q4:=q3.chg hcs (by omega)
 clear r3 er3 a3 q3 hcs
 go_upto_region 12 with (fail)
 generalize hwz : w3.setRow (W.heap.size + 1) x.cells = w4 at *
 clear hwz hst hsz
 have A6:=r4.at'
 have c6:=A6.hd.c6
 rw [r4.mb, r4.kb, HKS.out] at c6
 have hlm6 : p.mb < w4.heap.size:=by have:=A6.lt (.inl rfl); rwa [r4.mb] at this
 have L6 : ∀ w', Chg (fun k => k = p.kb) w4 w' → w'.cell? ⟨p.mb, 6, none⟩ = some (.slice (some ⟨p.kb, 0, none⟩) m.ks.length m.ks.length):=fun w' h => (h.cell (p:=⟨p.mb, 6, none⟩) hlm6 hkm).trans c6
 have LB : ∀ w', Chg (fun k => k = p.kb) w4 w' → w'.cell? ⟨W.heap.size, 0, none⟩ = some (.i n):=fun w' h => ((a4).chg h (by omega)).cell 0
 have hKd : Chg (fun k => k = p.kb) w4 w4.drew:=(Chg.refl _ _).drew
 have hth : w4.drew.there p.kb (n * 9) 9:=by
  have:=WorksAt.there A6.works (i:=n) (by rw [HKS.out]; exact hnl)
  rw [r4.kb] at this
  simpa using this
 have hset : Chg (fun k => k = p.kb) w4 (w4.drew.setCells p.kb (n * 9) Wk.zero.cells.toList):=hKd.trans (chg_setCells _ _ _ _) (fun _ _ h => h)
 have r7:=r4.resting hset (by rw [HKS.out]; exact hnl)
 have row7:=(row4).chg hset (by omega)
 have k7:=(q4).chg hset (by omega)
 have b7:=(a4).chg hset (by omega)
 have R7:=Lib.hid r7
 clear c6 A6 r7
 go_upto_region 12 with (fail)
 refine wp_region_held_drew (S:=fun w' => Chg (fun k => k = p.kb) w4 w') (by kernel_rfl) (by exact hKd) (fun hHeld => ?_)
 refine tKw (gd:=none) 0 58 (.move (.tmp 0)) ((.pointer (some ⟨p.mb, 0, none⟩))) (run_move_of (.tmp 0) (.pointer (some ⟨p.mb, 0, none⟩)) (by kernel_rfl)) hHeld ?_
 try simp only [Act.put, sA, sZ, sS]
 refine tKg 1 59 hHeld ?_
 try simp only [Act.put, sA, sZ, sS]
 refine tKg 2 60 hHeld ?_
 try simp only [Act.put, sA, sZ, sS]
 refine tKg 3 61 hHeld ?_
 try simp only [Act.put, sA, sZ, sS]
 refine tKg 4 62 hHeld ?_
 try simp only [Act.put, sA, sZ, sS]
 refine tKg 5 63 hHeld ?_
 try simp only [Act.put, sA, sZ, sS]
 refine tKg 6 64 hHeld ?_
 try simp only [Act.put, sA, sZ, sS]
 refine ready1 (i:=7) (by kernel_rfl) (step_store_mid 94 (.tmp 64) (.tmp 63) (by kernel_rfl) p.kb (n * 9) Wk.zero.cells (by kernel_rfl) (by kernel_rfl) hth (by kernel_rfl) (by kernel_rfl) hset (fun _ => ?_))
 refine wpAnyH_done (by kernel_rfl) ?_ _
 generalize hwz : w4.drew.setCells p.kb (n * 9) Wk.zero.cells.toList = w7 at *
 clear hwz hset hth hKd L6 LB hHeld
 have hty:=m_tidy R7.out.at'
 rw [R7.out.mb] at hty
 go_wp2_with fail
 refine hty.mono ?_
 rintro e w8 ⟨v8, hp8⟩
 obtain ⟨rfl, p8, r8, hc8⟩:=R7.out.post hp8
 have row8:=RowAt.kept row7 R7.out (by omega) (by omega) hc8
 have b8:=RowAt.kept b7 R7.out (Nat.le_refl _) (by omega) hc8
 have k8:=RowAt.kept k7 R7.out (by omega) hs2 hc8
 have han:=answered_any w8 (x) n ⟨op, dl, wt, fo, sl, ge, st⟩
 clear hty hp8 hc8 R7 row7 b7 k7
 have hyy : ∃ y, y = M.answered (x) n ⟨op, dl, wt, fo, sl, ge, st⟩:=⟨_, rfl⟩
 obtain ⟨y, hy⟩:=hyy
 rw [← hy] at han
 have HY:=Lib.hid hy
 clear hy
 have bcell8 : w8.cell? ⟨W.heap.size, 0, none⟩ = some (.i n):=b8.cell 0
 have kc0 : w8.cell? ⟨W.heap.size + 1 + 1, 0, none⟩ = some (.i 2):=(k8).cell 0
 have kc1 : w8.cell? ⟨W.heap.size + 1 + 1, 1, none⟩ = some (.i op):=(k8).cell 1
 have kc2 : w8.cell? ⟨W.heap.size + 1 + 1, 2, none⟩ = some (.i dl):=(k8).cell 2
 have kc3 : w8.cell? ⟨W.heap.size + 1 + 1, 3, none⟩ = some (.bool wt):=(k8).cell 3
 have kc4 : w8.cell? ⟨W.heap.size + 1 + 1, 4, none⟩ = some (.bool fo):=(k8).cell 4
 have kc5 : w8.cell? ⟨W.heap.size + 1 + 1, 5, none⟩ = some (.i sl):=(k8).cell 5
 have kc6 : w8.cell? ⟨W.heap.size + 1 + 1, 6, none⟩ = some (.i ge):=(k8).cell 6
 have kc7 : w8.cell? ⟨W.heap.size + 1 + 1, 7, none⟩ = some (.i st):=(k8).cell 7
 have kc8 : w8.cell? ⟨W.heap.size + 1 + 1, 8, none⟩ = some (.i i):=(k8).cell 8
 go_upto_region 14 with (fail)
 refine wp_region_lit ?_
 refine RowL.wpList_load_row rfl 36 (.tmp 4) rfl (W.heap.size + 1) _ (x).cells _ rfl row8 Tryz.underlying36 rfl (by kernel_rfl) ?_
 go_wp2_with fail
 refine han.mono ?_
 rintro e w9 ⟨rfl, hb9⟩
 have r9:=r8.below hb9
 have row9:=row8.below hb9
 have hst:=(show ERow w9 (W.heap.size + 1) from ⟨_, rfl, row9⟩).store y
 have hsz:=ev_size y
 have row10:=(show ERow w9 (W.heap.size + 1) from ⟨_, rfl, row9⟩).set y
 clear han hb9 r8 row8 b8 k8 row9 bcell8 kc0 kc1 kc2 kc3 kc4 kc5 kc6 kc7 kc8
 go_wp2_with fail
 refine bR2 (W.heap.size + 1) row10 Tryz.underlying36 ?_
 rw [HR.out, HY.out]
 exact (r9.row (by omega) (by omega) _).fin hB2 _
theorem m_wake_late {W : World} {p : Pl} {m : M} (h : MAt W p m) (n : Nat) (op dl : Int) (wt fo : Bool) (sl ge st ks0 : Int) (hw : m.has n = true) (hk : m.ks[n]? = some ⟨1, ⟨op, dl, wt, fo, sl, ge, st⟩, ks0⟩) (hd : dl ≤ m.now) : Calls Tryz.prog 16 #[.pointer (some ⟨p.mb, 0, none⟩), .i n] W (MPost W p (.tuple #[(m.wake n).1.1.val, .bool (m.wake n).1.2]) (m.wake n).2):=by
 have HR : RowKit.Hid (m.wake n = ((M.answered (M.failed 4) n ⟨op, dl, wt, fo, sl, ge, st⟩, true), (M.rest { m with line:=m.line.filter (fun o => o != (n : Int)) } n).tidy)):=Lib.hid (by unfold M.wake; simp [hw, M.worker, hk, hd])
 have hdd : decide (dl ≤ m.now) = true:=by simpa using hd
 generalize m.wake n = R at *
 clear hd
 have hnl : n < m.ks.length:=by simp [M.has] at hw; omega
 have HK:=Lib.hid hk
 have hkm : p.mb ≠ p.kb:=h.ne.2.2.1
 have hkbW : p.kb < W.heap.size:=h.lt (.inr (.inr (.inl rfl)))
 have hmbW : p.mb < W.heap.size:=h.lt (.inl rfl)
 have hB : Below W.heap.size W ((W.alloc (.cells #[.i n] 3)).alloc (.cells Zv 36)):=((Below.refl _ _).alloc (Nat.le_refl _) _).alloc (by simp) _
 have hsz0 : ((W.alloc (.cells #[.i n] 3)).alloc (.cells Zv 36)).heap.size = W.heap.size + 1 + 1:=by simp
 have a0 : RowAt ((W.alloc (.cells #[.i n] 3)).alloc (.cells Zv 36)) W.heap.size #[.i n] 3:=heap_alloc2_old W _ _
 have e0 : RowAt ((W.alloc (.cells #[.i n] 3)).alloc (.cells Zv 36)) (W.heap.size + 1) Zv 36:=by have:=RowAt.new (W.alloc (.cells #[.i n] 3)) Zv 36; simpa using this
 have h0:=h.below hB
 have hhas:=m_has h0 n
 have bc : ((W.alloc (.cells #[.i n] 3)).alloc (.cells Zv 36)).cell? ⟨W.heap.size, 0, none⟩ = some (.i n):=a0.cell 0
 rw [hw] at hhas
 have c6:=h0.hd.c6
 have cK:=h0.works.get hk
 have hnk:=h0.ok.nk
 simp only at cK
 have b0 : (0 : Int) ≤ (n : Int):=by omega
 have b1 : (n : Int) < (m.ks.length : Int):=by omega
 have b2 : (n : Int) ≤ (m.ks.length : Int) - 1:=by omega
 clear hk
 go_enter Tryz.func16, Tryz.ntmps16
 go_wp2_with fail
 refine hhas.mono ?_
 rintro e w' ⟨rfl, rfl⟩
 clear hhas
 generalize hwz : ((W.alloc (.cells #[.i n] 3)).alloc (.cells Zv 36)) = w1 at *
 clear hwz
 obtain ⟨d0, d1, d2, d3, d4, d5, d6, d7, d8⟩:=cK
 have HSZ:=Lib.hid hsz0
 clear hsz0 hw
 have L6 : ∀ w', Below w1.heap.size w1 w' → w'.cell? ⟨p.mb, 6, none⟩ = some (.slice (some ⟨p.kb, 0, none⟩) m.ks.length m.ks.length):=fun w' h => Field.bkeep h c6
 have LB : ∀ w', Below w1.heap.size w1 w' → w'.cell? ⟨W.heap.size, 0, none⟩ = some (.i n):=fun w' h => Field.bkeep h bc
 have Ls0 : ∀ w', Below w1.heap.size w1 w' → w'.cell? ⟨p.kb, n * 9, none⟩ = some (.i 1):=fun w' h => Field.bkeep h d0
 have Ls1 : ∀ w', Below w1.heap.size w1 w' → w'.cell? ⟨p.kb, n * 9 + 1, none⟩ = some (.i op):=fun w' h => Field.bkeep h d1
 have Ls2 : ∀ w', Below w1.heap.size w1 w' → w'.cell? ⟨p.kb, n * 9 + 2, none⟩ = some (.i dl):=fun w' h => Field.bkeep h d2
 have Ls3 : ∀ w', Below w1.heap.size w1 w' → w'.cell? ⟨p.kb, n * 9 + 3, none⟩ = some (.bool wt):=fun w' h => Field.bkeep h d3
 have Ls4 : ∀ w', Below w1.heap.size w1 w' → w'.cell? ⟨p.kb, n * 9 + 4, none⟩ = some (.bool fo):=fun w' h => Field.bkeep h d4
 have Ls5 : ∀ w', Below w1.heap.size w1 w' → w'.cell? ⟨p.kb, n * 9 + 5, none⟩ = some (.i sl):=fun w' h => Field.bkeep h d5
 have Ls6 : ∀ w', Below w1.heap.size w1 w' → w'.cell? ⟨p.kb, n * 9 + 6, none⟩ = some (.i ge):=fun w' h => Field.bkeep h d6
 have Ls7 : ∀ w', Below w1.heap.size w1 w' → w'.cell? ⟨p.kb, n * 9 + 7, none⟩ = some (.i st):=fun w' h => Field.bkeep h d7
 have Ls8 : ∀ w', Below w1.heap.size w1 w' → w'.cell? ⟨p.kb, n * 9 + 8, none⟩ = some (.i ks0):=fun w' h => Field.bkeep h d8
 have hKd : Below w1.heap.size w1 w1.drew:=(Below.refl _ _).drew
 clear d0 d1 d2 d3 d4 d5 d6 d7 d8 bc c6
 go_wp2_with fail
 go_region_held3 (fun w' => Below w1.heap.size w1 w') (first | assumption | exact ((Below.refl _ _).alloc (Nat.le_refl _) _) | exact ((Below.refl _ _).alloc (Nat.le_refl _) _).drew | exact ((Below.refl _ _).drew.alloc (Nat.le_refl _) _)) (fail)
 clear L6 LB Ls0 Ls1 Ls2 Ls3 Ls4 Ls5 Ls6 Ls7 Ls8 b0 b1 b2 hKd
 have hb2 : Below w1.heap.size w1 ((w1.alloc (.cells (Ac 1 op dl wt fo sl ge st ks0) 94)).drew):=((Below.refl _ _).alloc (Nat.le_refl _) _).drew
 have hB2:=hB.trans (hb2.mono hB.size)
 have r2:=Re.begin h hB2
 have a2:=a0.below hb2
 have e2:=e0.below hb2
 have q2 : RowAt ((w1.alloc (.cells (Ac 1 op dl wt fo sl ge st ks0) 94)).drew) (W.heap.size + 1 + 1) (Ac 1 op dl wt fo sl ge st ks0) 94:=by have:=RowAt.new w1 (Ac 1 op dl wt fo sl ge st ks0) 94; rw [HSZ.out] at this; exact this
 have hs2 : (W.heap.size + 1 + 1) < ((w1.alloc (.cells (Ac 1 op dl wt fo sl ge st ks0) 94)).drew).heap.size:=by have : ((w1.alloc (.cells (Ac 1 op dl wt fo sl ge st ks0) 94)).drew).heap.size = w1.heap.size + 1:=(by simp); have:=HSZ.out; omega
 try simp only [HSZ.out]
 clear hb2 a0 e0 hB h0
 generalize hwz : (w1.alloc (.cells (Ac 1 op dl wt fo sl ge st ks0) 94)).drew = w2 at *
 clear hwz
 have kc0 : w2.cell? ⟨W.heap.size + 1 + 1, 0, none⟩ = some (.i 1):=(q2).cell 0
 have kc1 : w2.cell? ⟨W.heap.size + 1 + 1, 1, none⟩ = some (.i op):=(q2).cell 1
 have kc2 : w2.cell? ⟨W.heap.size + 1 + 1, 2, none⟩ = some (.i dl):=(q2).cell 2
 have kc3 : w2.cell? ⟨W.heap.size + 1 + 1, 3, none⟩ = some (.bool wt):=(q2).cell 3
 have kc4 : w2.cell? ⟨W.heap.size + 1 + 1, 4, none⟩ = some (.bool fo):=(q2).cell 4
 have kc5 : w2.cell? ⟨W.heap.size + 1 + 1, 5, none⟩ = some (.i sl):=(q2).cell 5
 have kc6 : w2.cell? ⟨W.heap.size + 1 + 1, 6, none⟩ = some (.i ge):=(q2).cell 6
 have kc7 : w2.cell? ⟨W.heap.size + 1 + 1, 7, none⟩ = some (.i st):=(q2).cell 7
 have kc8 : w2.cell? ⟨W.heap.size + 1 + 1, 8, none⟩ = some (.i ks0):=(q2).cell 8
 have bc2 : w2.cell? ⟨W.heap.size, 0, none⟩ = some (.i n):=a2.cell 0
 have er2 : ERow w2 (W.heap.size + 1):=⟨_, rfl, e2⟩
 have c9:=r2.at'.hd.c9
 have hpast : ∀ nn, Calls Tryz.prog 50 #[.pointer (some ⟨p.cb, 0, none⟩), .i dl] (w2.drewN nn) fun e w' => e = .returned (.bool true) ∧ w' = w2.drewN nn:=fun nn => by
  have h1:=Clock.past_any (w2.drewN nn) ⟨p.cb, 0, none⟩ m.now dl r2.at'.clk
  rw [hdd] at h1
  exact h1.mono (fun e w' hh => ⟨hh.1, hh.2.symm⟩)
 have HPA:=Lib.hid hpast
 have c7:=r2.at'.hd.c7
 clear hpast hdd
 go_wp2_with fail
 go_quiet ((go_at_call 50; exact Calls.quiet_of_same (HPA.out _)))
 have hbq : Below w2.heap.size w2 (w2.drewN nq):=bdrewN (Below.refl _ _) nq
 have r3:=r2.below hbq
 have er3:=er2.below hbq
 have a3:=a2.below hbq
 have q3:=q2.below hbq
 clear r2 er2 a2 q2 e2 c7 c9 HPA kc0 kc1 kc2 kc3 kc4 kc5 kc6 kc7 kc8 bc2
 generalize hwz : w2.drewN nq = w3 at *
 clear hwz hbq
 have bc3 : w3.cell? ⟨W.heap.size, 0, none⟩ = some (.i n):=a3.cell 0
 have c7:=r3.at'.hd.c7
 have f7:=r3.at'.hd.f7
 have hlb : ¬ Fp p.lv W.heap.size:=fun hk => r3.not (Nat.le_refl _) (by omega) (.inr (.inr (.inr (.inr (.inr hk)))))
 have hfew:=r3.at'.ok.few
 have hde:=delete_any w3 W.heap.size n bc3 p.lv m.line (by omega) r3.at'.own hlb
 have hlmb : ¬ Fp p.lv p.mb:=fun hk => by
  obtain ⟨t, -, t1, -, -, -, -, t6⟩:=r3.at'.tag
  have:=t6 _ hk
  omega
 go_wp2_with fail
 refine hde.mono ?_
 rintro e w4 ⟨v', rfl, hO4, hF4, hC4⟩
 obtain ⟨va, vc, hv⟩:=hO4.form
 subst hv
 have hlm3 : p.mb < w3.heap.size:=r3.at'.lt (.inl rfl)
 have e7:=(hC4.cell (p:=⟨p.mb, 7, none⟩) hlm3 hlmb).trans c7
 have f7':=(hC4.frozen (p:=⟨p.mb, 7, none⟩) hlm3 hlmb).trans f7
 have hC5 : Chg (fun k => k = p.mb ∨ Fp p.lv k) w3 (w4.setCell ⟨p.mb, 7, none⟩ (.slice va (m.line.filter (fun o => o != (n : Int))).length vc)):=(hC4.mono (fun k _ hk => .inr hk)).setCell _ _ (fun _ => .inl rfl)
 have hO5 : OwnS (w4.setCell ⟨p.mb, 7, none⟩ (.slice va (m.line.filter (fun o => o != (n : Int))).length vc)) (.slice va (m.line.filter (fun o => o != (n : Int))).length vc) (m.line.filter (fun o => o != (n : Int))).length 1 ((m.line.filter (fun o => o != (n : Int))).map (Value.int .i64)) :=
  hO4.chg (F:=fun k => k = p.mb) ((Chg.refl _ _).setCell ⟨p.mb, 7, none⟩ (.slice va (m.line.filter (fun o => o != (n : Int))).length vc) (fun _ => rfl)) (fun k hk e => hlmb (hF4 _ (e ▸ hk)))
 have hhd4 : Hd w4 p m.cf m.ss.length m.ks.length m.closed:=r3.at'.hd.stable (hC4.block _ hlm3 hlmb)
 have hA5:=r3.at'.toLine (v':=(.slice va (m.line.filter (fun o => o != (n : Int))).length vc)) (l:=m.line.filter (fun o => o != (n : Int))) (W':=w4.setCell ⟨p.mb, 7, none⟩ (.slice va (m.line.filter (fun o => o != (n : Int))).length vc)) hO5 (by
   have:=List.length_filter_le (fun o => o != (n : Int)) m.line
   omega) (fun x hx => r3.at'.ok.line x (List.mem_filter.1 hx).1) (fun k hk => .inl (hF4 k hk)) hC5 (hd_line hhd4 (.slice va (m.line.filter (fun o => o != (n : Int))).length vc))
 have r5:=r3.line hA5 (fun k hk => .inl (hF4 k hk)) hC5
 have hng : ∀ g, W.heap.size ≤ g → g < w2.heap.size → ¬ (g = p.mb ∨ Fp p.lv g):=fun g h1 h2 hk => r3.not h1 h2 (by
   rcases hk with hk | hk
   ·exact .inl hk
   ·exact .inr (.inr (.inr (.inr (.inr hk)))))
 have er5:=er3.chg hC5 (hng _ (by omega) (by omega))
 have a5:=a3.chg hC5 (hng _ (Nat.le_refl _) (by omega))
 have q5:=q3.chg hC5 (hng _ (by omega) hs2)
 clear hde hO4 hF4 hC4 c7 hO5 hhd4 hA5 hC5 r3 er3 a3 q3 bc3 hng f7
 go_upto_region 11 with (fail)
 generalize hwz : w4.setCell ⟨p.mb, 7, none⟩ (.slice va (m.line.filter (fun o => o != (n : Int))).length vc) = w5 at *
 clear hwz e7 f7'
 have hfl:=failed_any w5 4
 have hf : M.failed 4 = { Ev.zero with e:=4 }:=rfl
 rw [← hf] at hfl
 generalize M.failed 4 = x at *
 clear hf
 go_wp2_with fail
 refine hfl.mono ?_
 rintro e w6 ⟨rfl, hb6⟩
 have r6:=r5.below hb6
 have er6:=er5.below hb6
 have a6:=a5.below hb6
 have q6:=q5.below hb6
 clear hfl hb6 r5 er5 a5 q5
 have hst:=er6.store x
 have hsz:=ev_size x
 have r4:=r6.row (by omega) (by omega) x.cells (g:=(W.heap.size + 1))
 have row4:=er6.set x
 have hcs : Chg (fun k => k = (W.heap.size + 1)) w6 (w6.setRow (W.heap.size + 1) x.cells):=chg_setRow (Chg.refl _ _) _ _ (fun _ => rfl)
 have a4:=a6.chg hcs (by omega)
 have q4:=q6.chg hcs (by omega)
 clear r6 er6 a6 q6 hcs
 go_upto_region 12 with (fail)
 generalize hwz : w6.setRow (W.heap.size + 1) x.cells = w4 at *
 clear hwz hst hsz
 have A6:=r4.at'
 have c6:=A6.hd.c6
 rw [r4.mb, r4.kb] at c6
 have hlm6 : p.mb < w4.heap.size:=by have:=A6.lt (.inl rfl); rwa [r4.mb] at this
 have L6 : ∀ w', Chg (fun k => k = p.kb) w4 w' → w'.cell? ⟨p.mb, 6, none⟩ = some (.slice (some ⟨p.kb, 0, none⟩) m.ks.length m.ks.length):=fun w' h => (h.cell (p:=⟨p.mb, 6, none⟩) hlm6 hkm).trans c6
 have LB : ∀ w', Chg (fun k => k = p.kb) w4 w' → w'.cell? ⟨W.heap.size, 0, none⟩ = some (.i n):=fun w' h => ((a4).chg h (by omega)).cell 0
 have hKd : Chg (fun k => k = p.kb) w4 w4.drew:=(Chg.refl _ _).drew
 have hth : w4.drew.there p.kb (n * 9) 9:=by
  have:=WorksAt.there A6.works (i:=n) (hnl)
  rw [r4.kb] at this
  simpa using this
 have hset : Chg (fun k => k = p.kb) w4 (w4.drew.setCells p.kb (n * 9) Wk.zero.cells.toList):=hKd.trans (chg_setCells _ _ _ _) (fun _ _ h => h)
 have r7:=r4.resting hset (hnl)
 have row7:=(row4).chg hset (by omega)
 have k7:=(q4).chg hset (by omega)
 have b7:=(a4).chg hset (by omega)
 have R7:=Lib.hid r7
 clear c6 A6 r7
 go_upto_region 12 with (fail)
 refine wp_region_held_drew (S:=fun w' => Chg (fun k => k = p.kb) w4 w') (by kernel_rfl) (by exact hKd) (fun hHeld => ?_)
 refine tKw (gd:=none) 0 58 (.move (.tmp 0)) ((.pointer (some ⟨p.mb, 0, none⟩))) (run_move_of (.tmp 0) (.pointer (some ⟨p.mb, 0, none⟩)) (by kernel_rfl)) hHeld ?_
 try simp only [Act.put, sA, sZ, sS]
 refine tKg 1 59 hHeld ?_
 try simp only [Act.put, sA, sZ, sS]
 refine tKg 2 60 hHeld ?_
 try simp only [Act.put, sA, sZ, sS]
 refine tKg 3 61 hHeld ?_
 try simp only [Act.put, sA, sZ, sS]
 refine tKg 4 62 hHeld ?_
 try simp only [Act.put, sA, sZ, sS]
 refine tKg 5 63 hHeld ?_
 try simp only [Act.put, sA, sZ, sS]
 refine tKg 6 64 hHeld ?_
 try simp only [Act.put, sA, sZ, sS]
 refine ready1 (i:=7) (by kernel_rfl) (step_store_mid 94 (.tmp 64) (.tmp 63) (by kernel_rfl) p.kb (n * 9) Wk.zero.cells (by kernel_rfl) (by kernel_rfl) hth (by kernel_rfl) (by kernel_rfl) hset (fun _ => ?_))
 refine wpAnyH_done (by kernel_rfl) ?_ _
 generalize hwz : w4.drew.setCells p.kb (n * 9) Wk.zero.cells.toList = w7 at *
 clear hwz hset hth hKd L6 LB hHeld
 have hty:=m_tidy R7.out.at'
 rw [R7.out.mb] at hty
 go_wp2_with fail
 refine hty.mono ?_
 rintro e w8 ⟨v8, hp8⟩
 obtain ⟨rfl, p8, r8, hc8⟩:=R7.out.post hp8
 have row8:=RowAt.kept row7 R7.out (by omega) (by omega) hc8
 have b8:=RowAt.kept b7 R7.out (Nat.le_refl _) (by omega) hc8
 have k8:=RowAt.kept k7 R7.out (by omega) hs2 hc8
 have han:=answered_any w8 (x) n ⟨op, dl, wt, fo, sl, ge, st⟩
 clear hty hp8 hc8 R7 row7 b7 k7
 have hyy : ∃ y, y = M.answered (x) n ⟨op, dl, wt, fo, sl, ge, st⟩:=⟨_, rfl⟩
 obtain ⟨y, hy⟩:=hyy
 rw [← hy] at han
 have HY:=Lib.hid hy
 clear hy
 have bcell8 : w8.cell? ⟨W.heap.size, 0, none⟩ = some (.i n):=b8.cell 0
 have kc0 : w8.cell? ⟨W.heap.size + 1 + 1, 0, none⟩ = some (.i 1):=(k8).cell 0
 have kc1 : w8.cell? ⟨W.heap.size + 1 + 1, 1, none⟩ = some (.i op):=(k8).cell 1
 have kc2 : w8.cell? ⟨W.heap.size + 1 + 1, 2, none⟩ = some (.i dl):=(k8).cell 2
 have kc3 : w8.cell? ⟨W.heap.size + 1 + 1, 3, none⟩ = some (.bool wt):=(k8).cell 3
 have kc4 : w8.cell? ⟨W.heap.size + 1 + 1, 4, none⟩ = some (.bool fo):=(k8).cell 4
 have kc5 : w8.cell? ⟨W.heap.size + 1 + 1, 5, none⟩ = some (.i sl):=(k8).cell 5
 have kc6 : w8.cell? ⟨W.heap.size + 1 + 1, 6, none⟩ = some (.i ge):=(k8).cell 6
 have kc7 : w8.cell? ⟨W.heap.size + 1 + 1, 7, none⟩ = some (.i st):=(k8).cell 7
 have kc8 : w8.cell? ⟨W.heap.size + 1 + 1, 8, none⟩ = some (.i ks0):=(k8).cell 8
 go_upto_region 14 with (fail)
 refine wp_region_lit ?_
 refine RowL.wpList_load_row rfl 36 (.tmp 4) rfl (W.heap.size + 1) _ (x).cells _ rfl row8 Tryz.underlying36 rfl (by kernel_rfl) ?_
 go_wp2_with fail
 refine han.mono ?_
 rintro e w9 ⟨rfl, hb9⟩
 have r9:=r8.below hb9
 have row9:=row8.below hb9
 have hst:=(show ERow w9 (W.heap.size + 1) from ⟨_, rfl, row9⟩).store y
 have hsz:=ev_size y
 have row10:=(show ERow w9 (W.heap.size + 1) from ⟨_, rfl, row9⟩).set y
 clear han hb9 r8 row8 b8 k8 row9 bcell8 kc0 kc1 kc2 kc3 kc4 kc5 kc6 kc7 kc8
 go_wp2_with fail
 refine bR2 (W.heap.size + 1) row10 Tryz.underlying36 ?_
 rw [HR.out, HY.out]
 exact (r9.row (by omega) (by omega) _).fin hB2 _
theorem m_wake_rest {W : World} {p : Pl} {m : M} (h : MAt W p m) (n : Nat) (at0 op dl : Int) (wt fo : Bool) (sl ge st ks0 : Int) (hw : m.has n = true) (hk : m.ks[n]? = some ⟨at0, ⟨op, dl, wt, fo, sl, ge, st⟩, ks0⟩) (h3 : at0 ≠ 3) (h2 : at0 ≠ 2) (h1 : at0 ≠ 1) : Calls Tryz.prog 16 #[.pointer (some ⟨p.mb, 0, none⟩), .i n] W (MPost W p (.tuple #[(m.wake n).1.1.val, .bool (m.wake n).1.2]) (m.wake n).2):=by
 have HR : RowKit.Hid (m.wake n = ((Ev.zero, false), m)):=Lib.hid (by unfold M.wake; simp [hw, M.worker, hk, h1, h2, h3])
 have g3 : (at0 == 3) = false:=by simpa using h3
 have g2 : (at0 == 2) = false:=by simpa using h2
 have g1 : (at0 == 1) = false:=by simpa using h1
 generalize m.wake n = R at *
 clear h1 h2 h3
 have hnl : n < m.ks.length:=by simp [M.has] at hw; omega
 have HK:=Lib.hid hk
 have hkm : p.mb ≠ p.kb:=h.ne.2.2.1
 have hkbW : p.kb < W.heap.size:=h.lt (.inr (.inr (.inl rfl)))
 have hmbW : p.mb < W.heap.size:=h.lt (.inl rfl)
 have hB : Below W.heap.size W ((W.alloc (.cells #[.i n] 3)).alloc (.cells Zv 36)):=((Below.refl _ _).alloc (Nat.le_refl _) _).alloc (by simp) _
 have hsz0 : ((W.alloc (.cells #[.i n] 3)).alloc (.cells Zv 36)).heap.size = W.heap.size + 1 + 1:=by simp
 have a0 : RowAt ((W.alloc (.cells #[.i n] 3)).alloc (.cells Zv 36)) W.heap.size #[.i n] 3:=heap_alloc2_old W _ _
 have e0 : RowAt ((W.alloc (.cells #[.i n] 3)).alloc (.cells Zv 36)) (W.heap.size + 1) Zv 36:=by have:=RowAt.new (W.alloc (.cells #[.i n] 3)) Zv 36; simpa using this
 have h0:=h.below hB
 have hhas:=m_has h0 n
 have bc : ((W.alloc (.cells #[.i n] 3)).alloc (.cells Zv 36)).cell? ⟨W.heap.size, 0, none⟩ = some (.i n):=a0.cell 0
 rw [hw] at hhas
 have c6:=h0.hd.c6
 have cK:=h0.works.get hk
 have hnk:=h0.ok.nk
 simp only at cK
 have b0 : (0 : Int) ≤ (n : Int):=by omega
 have b1 : (n : Int) < (m.ks.length : Int):=by omega
 have b2 : (n : Int) ≤ (m.ks.length : Int) - 1:=by omega
 clear hk
 go_enter Tryz.func16, Tryz.ntmps16
 go_wp2_with fail
 refine hhas.mono ?_
 rintro e w' ⟨rfl, rfl⟩
 clear hhas
 generalize hwz : ((W.alloc (.cells #[.i n] 3)).alloc (.cells Zv 36)) = w1 at *
 clear hwz
 obtain ⟨d0, d1, d2, d3, d4, d5, d6, d7, d8⟩:=cK
 have HSZ:=Lib.hid hsz0
 clear hsz0 hw
 have L6 : ∀ w', Below w1.heap.size w1 w' → w'.cell? ⟨p.mb, 6, none⟩ = some (.slice (some ⟨p.kb, 0, none⟩) m.ks.length m.ks.length):=fun w' h => Field.bkeep h c6
 have LB : ∀ w', Below w1.heap.size w1 w' → w'.cell? ⟨W.heap.size, 0, none⟩ = some (.i n):=fun w' h => Field.bkeep h bc
 have Ls0 : ∀ w', Below w1.heap.size w1 w' → w'.cell? ⟨p.kb, n * 9, none⟩ = some (.i at0):=fun w' h => Field.bkeep h d0
 have Ls1 : ∀ w', Below w1.heap.size w1 w' → w'.cell? ⟨p.kb, n * 9 + 1, none⟩ = some (.i op):=fun w' h => Field.bkeep h d1
 have Ls2 : ∀ w', Below w1.heap.size w1 w' → w'.cell? ⟨p.kb, n * 9 + 2, none⟩ = some (.i dl):=fun w' h => Field.bkeep h d2
 have Ls3 : ∀ w', Below w1.heap.size w1 w' → w'.cell? ⟨p.kb, n * 9 + 3, none⟩ = some (.bool wt):=fun w' h => Field.bkeep h d3
 have Ls4 : ∀ w', Below w1.heap.size w1 w' → w'.cell? ⟨p.kb, n * 9 + 4, none⟩ = some (.bool fo):=fun w' h => Field.bkeep h d4
 have Ls5 : ∀ w', Below w1.heap.size w1 w' → w'.cell? ⟨p.kb, n * 9 + 5, none⟩ = some (.i sl):=fun w' h => Field.bkeep h d5
 have Ls6 : ∀ w', Below w1.heap.size w1 w' → w'.cell? ⟨p.kb, n * 9 + 6, none⟩ = some (.i ge):=fun w' h => Field.bkeep h d6
 have Ls7 : ∀ w', Below w1.heap.size w1 w' → w'.cell? ⟨p.kb, n * 9 + 7, none⟩ = some (.i st):=fun w' h => Field.bkeep h d7
 have Ls8 : ∀ w', Below w1.heap.size w1 w' → w'.cell? ⟨p.kb, n * 9 + 8, none⟩ = some (.i ks0):=fun w' h => Field.bkeep h d8
 have hKd : Below w1.heap.size w1 w1.drew:=(Below.refl _ _).drew
 clear d0 d1 d2 d3 d4 d5 d6 d7 d8 bc c6
 go_wp2_with fail
 go_region_held3 (fun w' => Below w1.heap.size w1 w') (first | assumption | exact ((Below.refl _ _).alloc (Nat.le_refl _) _) | exact ((Below.refl _ _).alloc (Nat.le_refl _) _).drew | exact ((Below.refl _ _).drew.alloc (Nat.le_refl _) _)) (fail)
 clear L6 LB Ls0 Ls1 Ls2 Ls3 Ls4 Ls5 Ls6 Ls7 Ls8 b0 b1 b2 hKd
 have hb2 : Below w1.heap.size w1 ((w1.alloc (.cells (Ac at0 op dl wt fo sl ge st ks0) 94)).drew):=((Below.refl _ _).alloc (Nat.le_refl _) _).drew
 have hB2:=hB.trans (hb2.mono hB.size)
 have r2:=Re.begin h hB2
 have a2:=a0.below hb2
 have e2:=e0.below hb2
 have q2 : RowAt ((w1.alloc (.cells (Ac at0 op dl wt fo sl ge st ks0) 94)).drew) (W.heap.size + 1 + 1) (Ac at0 op dl wt fo sl ge st ks0) 94:=by have:=RowAt.new w1 (Ac at0 op dl wt fo sl ge st ks0) 94; rw [HSZ.out] at this; exact this
 have hs2 : (W.heap.size + 1 + 1) < ((w1.alloc (.cells (Ac at0 op dl wt fo sl ge st ks0) 94)).drew).heap.size:=by have : ((w1.alloc (.cells (Ac at0 op dl wt fo sl ge st ks0) 94)).drew).heap.size = w1.heap.size + 1:=(by simp); have:=HSZ.out; omega
 try simp only [HSZ.out]
 clear hb2 a0 e0 hB h0
 generalize hwz : (w1.alloc (.cells (Ac at0 op dl wt fo sl ge st ks0) 94)).drew = w2 at *
 clear hwz
 have kc0 : w2.cell? ⟨W.heap.size + 1 + 1, 0, none⟩ = some (.i at0):=(q2).cell 0
 have kc1 : w2.cell? ⟨W.heap.size + 1 + 1, 1, none⟩ = some (.i op):=(q2).cell 1
 have kc2 : w2.cell? ⟨W.heap.size + 1 + 1, 2, none⟩ = some (.i dl):=(q2).cell 2
 have kc3 : w2.cell? ⟨W.heap.size + 1 + 1, 3, none⟩ = some (.bool wt):=(q2).cell 3
 have kc4 : w2.cell? ⟨W.heap.size + 1 + 1, 4, none⟩ = some (.bool fo):=(q2).cell 4
 have kc5 : w2.cell? ⟨W.heap.size + 1 + 1, 5, none⟩ = some (.i sl):=(q2).cell 5
 have kc6 : w2.cell? ⟨W.heap.size + 1 + 1, 6, none⟩ = some (.i ge):=(q2).cell 6
 have kc7 : w2.cell? ⟨W.heap.size + 1 + 1, 7, none⟩ = some (.i st):=(q2).cell 7
 have kc8 : w2.cell? ⟨W.heap.size + 1 + 1, 8, none⟩ = some (.i ks0):=(q2).cell 8
 have bc2 : w2.cell? ⟨W.heap.size, 0, none⟩ = some (.i n):=a2.cell 0
 have er2 : ERow w2 (W.heap.size + 1):=⟨_, rfl, e2⟩
 go_wp2_with fail
 go_quiet (fail)
 have r3:=r2.below (bdrewN (Below.refl _ _) nq)
 have er3:=er2.below (bdrewN (Below.refl _ _) nq)
 clear r2 er2 a2 q2 e2 kc0 kc1 kc2 kc3 kc4 kc5 kc6 kc7 kc8 bc2
 generalize hwz : w2.drewN nq = w3 at *
 clear hwz
 go_upto_region 4 with (fail)
 obtain ⟨Z, z1, z2⟩:=er3
 refine wp_region_lit ?_
 refine RowL.gl Ev.zero.val ?_ (by go_simp; try rfl)
 refine RowL.gSt z2 Ev.zero.cells 36 (.tmp 4) (.tmp 19) ?_ (hsz:=z1) (h1:=ev_one _)
 go_wp2_with fail
 refine bR2 (W.heap.size + 1) (z2.set _) Tryz.underlying36 ?_
 rw [HR.out]
 exact (r3.row (by omega) (by first | omega | (simp)) _).fin hB2 _
theorem m_wake_soon {W : World} {p : Pl} {m : M} (h : MAt W p m) (n : Nat) (op dl : Int) (wt fo : Bool) (sl ge st ks0 : Int) (hw : m.has n = true) (hk : m.ks[n]? = some ⟨1, ⟨op, dl, wt, fo, sl, ge, st⟩, ks0⟩) (hd : ¬ dl ≤ m.now) : Calls Tryz.prog 16 #[.pointer (some ⟨p.mb, 0, none⟩), .i n] W (MPost W p (.tuple #[(m.wake n).1.1.val, .bool (m.wake n).1.2]) (m.wake n).2):=by
 have HR : RowKit.Hid (m.wake n = ((Ev.zero, false), m)):=Lib.hid (by unfold M.wake; simp [hw, M.worker, hk, hd])
 have hdd : decide (dl ≤ m.now) = false:=by simpa using hd
 generalize m.wake n = R at *
 clear hd
 have hnl : n < m.ks.length:=by simp [M.has] at hw; omega
 have HK:=Lib.hid hk
 have hkm : p.mb ≠ p.kb:=h.ne.2.2.1
 have hkbW : p.kb < W.heap.size:=h.lt (.inr (.inr (.inl rfl)))
 have hmbW : p.mb < W.heap.size:=h.lt (.inl rfl)
 have hB : Below W.heap.size W ((W.alloc (.cells #[.i n] 3)).alloc (.cells Zv 36)):=((Below.refl _ _).alloc (Nat.le_refl _) _).alloc (by simp) _
 have hsz0 : ((W.alloc (.cells #[.i n] 3)).alloc (.cells Zv 36)).heap.size = W.heap.size + 1 + 1:=by simp
 have a0 : RowAt ((W.alloc (.cells #[.i n] 3)).alloc (.cells Zv 36)) W.heap.size #[.i n] 3:=heap_alloc2_old W _ _
 have e0 : RowAt ((W.alloc (.cells #[.i n] 3)).alloc (.cells Zv 36)) (W.heap.size + 1) Zv 36:=by have:=RowAt.new (W.alloc (.cells #[.i n] 3)) Zv 36; simpa using this
 have h0:=h.below hB
 have hhas:=m_has h0 n
 have bc : ((W.alloc (.cells #[.i n] 3)).alloc (.cells Zv 36)).cell? ⟨W.heap.size, 0, none⟩ = some (.i n):=a0.cell 0
 rw [hw] at hhas
 have c6:=h0.hd.c6
 have cK:=h0.works.get hk
 have hnk:=h0.ok.nk
 simp only at cK
 have b0 : (0 : Int) ≤ (n : Int):=by omega
 have b1 : (n : Int) < (m.ks.length : Int):=by omega
 have b2 : (n : Int) ≤ (m.ks.length : Int) - 1:=by omega
 clear hk
 go_enter Tryz.func16, Tryz.ntmps16
 go_wp2_with fail
 refine hhas.mono ?_
 rintro e w' ⟨rfl, rfl⟩
 clear hhas
 generalize hwz : ((W.alloc (.cells #[.i n] 3)).alloc (.cells Zv 36)) = w1 at *
 clear hwz
 obtain ⟨d0, d1, d2, d3, d4, d5, d6, d7, d8⟩:=cK
 have HSZ:=Lib.hid hsz0
 clear hsz0 hw
 have L6 : ∀ w', Below w1.heap.size w1 w' → w'.cell? ⟨p.mb, 6, none⟩ = some (.slice (some ⟨p.kb, 0, none⟩) m.ks.length m.ks.length):=fun w' h => Field.bkeep h c6
 have LB : ∀ w', Below w1.heap.size w1 w' → w'.cell? ⟨W.heap.size, 0, none⟩ = some (.i n):=fun w' h => Field.bkeep h bc
 have Ls0 : ∀ w', Below w1.heap.size w1 w' → w'.cell? ⟨p.kb, n * 9, none⟩ = some (.i 1):=fun w' h => Field.bkeep h d0
 have Ls1 : ∀ w', Below w1.heap.size w1 w' → w'.cell? ⟨p.kb, n * 9 + 1, none⟩ = some (.i op):=fun w' h => Field.bkeep h d1
 have Ls2 : ∀ w', Below w1.heap.size w1 w' → w'.cell? ⟨p.kb, n * 9 + 2, none⟩ = some (.i dl):=fun w' h => Field.bkeep h d2
 have Ls3 : ∀ w', Below w1.heap.size w1 w' → w'.cell? ⟨p.kb, n * 9 + 3, none⟩ = some (.bool wt):=fun w' h => Field.bkeep h d3
 have Ls4 : ∀ w', Below w1.heap.size w1 w' → w'.cell? ⟨p.kb, n * 9 + 4, none⟩ = some (.bool fo):=fun w' h => Field.bkeep h d4
 have Ls5 : ∀ w', Below w1.heap.size w1 w' → w'.cell? ⟨p.kb, n * 9 + 5, none⟩ = some (.i sl):=fun w' h => Field.bkeep h d5
 have Ls6 : ∀ w', Below w1.heap.size w1 w' → w'.cell? ⟨p.kb, n * 9 + 6, none⟩ = some (.i ge):=fun w' h => Field.bkeep h d6
 have Ls7 : ∀ w', Below w1.heap.size w1 w' → w'.cell? ⟨p.kb, n * 9 + 7, none⟩ = some (.i st):=fun w' h => Field.bkeep h d7
 have Ls8 : ∀ w', Below w1.heap.size w1 w' → w'.cell? ⟨p.kb, n * 9 + 8, none⟩ = some (.i ks0):=fun w' h => Field.bkeep h d8
 have hKd : Below w1.heap.size w1 w1.drew:=(Below.refl _ _).drew
 clear d0 d1 d2 d3 d4 d5 d6 d7 d8 bc c6
 go_wp2_with fail
 go_region_held3 (fun w' => Below w1.heap.size w1 w') (first | assumption | exact ((Below.refl _ _).alloc (Nat.le_refl _) _) | exact ((Below.refl _ _).alloc (Nat.le_refl _) _).drew | exact ((Below.refl _ _).drew.alloc (Nat.le_refl _) _)) (fail)
 clear L6 LB Ls0 Ls1 Ls2 Ls3 Ls4 Ls5 Ls6 Ls7 Ls8 b0 b1 b2 hKd
 have hb2 : Below w1.heap.size w1 ((w1.alloc (.cells (Ac 1 op dl wt fo sl ge st ks0) 94)).drew):=((Below.refl _ _).alloc (Nat.le_refl _) _).drew
 have hB2:=hB.trans (hb2.mono hB.size)
 have r2:=Re.begin h hB2
 have a2:=a0.below hb2
 have e2:=e0.below hb2
 have q2 : RowAt ((w1.alloc (.cells (Ac 1 op dl wt fo sl ge st ks0) 94)).drew) (W.heap.size + 1 + 1) (Ac 1 op dl wt fo sl ge st ks0) 94:=by have:=RowAt.new w1 (Ac 1 op dl wt fo sl ge st ks0) 94; rw [HSZ.out] at this; exact this
 have hs2 : (W.heap.size + 1 + 1) < ((w1.alloc (.cells (Ac 1 op dl wt fo sl ge st ks0) 94)).drew).heap.size:=by have : ((w1.alloc (.cells (Ac 1 op dl wt fo sl ge st ks0) 94)).drew).heap.size = w1.heap.size + 1:=(by simp); have:=HSZ.out; omega
 try simp only [HSZ.out]
 clear hb2 a0 e0 hB h0
 generalize hwz : (w1.alloc (.cells (Ac 1 op dl wt fo sl ge st ks0) 94)).drew = w2 at *
 clear hwz
 have kc0 : w2.cell? ⟨W.heap.size + 1 + 1, 0, none⟩ = some (.i 1):=(q2).cell 0
 have kc1 : w2.cell? ⟨W.heap.size + 1 + 1, 1, none⟩ = some (.i op):=(q2).cell 1
 have kc2 : w2.cell? ⟨W.heap.size + 1 + 1, 2, none⟩ = some (.i dl):=(q2).cell 2
 have kc3 : w2.cell? ⟨W.heap.size + 1 + 1, 3, none⟩ = some (.bool wt):=(q2).cell 3
 have kc4 : w2.cell? ⟨W.heap.size + 1 + 1, 4, none⟩ = some (.bool fo):=(q2).cell 4
 have kc5 : w2.cell? ⟨W.heap.size + 1 + 1, 5, none⟩ = some (.i sl):=(q2).cell 5
 have kc6 : w2.cell? ⟨W.heap.size + 1 + 1, 6, none⟩ = some (.i ge):=(q2).cell 6
 have kc7 : w2.cell? ⟨W.heap.size + 1 + 1, 7, none⟩ = some (.i st):=(q2).cell 7
 have kc8 : w2.cell? ⟨W.heap.size + 1 + 1, 8, none⟩ = some (.i ks0):=(q2).cell 8
 have bc2 : w2.cell? ⟨W.heap.size, 0, none⟩ = some (.i n):=a2.cell 0
 have er2 : ERow w2 (W.heap.size + 1):=⟨_, rfl, e2⟩
 have c9:=r2.at'.hd.c9
 have hpast : ∀ nn, Calls Tryz.prog 50 #[.pointer (some ⟨p.cb, 0, none⟩), .i dl] (w2.drewN nn) fun e w' => e = .returned (.bool false) ∧ w' = w2.drewN nn:=fun nn => by
  have h1:=Clock.past_any (w2.drewN nn) ⟨p.cb, 0, none⟩ m.now dl r2.at'.clk
  rw [hdd] at h1
  exact h1.mono (fun e w' hh => ⟨hh.1, hh.2.symm⟩)
 have HPA:=Lib.hid hpast
 clear hpast hdd
 go_wp2_with fail
 go_quiet ((go_at_call 50; exact Calls.quiet_of_same (HPA.out _)))
 have r3:=r2.below (bdrewN (Below.refl _ _) nq)
 have er3:=er2.below (bdrewN (Below.refl _ _) nq)
 clear r2 er2 a2 q2 e2 c9 HPA kc0 kc1 kc2 kc3 kc4 kc5 kc6 kc7 kc8 bc2
 generalize hwz : w2.drewN nq = w3 at *
 clear hwz
 go_upto_region 4 with (fail)
 obtain ⟨Z, z1, z2⟩:=er3
 refine wp_region_lit ?_
 refine RowL.gl Ev.zero.val ?_ (by go_simp; try rfl)
 refine RowL.gSt z2 Ev.zero.cells 36 (.tmp 4) (.tmp 19) ?_ (hsz:=z1) (h1:=ev_one _)
 go_wp2_with fail
 refine bR2 (W.heap.size + 1) (z2.set _) Tryz.underlying36 ?_
 rw [HR.out]
 exact (r3.row (by omega) (by first | omega | (simp)) _).fin hB2 _
theorem m_wake {W : World} {p : Pl} {m : M} (h : MAt W p m) (who : Int) : Calls Tryz.prog 16 #[.pointer (some ⟨p.mb, 0, none⟩), .i who] W (MPost W p (.tuple #[(m.wake who).1.1.val, .bool (m.wake who).1.2]) (m.wake who).2):=by
 cases hw : m.has who
 ·exact m_wake_no h who hw
 obtain ⟨n, rfl⟩ : ∃ n : Nat, who = (n : Int):=by
  simp [M.has] at hw
  exact Int.eq_ofNat_of_zero_le hw.1
 have hnl : n < m.ks.length:=by simp [M.has] at hw; omega
 obtain ⟨k, hk⟩ : ∃ k, m.ks[n]? = some k:=⟨_, List.getElem?_eq_getElem hnl⟩
 obtain ⟨at0, ⟨op, dl, wt, fo, sl, ge, st⟩, ks0⟩:=k
 by_cases h3 : at0 = 3
 ·subst h3; exact m_wake_told h n op dl wt fo sl ge st ks0 hw hk
 by_cases h2 : at0 = 2
 ·subst h2
  have hgr:=h.ok.grants _ (List.mem_of_getElem? hk) rfl
  obtain ⟨i, hi⟩:=Int.eq_ofNat_of_zero_le hgr.1
  simp only at hi
  subst hi
  exact m_wake_granted h n i op dl wt fo sl ge st hw hk
 by_cases h1 : at0 = 1
 ·subst h1
  by_cases hd : dl ≤ m.now
  ·exact m_wake_late h n op dl wt fo sl ge st ks0 hw hk hd
  ·exact m_wake_soon h n op dl wt fo sl ge st ks0 hw hk hd
 ·exact m_wake_rest h n at0 op dl wt fo sl ge st ks0 hw hk h3 h2 h1
end Go.Proofs.YtpmkgddjgebojaaGreatDoor.Mod
