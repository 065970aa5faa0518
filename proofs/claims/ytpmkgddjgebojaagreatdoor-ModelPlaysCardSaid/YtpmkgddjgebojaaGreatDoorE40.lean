/- Part 40 of the walks and plain laws that the last text joins. -/
import Derived.Test.YtpmkgddjgebojaaGreatDoorE39
set_option maxRecDepth 100000
set_option maxHeartbeats 16000000
set_option linter.unusedVariables false
set_option linter.unusedSimpArgs false
namespace Go.Proofs.YtpmkgddjgebojaaGreatDoor.Mod
open Go.RowKit Hp Slot RowL Life R8
theorem took_state {s : S} {n : Nat} (h45 : s.state = 4 ∨ s.state = 5) (hr : s.right = true) (hw : s.own = (n : Int)) (hn : n < 9) : (step s 16 n 0).state = if s.state = 5 then 1 else 3:=by
 have ho : (0 : Int) ≤ (n : Int) ∧ (n : Int) ≤ 15:=by omega
 rcases h45 with h | h
 ·rw [step_take4 hr ho h hw, if_neg (by omega)]; rfl
 ·rw [step_take5 hr ho h hw, if_pos h]; rfl
theorem q_wake_granted {W : World} {p : Ql} {m : M} (h : QAt W p m) (n : Nat) (op dl : Int) (wt fo : Bool) (sl ge st ks0 : Int) (hk : m.ks[n]? = some ⟨2, ⟨op, dl, wt, fo, sl, ge, st⟩, ks0⟩) (hI : Mid m) :
  Calls Tryz.prog 17 #[.pointer (some ⟨p.mb, 0, none⟩), .i n] W (QPost W p (.tuple #[(m.wake n).1.1.val, .bool (m.wake n).1.2]) (m.wake n).2):=by
 obtain ⟨i, s, e1, hi, h45, hw, hrt, hn9⟩:=hI.granted hk rfl
 simp only at e1
 subst e1
 obtain ⟨i', s', t0, a0, -, -, -, -, -, hT2, hT3⟩:=took_of hI hk rfl
 simp only [Int.toNat_natCast] at hT2 hT3
 have HR0:=Lib.hid (show m.wake n = ((M.answered (m.take n i).1 n ⟨op, dl, wt, fo, sl, ge, st⟩, true), ((m.take n i).2.rest n).tidy) by rw [wake_of hk]; simp)
 have HB0 : RowKit.Hid (Busy ((m.take n i).2.rest n)):=Lib.hid (busy_rest hI (fun x hx => not_line hI hk (by simp) x (by rw [hT2] at hx; exact hx)) (by rw [hT2]))
 have HK0 : RowKit.Hid ((m.take n i).2.ks.length = m.ks.length):=Lib.hid (by rw [hT2])
 have HX00 : RowKit.Hid ((m.take n i).1.at' = 0):=Lib.hid (by
  rcases hT3 with ⟨-, -, -, -, h⟩ | ⟨-, -, ⟨h, -⟩ | h⟩ <;> rw [h] <;> rfl)
 have hss1 : (m.turn i 16 n 0).ss[i]? = some (step s 16 n 0):=turnL_get hi
 have HT : RowKit.Hid (m.take n i = takeEnd m (if s.state = 5 then (m.turn i 16 n 0).dial i n else ((m.turn i 16 n 0).leased i, m.turn i 16 n 0)) i):=Lib.hid (by
  rw [take_eq, M.slot_of hss1]
  have:=took_state h45 hrt hw hn9
  by_cases h5 : s.state = 5
  ·rw [if_pos h5] at this; rw [if_pos this, if_pos h5]
  ·rw [if_neg h5] at this; rw [if_neg (by omega), if_neg h5])
 have hns:=h.ok.ns
 have hil : i < m.ss.length:=(List.getElem?_eq_some_iff.1 hi).1
 have i0 : (0 : Int) ≤ (i : Int):=by omega
 have i16 : (i : Int) < 16:=by omega
 have z1 : ¬ (i : Int) + 1 = 0:=by omega
 have z2 : ((i : Int) + 1 == 0) = false:=by simp; omega
 have z3 : ¬ (i : Int) + 1 = -1:=by omega
 have z4 : ((i : Int) + 1 == -1) = false:=by simp; omega
 have z5 : (0 : Int) < (i : Int) + 1:=by omega
 have HCB:=Lib.hid h.ok.closed
 have HI:=Lib.hid hi
 have HS1:=Lib.hid hss1
 have HH:=Lib.hid h
 clear hI hw hrt hT2 hT3 hi hss1 hn9 i' s' t0 a0
 generalize m.wake n = R at *
 generalize m.take n i = T at *
 have hnl : n < m.ks.length:=(List.getElem?_eq_some_iff.1 hk).1
 have hB : Below W.heap.size W ((W.alloc (.cells Zv 36)).alloc (.cells (Ai true false (i + 1) op dl wt fo sl ge st) 97)):=((Below.refl _ _).alloc (Nat.le_refl _) _).alloc (by simp) _
 have r0 : Rq W.heap.size ((W.alloc (.cells Zv 36)).alloc (.cells (Ai true false (i + 1) op dl wt fo sl ge st) 97)) p ((W.alloc (.cells Zv 36)).alloc (.cells (Ai true false (i + 1) op dl wt fo sl ge st) 97)) p m:=Rq.begin h hB
 have e0 : ERow ((W.alloc (.cells Zv 36)).alloc (.cells (Ai true false (i + 1) op dl wt fo sl ge st) 97)) W.heap.size:=⟨Zv, rfl, heap_alloc2_old W _ _⟩
 have b0 : RowAt ((W.alloc (.cells Zv 36)).alloc (.cells (Ai true false (i + 1) op dl wt fo sl ge st) 97)) (W.heap.size + 1) (Ai true false (i + 1) op dl wt fo sl ge st) 97:=heap_alloc2_new W _ _
 have hg1 : W.heap.size < ((W.alloc (.cells Zv 36)).alloc (.cells (Ai true false (i + 1) op dl wt fo sl ge st) 97)).heap.size:=by simp; omega
 have hgb1 : W.heap.size + 1 < ((W.alloc (.cells Zv 36)).alloc (.cells (Ai true false (i + 1) op dl wt fo sl ge st) 97)).heap.size:=by simp
 have hgb0 : W.heap.size ≤ W.heap.size + 1:=by omega
 have hlt : p.mb < W.heap.size:=h.lt (.inl rfl)
 have hkt : p.kb < W.heap.size:=h.lt (.inr (.inr (.inl rfl)))
 have k6:=h.hd.c6
 have hnk:=h.ok.nk
 have g0 : W.cell? ⟨p.kb, n * 10, none⟩ = some (.bool true):=h.works.1 n _ hk 0 _ rfl
 have g1 : W.cell? ⟨p.kb, n * 10 + 1, none⟩ = some (.bool false):=h.works.1 n _ hk 1 _ rfl
 have g2 : W.cell? ⟨p.kb, n * 10 + 2, none⟩ = some (.i (i + 1)):=h.works.1 n _ hk 2 _ rfl
 have g3 : W.cell? ⟨p.kb, n * 10 + 3, none⟩ = some (.i op):=h.works.1 n _ hk 3 _ rfl
 have g4 : W.cell? ⟨p.kb, n * 10 + 4, none⟩ = some (.i dl):=h.works.1 n _ hk 4 _ rfl
 have g5 : W.cell? ⟨p.kb, n * 10 + 5, none⟩ = some (.bool wt):=h.works.1 n _ hk 5 _ rfl
 have g6 : W.cell? ⟨p.kb, n * 10 + 6, none⟩ = some (.bool fo):=h.works.1 n _ hk 6 _ rfl
 have g7 : W.cell? ⟨p.kb, n * 10 + 7, none⟩ = some (.i sl):=h.works.1 n _ hk 7 _ rfl
 have g8 : W.cell? ⟨p.kb, n * 10 + 8, none⟩ = some (.i ge):=h.works.1 n _ hk 8 _ rfl
 have g9 : W.cell? ⟨p.kb, n * 10 + 9, none⟩ = some (.i st):=h.works.1 n _ hk 9 _ rfl
 have n0 : (0 : Int) ≤ (n : Int):=by omega
 have n1 : (n : Int) < (m.ks.length : Int):=by omega
 have n2 : (n : Int) ≤ (m.ks.length : Int) - 1:=by omega
 have n3 : ¬ (n : Int) < 0:=by omega
 have n4 : ¬ (m.ks.length : Int) ≤ (n : Int):=by omega
 have HK:=Lib.hid hk
 clear h hk
 go_enter Tryz.func17, Tryz.ntmps17
 go_upto_region 4 with (fail)
 generalize ((W.alloc (.cells Zv 36)).alloc (.cells (Ai true false (i + 1) op dl wt fo sl ge st) 97)) = wb at *
 clear g0 g1 g2 g3 g4 g5 g6 g7 g8 g9 k6 n3 n4
 have c0 : wb.cell? ⟨W.heap.size + 1, 0, none⟩ = some (.bool true):=b0.cell 0
 have c2 : wb.cell? ⟨W.heap.size + 1, 2, none⟩ = some (.i (i + 1)):=b0.cell 2
 have c4 : wb.cell? ⟨W.heap.size + 1, 4, none⟩ = some (.i dl):=b0.cell 4
 have k9:=r0.at'.hd.c9
 go_quiet (fail)
 have hbq : Below wb.heap.size wb (wb.drewN nq):=bdrewN (Below.refl _ _) nq
 have r1:=r0.below hbq
 have e1:=e0.below hbq
 have b1:=b0.below hbq
 have HBQ:=Lib.hid hbq
 clear r0 e0 b0 c0 c2 c4 k9 hbq
 generalize wb.drewN nq = w1 at *
 go_upto_region 6 with (fail)
 refine wp_region_lit ?_
 refine RowL.wpList_run rfl (.agg Zf) (by kernel_rfl) ?_
 refine wpList_mk rfl (.pointer (some ⟨w1.heap.size, 0, none⟩)) (.cells Zv 36) (by go_simp; try rfl) ?_
 refine RowL.gSt (RowAt.new w1 Zv 36) Zf 36 (.tmp 7) (.tmp 50) ?_
 have hcx : Chg (fun k => k = w1.heap.size) w1 ((w1.alloc (.cells Zv 36)).setRow w1.heap.size Zf):=chg_setRow ((Chg.refl _ _).alloc _) _ _ (fun _ => rfl)
 have hbx:=hcx.below (Nat.le_refl _) (fun k hk => by rw [hk]; exact Nat.le_refl _)
 have r2:=r1.below hbx
 have e2:=e1.below hbx
 have b2:=b1.below hbx
 have x2:=(RowAt.new w1 Zv 36).set Zf
 have hxb : ¬ qfp p w1.heap.size:=fun hk => by have:=r1.at'.lt hk; omega
 have hxw : W.heap.size + 1 < w1.heap.size:=b1.lt
 have hwx : W.heap.size ≤ w1.heap.size:=by omega
 have hB2 : Below W.heap.size W ((w1.alloc (.cells Zv 36)).setRow w1.heap.size Zf):=(hB.trans (HBQ.out.mono hB.size)).trans (hbx.mono (by omega))
 have hgx : w1.heap.size < ((w1.alloc (.cells Zv 36)).setRow w1.heap.size Zf).heap.size:=x2.lt
 clear hbx hcx r1 e1 b1
 generalize (w1.alloc (.cells Zv 36)).setRow w1.heap.size Zf = w2 at *
 generalize w1.heap.size = xb at *
 have d1 : w2.cell? ⟨W.heap.size + 1, 1, none⟩ = some (.bool false):=b2.cell 1
 have d2 : w2.cell? ⟨W.heap.size + 1, 2, none⟩ = some (.i (i + 1)):=b2.cell 2
 clear hxb r2
 clear hB hg1 hgb1
 have hB:=hB2
 have r2 : Rq W.heap.size w2 p w2 p m:=Rq.begin HH.out hB
 have hxge : W.heap.size ≤ xb:=hwx
 have hgb1 : W.heap.size + 1 < w2.heap.size:=b2.lt
 have hg1 : W.heap.size < w2.heap.size:=by omega
 have hne0 : ¬ W.heap.size = xb:=by omega
 have hne1 : ¬ W.heap.size + 1 = xb:=by omega
 clear hB2
 have k5:=r2.at'.hd.c5
 have hd:=(r2.at'.slots.get HI.out).1
 have j1 : (i : Int) < (m.ss.length : Int):=by omega
 have j2 : (i : Int) ≤ (m.ss.length : Int) - 1:=by omega
 have ht:=q_do r2.at' i 16 i 16 n 0 s HI.out rfl rfl (by simp [Mod.Done])
 by_cases h5 : s.state = 5
 ·have h5' : (s.state == 5) = true:=by simp [h5]
  have HTR:=Lib.hid (show (if s.state = 5 then (m.turn i 16 n 0).dial i n else ((m.turn i 16 n 0).leased i, m.turn i 16 n 0)) = (m.turn i 16 n 0).dial i n from if_pos h5)
  rw [h5] at hd
  clear h45 h5
  go_wp2_with fail
  refine ht.mono ?_
  rintro e w3 ⟨rfl, h3, hc3⟩
  have r3:=r2.slots h3 hc3
  have e3:=e2.chg hc3 (fun e => r2.not (Nat.le_refl _) hg1 (.inr (.inl e)))
  have b3:=b2.chg hc3 (fun e => r2.not hgb0 hgb1 (.inr (.inl e)))
  have x3:=x2.chg hc3 (fun e => r2.not hxge hgx (.inr (.inl e)))
  have hle:=q_leased r3.at' i i _ HS1.out rfl
  have hdi:=fun W h => q_dialed (W:=W) (p:=p) (m:=m.turn i 16 n 0) h i i n _ HS1.out rfl
  have HDS : RowKit.Hid (∃ s', (m.turn i 16 n 0).ss[i]? = some s'):=Lib.hid ⟨_, HS1.out⟩
  have HDD : RowKit.Hid (∃ s', ((m.turn i 16 n 0).dial i n).2.ss[i]? = some s'):=Lib.hid (by rw [dial_ss]; exact ⟨_, turnL_get HS1.out⟩)
  have HC1 : RowKit.Hid ((m.turn i 16 n 0).closed = m.closed):=Lib.hid rfl
  have HC2 : RowKit.Hid (((m.turn i 16 n 0).dial i n).2.closed = m.closed):=Lib.hid (dial_closed _ _ _)
  clear ht h3 hc3 r2 e2 b2 x2 HS1 hd k5 d1 d2
  generalize (m.turn i 16 n 0).leased i = x1 at *
  generalize (m.turn i 16 n 0).dial i n = rd at *
  generalize m.turn i 16 n 0 = m1 at *
  obtain ⟨xd, md⟩:=rd
  simp only at HDD HC2 hdi
  go_wp2_with fail
  refine hle.mono ?_
  rintro e w4 ⟨rfl, hb4⟩
  have r4:=r3.below hb4
  have e4:=e3.below hb4
  have b4:=b3.below hb4
  have x4:=x3.below hb4
  have E4 : ERow w4 xb:=⟨_, rfl, x4⟩
  have hst:=E4.store x1
  have hsz:=ev_size x1
  have r5:=r4.row hxge hgx x1.cells
  have e5:=e4.chg (chg_setRow (F:=fun k => k = xb) (Chg.refl _ _) xb x1.cells (fun _ => rfl)) hne0
  have b5:=b4.chg (chg_setRow (F:=fun k => k = xb) (Chg.refl _ _) xb x1.cells (fun _ => rfl)) hne1
  have x5:=E4.set x1
  clear hle hb4 r3 e3 b3 x3 r4 e4 b4 x4 E4
  have hd5:=hdi _ r5.at'
  have HST:=Lib.hid hst
  go_wp2_with fail
  generalize w4.setRow xb x1.cells = w5 at *
  refine hd5.mono ?_
  rintro e w6 hp
  obtain ⟨rfl, p6, r6, hc6⟩:=r5.post hp
  have e6:=e5.chg hc6 (r5.not (Nat.le_refl _) hg1)
  have b6:=b5.chg hc6 (r5.not hgb0 hgb1)
  have x6:=x5.chg hc6 (r5.not hxge hgx)
  have E6 : ERow w6 xb:=⟨_, ev_size x1, x6⟩
  have hst6:=E6.store xd
  have hsz6:=ev_size xd
  have r7:=r6.row hxge hgx xd.cells
  have e7:=e6.chg (chg_setRow (F:=fun k => k = xb) (Chg.refl _ _) xb xd.cells (fun _ => rfl)) hne0
  have b7:=b6.chg (chg_setRow (F:=fun k => k = xb) (Chg.refl _ _) xb xd.cells (fun _ => rfl)) hne1
  have x7:=E6.set xd
  clear hd5 hdi hp hc6 r5 e5 b5 x5 r6 e6 b6 x6 E6
  go_upto_region 24 with (fail)
  clear hst6 hsz6
  generalize w6.setRow xb xd.cells = w7 at *
  have k8:=r7.at'.hd.c8
  rw [r7.mb, HC2.out] at k8
  have l10 : w7.cell? ⟨xb, 10, none⟩ = some (.i (Ev.e xd)):=x7.cell 10
  have hcb:=HCB.out
  by_cases he : Ev.e xd = 0
  ·by_cases hc : m.closed = 0
   ·have hc' : ¬ (0 : Int) < m.closed:=by omega
    have HT2 : RowKit.Hid (T = (xd, md)):=Lib.hid (by rw [HT.out, HTR.out]; unfold takeEnd; rw [if_neg (by simp [hc])])
    rw [he] at l10
    clear hcb hc
    go_upto_region 27 with (fail)
    clear k8 l10 he hc'
    generalize w7 = w9 at *
    have HR2 : RowKit.Hid (R = ((M.answered xd n ⟨op, dl, wt, fo, sl, ge, st⟩, true), (M.rest md n).tidy)):=Lib.hid (by rw [HR0.out, HT2.out])
    have HBU : RowKit.Hid (Busy (M.rest md n)):=Lib.hid (by have:=HB0.out; rw [HT2.out] at this; exact this)
    have HKS : RowKit.Hid ((M.ks md).length = m.ks.length):=Lib.hid (by have:=HK0.out; rw [HT2.out] at this; exact this)
    have HX0 : RowKit.Hid (Ev.at' xd = 0):=Lib.hid (by have:=HX00.out; rw [HT2.out] at this; exact this)
    have hxne:=r7.not hxge hgx
    have k6:=r7.at'.hd.c6
    rw [r7.mb, r7.kb, HKS.out] at k6
    have hth : w9.there p.kb (n * 10) 10:=by have:=WaitAt.there r7.at'.works (i:=n) (by rw [HKS.out]; omega); rwa [r7.kb] at this
    have hset : Chg (fun k => k = p.kb) w9 (w9.setCells p.kb (n * 10) Zw.toList):=chg_setCells _ _ _ _
    have hW7:=r7.at'.works.setL (i:=n) (by rw [HKS.out]; omega) Wk.zero
    rw [r7.kb] at hW7
    have hA7:=r7.at'.toWorks (W':=w9.setCells p.kb (n * 10) Zw.toList) (by rw [r7.kb]; exact hset) (by rw [r7.kb]; exact hW7) (by simp) (by
     intro k hk h2
     rcases List.mem_or_eq_of_mem_set hk with hk | rfl
     ·exact r7.at'.ok.grants k hk h2
     ·simp [Wk.zero] at h2)
    have r7:=r7.works hA7 (by rw [r7.kb]; exact hset)
    have e7:=e7.chg hset (fun e => r7.not (Nat.le_refl _) hg1 (by rw [← r7.kb] at e; exact .inr (.inr (.inl e))))
    have b7:=b7.chg hset (fun e => r7.not hgb0 hgb1 (by rw [← r7.kb] at e; exact .inr (.inr (.inl e))))
    have x7:=x7.chg hset (fun e => hxne (by rw [e, ← r7.kb]; exact .inr (.inr (.inl rfl))))
    have hbu : Busy (md.rest n):=HBU.out
    have ht:=q_tidy r7.at' hbu
    rw [r7.mb] at ht
    clear hW7 hA7 hbu
    refine wp_region_lit ?_
    refine RowL.gl (.pointer (some ⟨p.mb, 0, none⟩)) ?_ (by go_simp; try rfl)
    refine RowL.gl (.pointer (some ⟨p.mb, 0, none⟩)) ?_ (by go_simp; try rfl)
    refine RowL.gl (.pointer (some ⟨p.mb, 6, none⟩)) ?_ (by go_simp; try rfl)
    refine RowL.gl (.slice (some ⟨p.kb, 0, none⟩) m.ks.length m.ks.length) ?_ (by go_simp; try rfl)
    refine RowL.gl (.i (n : Int)) ?_ (by go_simp; try rfl)
    refine RowL.wpList_run rfl (.agg Zw) (by kernel_rfl) ?_
    refine RowL.gl (.pointer (some ⟨p.kb, n * 10, none⟩)) ?_ (by go_simp; try rfl)
    refine wpList_store_mid rfl 97 (.tmp 136) (.tmp 135) rfl p.kb (n * 10) Zw (by kernel_rfl) (by kernel_rfl) hth (by kernel_rfl) (by kernel_rfl) ?_
    have hno : ¬ qfp _ xb:=hxne
    clear hth hset k6
    generalize w9.setCells p.kb (n * 10) Zw.toList = w10 at *
    go_wp2_with fail
    refine ht.mono ?_
    rintro e w11 ⟨v4, hp⟩
    obtain ⟨rfl, p8, r8, hc8⟩:=r7.post hp
    have e8:=e7.chg hc8 (r7.not (Nat.le_refl _) hg1)
    have b8:=b7.chg hc8 (r7.not hgb0 hgb1)
    have x8:=x7.chg hc8 hno
    have htl:=fun w => told_any w xd n ⟨op, dl, wt, fo, sl, ge, st⟩
    have hta : ({ M.answered xd n ⟨op, dl, wt, fo, sl, ge, st⟩ with at':=(xd).at' } : Ev) = M.answered xd n ⟨op, dl, wt, fo, sl, ge, st⟩:=by rw [HX0.out]; rfl
    rw [hta] at htl
    have hra : w11.rangeAt (W.heap.size + 1) 3 [.i op, .i dl, .bool wt, .bool fo, .i sl, .i ge, .i st]:=by
     intro jj v hv
     have h1 : ((Ai true false (i + 1) op dl wt fo sl ge st).toList.drop 3)[jj]? = some v:=hv
     rw [List.getElem?_drop] at h1
     have h2:=b8.cell (3 + jj)
     rw [← Array.getElem?_toList, h1] at h2
     exact h2
    clear ht hp hc8 r7 e7 b7 x7 hta hno
    go_upto_region 29 with (fail)
    refine wp_region_lit ?_
    refine RowL.wpList_load_row rfl 36 (.tmp 7) rfl xb _ (xd).cells _ (by kernel_rfl) x8 Tryz.underlying36 rfl (by kernel_rfl) ?_
    refine RowL.gl (.i (n : Int)) ?_ (by go_simp; try rfl)
    refine RowL.gl (.pointer (some ⟨W.heap.size + 1, 3, none⟩)) ?_ (by go_simp; try rfl)
    refine wpList_load_mid rfl 25 (.tmp 141) rfl (W.heap.size + 1) 3 (by kernel_rfl) [.i op, .i dl, .bool wt, .bool fo, .i sl, .i ge, .i st] _ hra Tryz.underlying25 rfl (by kernel_rfl) ?_
    generalize M.answered xd n ⟨op, dl, wt, fo, sl, ge, st⟩ = y at *
    simp only [Ask.val, Ask.cells] at htl
    go_wp2_with fail
    refine (htl _).mono ?_
    rintro e w12 ⟨rfl, hb12⟩
    have r9:=r8.below hb12
    have e9:=e8.below hb12
    have hst:=e9.store y
    have hsz:=ev_size y
    clear htl hb12 r8 e8 b8 x8 hra
    go_wp2_with fail
    refine bR2 W.heap.size (e9.set y) Tryz.underlying36 ?_
    rw [HR2.out]
    exact (r9.row (Nat.le_refl _) hg1 y.cells).fin hB _
   ·have hc' : (0 : Int) < m.closed:=by omega
    have HT2 : RowKit.Hid (T = (M.failed 5, M.empty md i)):=Lib.hid (by rw [HT.out, HTR.out]; unfold takeEnd; rw [if_pos ⟨he, hc⟩])
    obtain ⟨s7, hs7⟩:=HDD.out
    have hem:=q_empty r7.at' i i s7 hs7 rfl
    rw [r7.mb] at hem
    rw [he] at l10
    clear hcb hc hs7
    go_wp2_with fail
    refine hem.mono ?_
    rintro e w8 ⟨⟨v8, rfl⟩, h8, hc8⟩
    have r8:=r7.slots h8 hc8
    have e8:=e7.chg hc8 (fun e => r7.not (Nat.le_refl _) hg1 (.inr (.inl e)))
    have b8:=b7.chg hc8 (fun e => r7.not hgb0 hgb1 (.inr (.inl e)))
    have x8:=x7.chg hc8 (fun e => r7.not hxge hgx (.inr (.inl e)))
    clear hem h8 hc8 k8 l10 he hc'
    go_upto_region 26 with (fail)
    refine wp_region_lit ?_
    refine RowL.wpList_run rfl (.agg Zg) (by kernel_rfl) ?_
    refine RowL.gSt x8 Zg 36 (.tmp 7) (.tmp 129) ?_
    have r9:=r8.row hxge hgx Zg
    have e9:=e8.chg (chg_setRow (F:=fun k => k = xb) (Chg.refl _ _) xb Zg (fun _ => rfl)) hne0
    have b9:=b8.chg (chg_setRow (F:=fun k => k = xb) (Chg.refl _ _) xb Zg (fun _ => rfl)) hne1
    have x9 : RowAt (w8.setRow xb Zg) xb (M.failed 5).cells 36:=x8.set _
    clear r8 e8 b8 x8
    go_upto_region 27 with (fail)
    generalize w8.setRow xb Zg = w9 at *
    have HR2 : RowKit.Hid (R = ((M.answered (M.failed 5) n ⟨op, dl, wt, fo, sl, ge, st⟩, true), (M.rest (M.empty md i) n).tidy)):=Lib.hid (by rw [HR0.out, HT2.out])
    have HBU : RowKit.Hid (Busy (M.rest (M.empty md i) n)):=Lib.hid (by have:=HB0.out; rw [HT2.out] at this; exact this)
    have HKS : RowKit.Hid ((M.ks (M.empty md i)).length = m.ks.length):=Lib.hid (by have:=HK0.out; rw [HT2.out] at this; exact this)
    have HX0 : RowKit.Hid (Ev.at' (M.failed 5) = 0):=Lib.hid (by have:=HX00.out; rw [HT2.out] at this; exact this)
    have hxne:=r9.not hxge hgx
    have k6:=r9.at'.hd.c6
    rw [r9.mb, r9.kb, HKS.out] at k6
    have hth : w9.there p.kb (n * 10) 10:=by have:=WaitAt.there r9.at'.works (i:=n) (by rw [HKS.out]; omega); rwa [r9.kb] at this
    have hset : Chg (fun k => k = p.kb) w9 (w9.setCells p.kb (n * 10) Zw.toList):=chg_setCells _ _ _ _
    have hW7:=r9.at'.works.setL (i:=n) (by rw [HKS.out]; omega) Wk.zero
    rw [r9.kb] at hW7
    have hA7:=r9.at'.toWorks (W':=w9.setCells p.kb (n * 10) Zw.toList) (by rw [r9.kb]; exact hset) (by rw [r9.kb]; exact hW7) (by simp) (by
     intro k hk h2
     rcases List.mem_or_eq_of_mem_set hk with hk | rfl
     ·exact r9.at'.ok.grants k hk h2
     ·simp [Wk.zero] at h2)
    have r7:=r9.works hA7 (by rw [r9.kb]; exact hset)
    have e7:=e9.chg hset (fun e => r9.not (Nat.le_refl _) hg1 (by rw [← r9.kb] at e; exact .inr (.inr (.inl e))))
    have b7:=b9.chg hset (fun e => r9.not hgb0 hgb1 (by rw [← r9.kb] at e; exact .inr (.inr (.inl e))))
    have x7:=x9.chg hset (fun e => hxne (by rw [e, ← r9.kb]; exact .inr (.inr (.inl rfl))))
    have hbu : Busy ((M.empty md i).rest n):=HBU.out
    have ht:=q_tidy r7.at' hbu
    rw [r7.mb] at ht
    clear hW7 hA7 hbu
    refine wp_region_lit ?_
    refine RowL.gl (.pointer (some ⟨p.mb, 0, none⟩)) ?_ (by go_simp; try rfl)
    refine RowL.gl (.pointer (some ⟨p.mb, 0, none⟩)) ?_ (by go_simp; try rfl)
    refine RowL.gl (.pointer (some ⟨p.mb, 6, none⟩)) ?_ (by go_simp; try rfl)
    refine RowL.gl (.slice (some ⟨p.kb, 0, none⟩) m.ks.length m.ks.length) ?_ (by go_simp; try rfl)
    refine RowL.gl (.i (n : Int)) ?_ (by go_simp; try rfl)
    refine RowL.wpList_run rfl (.agg Zw) (by kernel_rfl) ?_
    refine RowL.gl (.pointer (some ⟨p.kb, n * 10, none⟩)) ?_ (by go_simp; try rfl)
    refine wpList_store_mid rfl 97 (.tmp 136) (.tmp 135) rfl p.kb (n * 10) Zw (by kernel_rfl) (by kernel_rfl) hth (by kernel_rfl) (by kernel_rfl) ?_
    have hno : ¬ qfp _ xb:=hxne
    clear hth hset k6
    generalize w9.setCells p.kb (n * 10) Zw.toList = w10 at *
    go_wp2_with fail
    refine ht.mono ?_
    rintro e w11 ⟨v4, hp⟩
    obtain ⟨rfl, p8, r8, hc8⟩:=r7.post hp
    have e8:=e7.chg hc8 (r7.not (Nat.le_refl _) hg1)
    have b8:=b7.chg hc8 (r7.not hgb0 hgb1)
    have x8:=x7.chg hc8 hno
    have htl:=fun w => told_any w (M.failed 5) n ⟨op, dl, wt, fo, sl, ge, st⟩
    have hta : ({ M.answered (M.failed 5) n ⟨op, dl, wt, fo, sl, ge, st⟩ with at':=((M.failed 5)).at' } : Ev) = M.answered (M.failed 5) n ⟨op, dl, wt, fo, sl, ge, st⟩:=by rw [HX0.out]; rfl
    rw [hta] at htl
    have hra : w11.rangeAt (W.heap.size + 1) 3 [.i op, .i dl, .bool wt, .bool fo, .i sl, .i ge, .i st]:=by
     intro jj v hv
     have h1 : ((Ai true false (i + 1) op dl wt fo sl ge st).toList.drop 3)[jj]? = some v:=hv
     rw [List.getElem?_drop] at h1
     have h2:=b8.cell (3 + jj)
     rw [← Array.getElem?_toList, h1] at h2
     exact h2
    clear ht hp hc8 r7 e7 b7 x7 hta hno
    go_upto_region 29 with (fail)
    refine wp_region_lit ?_
    refine RowL.wpList_load_row rfl 36 (.tmp 7) rfl xb _ ((M.failed 5)).cells _ (by kernel_rfl) x8 Tryz.underlying36 rfl (by kernel_rfl) ?_
    refine RowL.gl (.i (n : Int)) ?_ (by go_simp; try rfl)
    refine RowL.gl (.pointer (some ⟨W.heap.size + 1, 3, none⟩)) ?_ (by go_simp; try rfl)
    refine wpList_load_mid rfl 25 (.tmp 141) rfl (W.heap.size + 1) 3 (by kernel_rfl) [.i op, .i dl, .bool wt, .bool fo, .i sl, .i ge, .i st] _ hra Tryz.underlying25 rfl (by kernel_rfl) ?_
    generalize M.answered (M.failed 5) n ⟨op, dl, wt, fo, sl, ge, st⟩ = y at *
    simp only [Ask.val, Ask.cells] at htl
    go_wp2_with fail
    refine (htl _).mono ?_
    rintro e w12 ⟨rfl, hb12⟩
    have r9:=r8.below hb12
    have e9:=e8.below hb12
    have hst:=e9.store y
    have hsz:=ev_size y
    clear htl hb12 r8 e8 b8 x8 hra
    go_wp2_with fail
    refine bR2 W.heap.size (e9.set y) Tryz.underlying36 ?_
    rw [HR2.out]
    exact (r9.row (Nat.le_refl _) hg1 y.cells).fin hB _
  ·have HT2 : RowKit.Hid (T = (xd, md)):=Lib.hid (by rw [HT.out, HTR.out]; unfold takeEnd; rw [if_neg (by simp [he])])
   clear hcb
   go_upto_region 27 with (fail)
   clear k8 l10 he
   generalize w7 = w9 at *
   have HR2 : RowKit.Hid (R = ((M.answered xd n ⟨op, dl, wt, fo, sl, ge, st⟩, true), (M.rest md n).tidy)):=Lib.hid (by rw [HR0.out, HT2.out])
   have HBU : RowKit.Hid (Busy (M.rest md n)):=Lib.hid (by have:=HB0.out; rw [HT2.out] at this; exact this)
   have HKS : RowKit.Hid ((M.ks md).length = m.ks.length):=Lib.hid (by have:=HK0.out; rw [HT2.out] at this; exact this)
   have HX0 : RowKit.Hid (Ev.at' xd = 0):=Lib.hid (by have:=HX00.out; rw [HT2.out] at this; exact this)
   have hxne:=r7.not hxge hgx
   have k6:=r7.at'.hd.c6
   rw [r7.mb, r7.kb, HKS.out] at k6
   have hth : w9.there p.kb (n * 10) 10:=by have:=WaitAt.there r7.at'.works (i:=n) (by rw [HKS.out]; omega); rwa [r7.kb] at this
   have hset : Chg (fun k => k = p.kb) w9 (w9.setCells p.kb (n * 10) Zw.toList):=chg_setCells _ _ _ _
   have hW7:=r7.at'.works.setL (i:=n) (by rw [HKS.out]; omega) Wk.zero
   rw [r7.kb] at hW7
   have hA7:=r7.at'.toWorks (W':=w9.setCells p.kb (n * 10) Zw.toList) (by rw [r7.kb]; exact hset) (by rw [r7.kb]; exact hW7) (by simp) (by
    intro k hk h2
    rcases List.mem_or_eq_of_mem_set hk with hk | rfl
    ·exact r7.at'.ok.grants k hk h2
    ·simp [Wk.zero] at h2)
   have r7:=r7.works hA7 (by rw [r7.kb]; exact hset)
   have e7:=e7.chg hset (fun e => r7.not (Nat.le_refl _) hg1 (by rw [← r7.kb] at e; exact .inr (.inr (.inl e))))
   have b7:=b7.chg hset (fun e => r7.not hgb0 hgb1 (by rw [← r7.kb] at e; exact .inr (.inr (.inl e))))
   have x7:=x7.chg hset (fun e => hxne (by rw [e, ← r7.kb]; exact .inr (.inr (.inl rfl))))
   have hbu : Busy (md.rest n):=HBU.out
   have ht:=q_tidy r7.at' hbu
   rw [r7.mb] at ht
   clear hW7 hA7 hbu
   refine wp_region_lit ?_
   refine RowL.gl (.pointer (some ⟨p.mb, 0, none⟩)) ?_ (by go_simp; try rfl)
   refine RowL.gl (.pointer (some ⟨p.mb, 0, none⟩)) ?_ (by go_simp; try rfl)
   refine RowL.gl (.pointer (some ⟨p.mb, 6, none⟩)) ?_ (by go_simp; try rfl)
   refine RowL.gl (.slice (some ⟨p.kb, 0, none⟩) m.ks.length m.ks.length) ?_ (by go_simp; try rfl)
   refine RowL.gl (.i (n : Int)) ?_ (by go_simp; try rfl)
   refine RowL.wpList_run rfl (.agg Zw) (by kernel_rfl) ?_
   refine RowL.gl (.pointer (some ⟨p.kb, n * 10, none⟩)) ?_ (by go_simp; try rfl)
   refine wpList_store_mid rfl 97 (.tmp 136) (.tmp 135) rfl p.kb (n * 10) Zw (by kernel_rfl) (by kernel_rfl) hth (by kernel_rfl) (by kernel_rfl) ?_
   have hno : ¬ qfp _ xb:=hxne
   clear hth hset k6
   generalize w9.setCells p.kb (n * 10) Zw.toList = w10 at *
   go_wp2_with fail
   refine ht.mono ?_
   rintro e w11 ⟨v4, hp⟩
   obtain ⟨rfl, p8, r8, hc8⟩:=r7.post hp
   have e8:=e7.chg hc8 (r7.not (Nat.le_refl _) hg1)
   have b8:=b7.chg hc8 (r7.not hgb0 hgb1)
   have x8:=x7.chg hc8 hno
   have htl:=fun w => told_any w xd n ⟨op, dl, wt, fo, sl, ge, st⟩
   have hta : ({ M.answered xd n ⟨op, dl, wt, fo, sl, ge, st⟩ with at':=(xd).at' } : Ev) = M.answered xd n ⟨op, dl, wt, fo, sl, ge, st⟩:=by rw [HX0.out]; rfl
   rw [hta] at htl
   have hra : w11.rangeAt (W.heap.size + 1) 3 [.i op, .i dl, .bool wt, .bool fo, .i sl, .i ge, .i st]:=by
    intro jj v hv
    have h1 : ((Ai true false (i + 1) op dl wt fo sl ge st).toList.drop 3)[jj]? = some v:=hv
    rw [List.getElem?_drop] at h1
    have h2:=b8.cell (3 + jj)
    rw [← Array.getElem?_toList, h1] at h2
    exact h2
   clear ht hp hc8 r7 e7 b7 x7 hta hno
   go_upto_region 29 with (fail)
   refine wp_region_lit ?_
   refine RowL.wpList_load_row rfl 36 (.tmp 7) rfl xb _ (xd).cells _ (by kernel_rfl) x8 Tryz.underlying36 rfl (by kernel_rfl) ?_
   refine RowL.gl (.i (n : Int)) ?_ (by go_simp; try rfl)
   refine RowL.gl (.pointer (some ⟨W.heap.size + 1, 3, none⟩)) ?_ (by go_simp; try rfl)
   refine wpList_load_mid rfl 25 (.tmp 141) rfl (W.heap.size + 1) 3 (by kernel_rfl) [.i op, .i dl, .bool wt, .bool fo, .i sl, .i ge, .i st] _ hra Tryz.underlying25 rfl (by kernel_rfl) ?_
   generalize M.answered xd n ⟨op, dl, wt, fo, sl, ge, st⟩ = y at *
   simp only [Ask.val, Ask.cells] at htl
   go_wp2_with fail
   refine (htl _).mono ?_
   rintro e w12 ⟨rfl, hb12⟩
   have r9:=r8.below hb12
   have e9:=e8.below hb12
   have hst:=e9.store y
   have hsz:=ev_size y
   clear htl hb12 r8 e8 b8 x8 hra
   go_wp2_with fail
   refine bR2 W.heap.size (e9.set y) Tryz.underlying36 ?_
   rw [HR2.out]
   exact (r9.row (Nat.le_refl _) hg1 y.cells).fin hB _
 ·have h5' : (s.state == 5) = false:=by simp [h5]
  have HTR:=Lib.hid (show (if s.state = 5 then (m.turn i 16 n 0).dial i n else ((m.turn i 16 n 0).leased i, m.turn i 16 n 0)) = ((m.turn i 16 n 0).leased i, m.turn i 16 n 0) from if_neg h5)
  have h4 : s.state = 4:=by omega
  rw [h4] at hd
  clear h45 h5
  go_wp2_with fail
  refine ht.mono ?_
  rintro e w3 ⟨rfl, h3, hc3⟩
  have r3:=r2.slots h3 hc3
  have e3:=e2.chg hc3 (fun e => r2.not (Nat.le_refl _) hg1 (.inr (.inl e)))
  have b3:=b2.chg hc3 (fun e => r2.not hgb0 hgb1 (.inr (.inl e)))
  have x3:=x2.chg hc3 (fun e => r2.not hxge hgx (.inr (.inl e)))
  have hle:=q_leased r3.at' i i _ HS1.out rfl
  have hdi:=fun W h => q_dialed (W:=W) (p:=p) (m:=m.turn i 16 n 0) h i i n _ HS1.out rfl
  have HDS : RowKit.Hid (∃ s', (m.turn i 16 n 0).ss[i]? = some s'):=Lib.hid ⟨_, HS1.out⟩
  have HDD : RowKit.Hid (∃ s', ((m.turn i 16 n 0).dial i n).2.ss[i]? = some s'):=Lib.hid (by rw [dial_ss]; exact ⟨_, turnL_get HS1.out⟩)
  have HC1 : RowKit.Hid ((m.turn i 16 n 0).closed = m.closed):=Lib.hid rfl
  have HC2 : RowKit.Hid (((m.turn i 16 n 0).dial i n).2.closed = m.closed):=Lib.hid (dial_closed _ _ _)
  clear ht h3 hc3 r2 e2 b2 x2 HS1 hd k5 d1 d2
  generalize (m.turn i 16 n 0).leased i = x1 at *
  generalize (m.turn i 16 n 0).dial i n = rd at *
  generalize m.turn i 16 n 0 = m1 at *
  obtain ⟨xd, md⟩:=rd
  simp only at HDD HC2 hdi
  go_wp2_with fail
  refine hle.mono ?_
  rintro e w4 ⟨rfl, hb4⟩
  have r4:=r3.below hb4
  have e4:=e3.below hb4
  have b4:=b3.below hb4
  have x4:=x3.below hb4
  have E4 : ERow w4 xb:=⟨_, rfl, x4⟩
  have hst:=E4.store x1
  have hsz:=ev_size x1
  have r5:=r4.row hxge hgx x1.cells
  have e5:=e4.chg (chg_setRow (F:=fun k => k = xb) (Chg.refl _ _) xb x1.cells (fun _ => rfl)) hne0
  have b5:=b4.chg (chg_setRow (F:=fun k => k = xb) (Chg.refl _ _) xb x1.cells (fun _ => rfl)) hne1
  have x5:=E4.set x1
  clear hle hb4 r3 e3 b3 x3 r4 e4 b4 x4 E4
  clear hdi
  go_upto_region 24 with (fail)
  clear hst hsz
  generalize w4.setRow xb x1.cells = w7 at *
  have k8:=r5.at'.hd.c8
  rw [r5.mb, HC1.out] at k8
  have l10 : w7.cell? ⟨xb, 10, none⟩ = some (.i (Ev.e x1)):=x5.cell 10
  have hcb:=HCB.out
  by_cases he : Ev.e x1 = 0
  ·by_cases hc : m.closed = 0
   ·have hc' : ¬ (0 : Int) < m.closed:=by omega
    have HT2 : RowKit.Hid (T = (x1, m1)):=Lib.hid (by rw [HT.out, HTR.out]; unfold takeEnd; rw [if_neg (by simp [hc])])
    rw [he] at l10
    clear hcb hc
    go_upto_region 27 with (fail)
    clear k8 l10 he hc'
    generalize w7 = w9 at *
    have HR2 : RowKit.Hid (R = ((M.answered x1 n ⟨op, dl, wt, fo, sl, ge, st⟩, true), (M.rest m1 n).tidy)):=Lib.hid (by rw [HR0.out, HT2.out])
    have HBU : RowKit.Hid (Busy (M.rest m1 n)):=Lib.hid (by have:=HB0.out; rw [HT2.out] at this; exact this)
    have HKS : RowKit.Hid ((M.ks m1).length = m.ks.length):=Lib.hid (by have:=HK0.out; rw [HT2.out] at this; exact this)
    have HX0 : RowKit.Hid (Ev.at' x1 = 0):=Lib.hid (by have:=HX00.out; rw [HT2.out] at this; exact this)
    have hxne:=r5.not hxge hgx
    have k6:=r5.at'.hd.c6
    rw [r5.mb, r5.kb, HKS.out] at k6
    have hth : w9.there p.kb (n * 10) 10:=by have:=WaitAt.there r5.at'.works (i:=n) (by rw [HKS.out]; omega); rwa [r5.kb] at this
    have hset : Chg (fun k => k = p.kb) w9 (w9.setCells p.kb (n * 10) Zw.toList):=chg_setCells _ _ _ _
    have hW7:=r5.at'.works.setL (i:=n) (by rw [HKS.out]; omega) Wk.zero
    rw [r5.kb] at hW7
    have hA7:=r5.at'.toWorks (W':=w9.setCells p.kb (n * 10) Zw.toList) (by rw [r5.kb]; exact hset) (by rw [r5.kb]; exact hW7) (by simp) (by
     intro k hk h2
     rcases List.mem_or_eq_of_mem_set hk with hk | rfl
     ·exact r5.at'.ok.grants k hk h2
     ·simp [Wk.zero] at h2)
    have r7:=r5.works hA7 (by rw [r5.kb]; exact hset)
    have e7:=e5.chg hset (fun e => r5.not (Nat.le_refl _) hg1 (by rw [← r5.kb] at e; exact .inr (.inr (.inl e))))
    have b7:=b5.chg hset (fun e => r5.not hgb0 hgb1 (by rw [← r5.kb] at e; exact .inr (.inr (.inl e))))
    have x7:=x5.chg hset (fun e => hxne (by rw [e, ← r5.kb]; exact .inr (.inr (.inl rfl))))
    have hbu : Busy (m1.rest n):=HBU.out
    have ht:=q_tidy r7.at' hbu
    rw [r7.mb] at ht
    clear hW7 hA7 hbu
    refine wp_region_lit ?_
    refine RowL.gl (.pointer (some ⟨p.mb, 0, none⟩)) ?_ (by go_simp; try rfl)
    refine RowL.gl (.pointer (some ⟨p.mb, 0, none⟩)) ?_ (by go_simp; try rfl)
    refine RowL.gl (.pointer (some ⟨p.mb, 6, none⟩)) ?_ (by go_simp; try rfl)
    refine RowL.gl (.slice (some ⟨p.kb, 0, none⟩) m.ks.length m.ks.length) ?_ (by go_simp; try rfl)
    refine RowL.gl (.i (n : Int)) ?_ (by go_simp; try rfl)
    refine RowL.wpList_run rfl (.agg Zw) (by kernel_rfl) ?_
    refine RowL.gl (.pointer (some ⟨p.kb, n * 10, none⟩)) ?_ (by go_simp; try rfl)
    refine wpList_store_mid rfl 97 (.tmp 136) (.tmp 135) rfl p.kb (n * 10) Zw (by kernel_rfl) (by kernel_rfl) hth (by kernel_rfl) (by kernel_rfl) ?_
    have hno : ¬ qfp _ xb:=hxne
    clear hth hset k6
    generalize w9.setCells p.kb (n * 10) Zw.toList = w10 at *
    go_wp2_with fail
    refine ht.mono ?_
    rintro e w11 ⟨v4, hp⟩
    obtain ⟨rfl, p8, r8, hc8⟩:=r7.post hp
    have e8:=e7.chg hc8 (r7.not (Nat.le_refl _) hg1)
    have b8:=b7.chg hc8 (r7.not hgb0 hgb1)
    have x8:=x7.chg hc8 hno
    have htl:=fun w => told_any w x1 n ⟨op, dl, wt, fo, sl, ge, st⟩
    have hta : ({ M.answered x1 n ⟨op, dl, wt, fo, sl, ge, st⟩ with at':=(x1).at' } : Ev) = M.answered x1 n ⟨op, dl, wt, fo, sl, ge, st⟩:=by rw [HX0.out]; rfl
    rw [hta] at htl
    have hra : w11.rangeAt (W.heap.size + 1) 3 [.i op, .i dl, .bool wt, .bool fo, .i sl, .i ge, .i st]:=by
     intro jj v hv
     have h1 : ((Ai true false (i + 1) op dl wt fo sl ge st).toList.drop 3)[jj]? = some v:=hv
     rw [List.getElem?_drop] at h1
     have h2:=b8.cell (3 + jj)
     rw [← Array.getElem?_toList, h1] at h2
     exact h2
    clear ht hp hc8 r7 e7 b7 x7 hta hno
    go_upto_region 29 with (fail)
    refine wp_region_lit ?_
    refine RowL.wpList_load_row rfl 36 (.tmp 7) rfl xb _ (x1).cells _ (by kernel_rfl) x8 Tryz.underlying36 rfl (by kernel_rfl) ?_
    refine RowL.gl (.i (n : Int)) ?_ (by go_simp; try rfl)
    refine RowL.gl (.pointer (some ⟨W.heap.size + 1, 3, none⟩)) ?_ (by go_simp; try rfl)
    refine wpList_load_mid rfl 25 (.tmp 141) rfl (W.heap.size + 1) 3 (by kernel_rfl) [.i op, .i dl, .bool wt, .bool fo, .i sl, .i ge, .i st] _ hra Tryz.underlying25 rfl (by kernel_rfl) ?_
    generalize M.answered x1 n ⟨op, dl, wt, fo, sl, ge, st⟩ = y at *
    simp only [Ask.val, Ask.cells] at htl
    go_wp2_with fail
    refine (htl _).mono ?_
    rintro e w12 ⟨rfl, hb12⟩
    have r9:=r8.below hb12
    have e9:=e8.below hb12
    have hst:=e9.store y
    have hsz:=ev_size y
    clear htl hb12 r8 e8 b8 x8 hra
    go_wp2_with fail
    refine bR2 W.heap.size (e9.set y) Tryz.underlying36 ?_
    rw [HR2.out]
    exact (r9.row (Nat.le_refl _) hg1 y.cells).fin hB _
   ·have hc' : (0 : Int) < m.closed:=by omega
    have HT2 : RowKit.Hid (T = (M.failed 5, M.empty m1 i)):=Lib.hid (by rw [HT.out, HTR.out]; unfold takeEnd; rw [if_pos ⟨he, hc⟩])
    obtain ⟨s7, hs7⟩:=HDS.out
    have hem:=q_empty r5.at' i i s7 hs7 rfl
    rw [r5.mb] at hem
    rw [he] at l10
    clear hcb hc hs7
    go_wp2_with fail
    refine hem.mono ?_
    rintro e w8 ⟨⟨v8, rfl⟩, h8, hc8⟩
    have r8:=r5.slots h8 hc8
    have e8:=e5.chg hc8 (fun e => r5.not (Nat.le_refl _) hg1 (.inr (.inl e)))
    have b8:=b5.chg hc8 (fun e => r5.not hgb0 hgb1 (.inr (.inl e)))
    have x8:=x5.chg hc8 (fun e => r5.not hxge hgx (.inr (.inl e)))
    clear hem h8 hc8 k8 l10 he hc'
    go_upto_region 26 with (fail)
    refine wp_region_lit ?_
    refine RowL.wpList_run rfl (.agg Zg) (by kernel_rfl) ?_
    refine RowL.gSt x8 Zg 36 (.tmp 7) (.tmp 129) ?_
    have r9:=r8.row hxge hgx Zg
    have e9:=e8.chg (chg_setRow (F:=fun k => k = xb) (Chg.refl _ _) xb Zg (fun _ => rfl)) hne0
    have b9:=b8.chg (chg_setRow (F:=fun k => k = xb) (Chg.refl _ _) xb Zg (fun _ => rfl)) hne1
    have x9 : RowAt (w8.setRow xb Zg) xb (M.failed 5).cells 36:=x8.set _
    clear r8 e8 b8 x8
    go_upto_region 27 with (fail)
    generalize w8.setRow xb Zg = w9 at *
    have HR2 : RowKit.Hid (R = ((M.answered (M.failed 5) n ⟨op, dl, wt, fo, sl, ge, st⟩, true), (M.rest (M.empty m1 i) n).tidy)):=Lib.hid (by rw [HR0.out, HT2.out])
    have HBU : RowKit.Hid (Busy (M.rest (M.empty m1 i) n)):=Lib.hid (by have:=HB0.out; rw [HT2.out] at this; exact this)
    have HKS : RowKit.Hid ((M.ks (M.empty m1 i)).length = m.ks.length):=Lib.hid (by have:=HK0.out; rw [HT2.out] at this; exact this)
    have HX0 : RowKit.Hid (Ev.at' (M.failed 5) = 0):=Lib.hid (by have:=HX00.out; rw [HT2.out] at this; exact this)
    have hxne:=r9.not hxge hgx
    have k6:=r9.at'.hd.c6
    rw [r9.mb, r9.kb, HKS.out] at k6
    have hth : w9.there p.kb (n * 10) 10:=by have:=WaitAt.there r9.at'.works (i:=n) (by rw [HKS.out]; omega); rwa [r9.kb] at this
    have hset : Chg (fun k => k = p.kb) w9 (w9.setCells p.kb (n * 10) Zw.toList):=chg_setCells _ _ _ _
    have hW7:=r9.at'.works.setL (i:=n) (by rw [HKS.out]; omega) Wk.zero
    rw [r9.kb] at hW7
    have hA7:=r9.at'.toWorks (W':=w9.setCells p.kb (n * 10) Zw.toList) (by rw [r9.kb]; exact hset) (by rw [r9.kb]; exact hW7) (by simp) (by
     intro k hk h2
     rcases List.mem_or_eq_of_mem_set hk with hk | rfl
     ·exact r9.at'.ok.grants k hk h2
     ·simp [Wk.zero] at h2)
    have r7:=r9.works hA7 (by rw [r9.kb]; exact hset)
    have e7:=e9.chg hset (fun e => r9.not (Nat.le_refl _) hg1 (by rw [← r9.kb] at e; exact .inr (.inr (.inl e))))
    have b7:=b9.chg hset (fun e => r9.not hgb0 hgb1 (by rw [← r9.kb] at e; exact .inr (.inr (.inl e))))
    have x7:=x9.chg hset (fun e => hxne (by rw [e, ← r9.kb]; exact .inr (.inr (.inl rfl))))
    have hbu : Busy ((M.empty m1 i).rest n):=HBU.out
    have ht:=q_tidy r7.at' hbu
    rw [r7.mb] at ht
    clear hW7 hA7 hbu
    refine wp_region_lit ?_
    refine RowL.gl (.pointer (some ⟨p.mb, 0, none⟩)) ?_ (by go_simp; try rfl)
    refine RowL.gl (.pointer (some ⟨p.mb, 0, none⟩)) ?_ (by go_simp; try rfl)
    refine RowL.gl (.pointer (some ⟨p.mb, 6, none⟩)) ?_ (by go_simp; try rfl)
    refine RowL.gl (.slice (some ⟨p.kb, 0, none⟩) m.ks.length m.ks.length) ?_ (by go_simp; try rfl)
    refine RowL.gl (.i (n : Int)) ?_ (by go_simp; try rfl)
    refine RowL.wpList_run rfl (.agg Zw) (by kernel_rfl) ?_
    refine RowL.gl (.pointer (some ⟨p.kb, n * 10, none⟩)) ?_ (by go_simp; try rfl)
    refine wpList_store_mid rfl 97 (.tmp 136) (.tmp 135) rfl p.kb (n * 10) Zw (by kernel_rfl) (by kernel_rfl) hth (by kernel_rfl) (by kernel_rfl) ?_
    have hno : ¬ qfp _ xb:=hxne
    clear hth hset k6
    generalize w9.setCells p.kb (n * 10) Zw.toList = w10 at *
    go_wp2_with fail
    refine ht.mono ?_
    rintro e w11 ⟨v4, hp⟩
    obtain ⟨rfl, p8, r8, hc8⟩:=r7.post hp
    have e8:=e7.chg hc8 (r7.not (Nat.le_refl _) hg1)
    have b8:=b7.chg hc8 (r7.not hgb0 hgb1)
    have x8:=x7.chg hc8 hno
    have htl:=fun w => told_any w (M.failed 5) n ⟨op, dl, wt, fo, sl, ge, st⟩
    have hta : ({ M.answered (M.failed 5) n ⟨op, dl, wt, fo, sl, ge, st⟩ with at':=((M.failed 5)).at' } : Ev) = M.answered (M.failed 5) n ⟨op, dl, wt, fo, sl, ge, st⟩:=by rw [HX0.out]; rfl
    rw [hta] at htl
    have hra : w11.rangeAt (W.heap.size + 1) 3 [.i op, .i dl, .bool wt, .bool fo, .i sl, .i ge, .i st]:=by
     intro jj v hv
     have h1 : ((Ai true false (i + 1) op dl wt fo sl ge st).toList.drop 3)[jj]? = some v:=hv
     rw [List.getElem?_drop] at h1
     have h2:=b8.cell (3 + jj)
     rw [← Array.getElem?_toList, h1] at h2
     exact h2
    clear ht hp hc8 r7 e7 b7 x7 hta hno
    go_upto_region 29 with (fail)
    refine wp_region_lit ?_
    refine RowL.wpList_load_row rfl 36 (.tmp 7) rfl xb _ ((M.failed 5)).cells _ (by kernel_rfl) x8 Tryz.underlying36 rfl (by kernel_rfl) ?_
    refine RowL.gl (.i (n : Int)) ?_ (by go_simp; try rfl)
    refine RowL.gl (.pointer (some ⟨W.heap.size + 1, 3, none⟩)) ?_ (by go_simp; try rfl)
    refine wpList_load_mid rfl 25 (.tmp 141) rfl (W.heap.size + 1) 3 (by kernel_rfl) [.i op, .i dl, .bool wt, .bool fo, .i sl, .i ge, .i st] _ hra Tryz.underlying25 rfl (by kernel_rfl) ?_
    generalize M.answered (M.failed 5) n ⟨op, dl, wt, fo, sl, ge, st⟩ = y at *
    simp only [Ask.val, Ask.cells] at htl
    go_wp2_with fail
    refine (htl _).mono ?_
    rintro e w12 ⟨rfl, hb12⟩
    have r9:=r8.below hb12
    have e9:=e8.below hb12
    have hst:=e9.store y
    have hsz:=ev_size y
    clear htl hb12 r8 e8 b8 x8 hra
    go_wp2_with fail
    refine bR2 W.heap.size (e9.set y) Tryz.underlying36 ?_
    rw [HR2.out]
    exact (r9.row (Nat.le_refl _) hg1 y.cells).fin hB _
  ·have HT2 : RowKit.Hid (T = (x1, m1)):=Lib.hid (by rw [HT.out, HTR.out]; unfold takeEnd; rw [if_neg (by simp [he])])
   clear hcb
   go_upto_region 27 with (fail)
   clear k8 l10 he
   generalize w7 = w9 at *
   have HR2 : RowKit.Hid (R = ((M.answered x1 n ⟨op, dl, wt, fo, sl, ge, st⟩, true), (M.rest m1 n).tidy)):=Lib.hid (by rw [HR0.out, HT2.out])
   have HBU : RowKit.Hid (Busy (M.rest m1 n)):=Lib.hid (by have:=HB0.out; rw [HT2.out] at this; exact this)
   have HKS : RowKit.Hid ((M.ks m1).length = m.ks.length):=Lib.hid (by have:=HK0.out; rw [HT2.out] at this; exact this)
   have HX0 : RowKit.Hid (Ev.at' x1 = 0):=Lib.hid (by have:=HX00.out; rw [HT2.out] at this; exact this)
   have hxne:=r5.not hxge hgx
   have k6:=r5.at'.hd.c6
   rw [r5.mb, r5.kb, HKS.out] at k6
   have hth : w9.there p.kb (n * 10) 10:=by have:=WaitAt.there r5.at'.works (i:=n) (by rw [HKS.out]; omega); rwa [r5.kb] at this
   have hset : Chg (fun k => k = p.kb) w9 (w9.setCells p.kb (n * 10) Zw.toList):=chg_setCells _ _ _ _
   have hW7:=r5.at'.works.setL (i:=n) (by rw [HKS.out]; omega) Wk.zero
   rw [r5.kb] at hW7
   have hA7:=r5.at'.toWorks (W':=w9.setCells p.kb (n * 10) Zw.toList) (by rw [r5.kb]; exact hset) (by rw [r5.kb]; exact hW7) (by simp) (by
    intro k hk h2
    rcases List.mem_or_eq_of_mem_set hk with hk | rfl
    ·exact r5.at'.ok.grants k hk h2
    ·simp [Wk.zero] at h2)
   have r7:=r5.works hA7 (by rw [r5.kb]; exact hset)
   have e7:=e5.chg hset (fun e => r5.not (Nat.le_refl _) hg1 (by rw [← r5.kb] at e; exact .inr (.inr (.inl e))))
   have b7:=b5.chg hset (fun e => r5.not hgb0 hgb1 (by rw [← r5.kb] at e; exact .inr (.inr (.inl e))))
   have x7:=x5.chg hset (fun e => hxne (by rw [e, ← r5.kb]; exact .inr (.inr (.inl rfl))))
   have hbu : Busy (m1.rest n):=HBU.out
   have ht:=q_tidy r7.at' hbu
   rw [r7.mb] at ht
   clear hW7 hA7 hbu
   refine wp_region_lit ?_
   refine RowL.gl (.pointer (some ⟨p.mb, 0, none⟩)) ?_ (by go_simp; try rfl)
   refine RowL.gl (.pointer (some ⟨p.mb, 0, none⟩)) ?_ (by go_simp; try rfl)
   refine RowL.gl (.pointer (some ⟨p.mb, 6, none⟩)) ?_ (by go_simp; try rfl)
   refine RowL.gl (.slice (some ⟨p.kb, 0, none⟩) m.ks.length m.ks.length) ?_ (by go_simp; try rfl)
   refine RowL.gl (.i (n : Int)) ?_ (by go_simp; try rfl)
   refine RowL.wpList_run rfl (.agg Zw) (by kernel_rfl) ?_
   refine RowL.gl (.pointer (some ⟨p.kb, n * 10, none⟩)) ?_ (by go_simp; try rfl)
   refine wpList_store_mid rfl 97 (.tmp 136) (.tmp 135) rfl p.kb (n * 10) Zw (by kernel_rfl) (by kernel_rfl) hth (by kernel_rfl) (by kernel_rfl) ?_
   have hno : ¬ qfp _ xb:=hxne
   clear hth hset k6
   generalize w9.setCells p.kb (n * 10) Zw.toList = w10 at *
   go_wp2_with fail
   refine ht.mono ?_
   rintro e w11 ⟨v4, hp⟩
   obtain ⟨rfl, p8, r8, hc8⟩:=r7.post hp
   have e8:=e7.chg hc8 (r7.not (Nat.le_refl _) hg1)
   have b8:=b7.chg hc8 (r7.not hgb0 hgb1)
   have x8:=x7.chg hc8 hno
   have htl:=fun w => told_any w x1 n ⟨op, dl, wt, fo, sl, ge, st⟩
   have hta : ({ M.answered x1 n ⟨op, dl, wt, fo, sl, ge, st⟩ with at':=(x1).at' } : Ev) = M.answered x1 n ⟨op, dl, wt, fo, sl, ge, st⟩:=by rw [HX0.out]; rfl
   rw [hta] at htl
   have hra : w11.rangeAt (W.heap.size + 1) 3 [.i op, .i dl, .bool wt, .bool fo, .i sl, .i ge, .i st]:=by
    intro jj v hv
    have h1 : ((Ai true false (i + 1) op dl wt fo sl ge st).toList.drop 3)[jj]? = some v:=hv
    rw [List.getElem?_drop] at h1
    have h2:=b8.cell (3 + jj)
    rw [← Array.getElem?_toList, h1] at h2
    exact h2
   clear ht hp hc8 r7 e7 b7 x7 hta hno
   go_upto_region 29 with (fail)
   refine wp_region_lit ?_
   refine RowL.wpList_load_row rfl 36 (.tmp 7) rfl xb _ (x1).cells _ (by kernel_rfl) x8 Tryz.underlying36 rfl (by kernel_rfl) ?_
   refine RowL.gl (.i (n : Int)) ?_ (by go_simp; try rfl)
   refine RowL.gl (.pointer (some ⟨W.heap.size + 1, 3, none⟩)) ?_ (by go_simp; try rfl)
   refine wpList_load_mid rfl 25 (.tmp 141) rfl (W.heap.size + 1) 3 (by kernel_rfl) [.i op, .i dl, .bool wt, .bool fo, .i sl, .i ge, .i st] _ hra Tryz.underlying25 rfl (by kernel_rfl) ?_
   generalize M.answered x1 n ⟨op, dl, wt, fo, sl, ge, st⟩ = y at *
   simp only [Ask.val, Ask.cells] at htl
   go_wp2_with fail
   refine (htl _).mono ?_
   rintro e w12 ⟨rfl, hb12⟩
   have r9:=r8.below hb12
   have e9:=e8.below hb12
   have hst:=e9.store y
   have hsz:=ev_size y
   clear htl hb12 r8 e8 b8 x8 hra
   go_wp2_with fail
   refine bR2 W.heap.size (e9.set y) Tryz.underlying36 ?_
   rw [HR2.out]
   exact (r9.row (Nat.le_refl _) hg1 y.cells).fin hB _
end Go.Proofs.YtpmkgddjgebojaaGreatDoor.Mod
