/- Part 41 of the walks and plain laws that the last text joins. -/
import Derived.Test.YtpmkgddjgebojaaGreatDoorE39
set_option maxRecDepth 100000
set_option maxHeartbeats 16000000
set_option linter.unusedVariables false
set_option linter.unusedSimpArgs false
namespace Go.Proofs.YtpmkgddjgebojaaGreatDoor.Mod
open Go.RowKit Hp Slot RowL Life R8
def lf (l : List Int) (n k : Nat) : List Int:=(l.take k).filter (fun o => o != (n : Int))
theorem lf_len (l : List Int) (n k : Nat) : (lf l n k).length ≤ l.length:=Nat.le_trans (List.length_filter_le _ _) (by simp; omega)
theorem lf_skip {l : List Int} {n k : Nat} {o : Int} (h : l[k]? = some o) (hq : o = (n : Int)) : lf l n (k + 1) = lf l n k:=by
 unfold lf; rw [List.take_add_one, h, List.filter_append]; simp [hq]
theorem lf_more {l : List Int} {n k : Nat} {o : Int} (h : l[k]? = some o) (hq : ¬ o = (n : Int)) : lf l n (k + 1) = lf l n k ++ [o]:=by
 unfold lf; rw [List.take_add_one, h, List.filter_append]; simp [hq]
theorem _root_.Go.Proofs.YtpmkgddjgebojaaGreatDoor.Hp.OwnS.nil0 (w : World) : OwnS w (.slice none 0 0) 0 1 []:=⟨rfl, .inl ⟨rfl, rfl⟩⟩
theorem q_wake_late {W : World} {p : Ql} {m : M} (h : QAt W p m) (n : Nat) (op dl : Int) (wt fo : Bool) (sl ge st ks0 : Int) (hk : m.ks[n]? = some ⟨1, ⟨op, dl, wt, fo, sl, ge, st⟩, ks0⟩) (hI : Mid m) (hd : dl ≤ m.now) :
  Calls Tryz.prog 17 #[.pointer (some ⟨p.mb, 0, none⟩), .i n] W (QPost W p (.tuple #[(m.wake n).1.1.val, .bool (m.wake n).1.2]) (m.wake n).2):=by
 have HR2:=Lib.hid (show m.wake n = ((M.answered (M.failed 4) n ⟨op, dl, wt, fo, sl, ge, st⟩, true), (M.rest { m with line:=m.line.filter (fun o => o != (n : Int)) } n).tidy) by rw [wake_of hk]; simp [hd])
 have HBU : RowKit.Hid (Busy (M.rest { m with line:=m.line.filter (fun o => o != (n : Int)) } n)):=Lib.hid (busy_rest (m':={ m with line:=m.line.filter (fun o => o != (n : Int)) }) hI (fun x hx => by
  obtain ⟨h1, h2⟩:=List.mem_filter.1 hx
  exact ⟨h1, by simpa using h2⟩) rfl)
 have hdd : ¬ m.now < dl:=by omega
 clear hI
 generalize m.wake n = R at *
 have hnl : n < m.ks.length:=(List.getElem?_eq_some_iff.1 hk).1
 have hB : Below W.heap.size W ((W.alloc (.cells Zv 36)).alloc (.cells (Ai true true 0 op dl wt fo sl ge st) 97)):=((Below.refl _ _).alloc (Nat.le_refl _) _).alloc (by simp) _
 have r0 : Rq W.heap.size ((W.alloc (.cells Zv 36)).alloc (.cells (Ai true true 0 op dl wt fo sl ge st) 97)) p ((W.alloc (.cells Zv 36)).alloc (.cells (Ai true true 0 op dl wt fo sl ge st) 97)) p m:=Rq.begin h hB
 have e0 : ERow ((W.alloc (.cells Zv 36)).alloc (.cells (Ai true true 0 op dl wt fo sl ge st) 97)) W.heap.size:=⟨Zv, rfl, heap_alloc2_old W _ _⟩
 have b0 : RowAt ((W.alloc (.cells Zv 36)).alloc (.cells (Ai true true 0 op dl wt fo sl ge st) 97)) (W.heap.size + 1) (Ai true true 0 op dl wt fo sl ge st) 97:=heap_alloc2_new W _ _
 have hg1 : W.heap.size < ((W.alloc (.cells Zv 36)).alloc (.cells (Ai true true 0 op dl wt fo sl ge st) 97)).heap.size:=by simp; omega
 have hgb1 : W.heap.size + 1 < ((W.alloc (.cells Zv 36)).alloc (.cells (Ai true true 0 op dl wt fo sl ge st) 97)).heap.size:=by simp
 have hgb0 : W.heap.size ≤ W.heap.size + 1:=by omega
 have hlt : p.mb < W.heap.size:=h.lt (.inl rfl)
 have hkt : p.kb < W.heap.size:=h.lt (.inr (.inr (.inl rfl)))
 have k6:=h.hd.c6
 have hnk:=h.ok.nk
 have g0 : W.cell? ⟨p.kb, n * 10, none⟩ = some (.bool true):=h.works.1 n _ hk 0 _ rfl
 have g1 : W.cell? ⟨p.kb, n * 10 + 1, none⟩ = some (.bool true):=h.works.1 n _ hk 1 _ rfl
 have g2 : W.cell? ⟨p.kb, n * 10 + 2, none⟩ = some (.i 0):=h.works.1 n _ hk 2 _ rfl
 have g3 : W.cell? ⟨p.kb, n * 10 + 3, none⟩ = some (.i op):=h.works.1 n _ hk 3 _ rfl
 have g4 : W.cell? ⟨p.kb, n * 10 + 4, none⟩ = some (.i dl):=h.works.1 n _ hk 4 _ rfl
 have g5 : W.cell? ⟨p.kb, n * 10 + 5, none⟩ = some (.bool wt):=h.works.1 n _ hk 5 _ rfl
 have g6 : W.cell? ⟨p.kb, n * 10 + 6, none⟩ = some (.bool fo):=h.works.1 n _ hk 6 _ rfl
 have g7 : W.cell? ⟨p.kb, n * 10 + 7, none⟩ = some (.i sl):=h.works.1 n _ hk 7 _ rfl
 have g8 : W.cell? ⟨p.kb, n * 10 + 8, none⟩ = some (.i ge):=h.works.1 n _ hk 8 _ rfl
 have g9 : W.cell? ⟨p.kb, n * 10 + 9, none⟩ = some (.i st):=h.works.1 n _ hk 9 _ rfl
 have n0 : (0 : Int) ≤ (n : Int):=by omega
 have n1 : (n : Int) < (m.ks.length : Int):=by omega
 have n2 : (n : Int) ≤ (m.ks.length : Int) - 1:=by omega
 have n3 : ¬ (n : Int) < 0:=by omega
 have n4 : ¬ (m.ks.length : Int) ≤ (n : Int):=by omega
 have HK:=Lib.hid hk
 clear h hk
 go_enter Tryz.func17, Tryz.ntmps17
 go_upto_region 4 with (fail)
 generalize ((W.alloc (.cells Zv 36)).alloc (.cells (Ai true true 0 op dl wt fo sl ge st) 97)) = wb at *
 clear g0 g1 g2 g3 g4 g5 g6 g7 g8 g9 k6 n3 n4
 have c0 : wb.cell? ⟨W.heap.size + 1, 0, none⟩ = some (.bool true):=b0.cell 0
 have c2 : wb.cell? ⟨W.heap.size + 1, 2, none⟩ = some (.i 0):=b0.cell 2
 have c4 : wb.cell? ⟨W.heap.size + 1, 4, none⟩ = some (.i dl):=b0.cell 4
 have k9:=r0.at'.hd.c9
 go_quiet (fail)
 have hbq : Below wb.heap.size wb (wb.drewN nq):=bdrewN (Below.refl _ _) nq
 have r1:=r0.below hbq
 have e1:=e0.below hbq
 have b1:=b0.below hbq
 clear r0 e0 b0 c0 c2 c4 k9 hbq
 generalize wb.drewN nq = w1 at *
 clear hdd hd
 go_upto_region 6 with (fail)
 refine wp_region_lit ?_
 refine RowL.wpList_run rfl (.agg Zf) (by kernel_rfl) ?_
 refine wpList_mk rfl (.pointer (some ⟨w1.heap.size, 0, none⟩)) (.cells Zv 36) (by go_simp; try rfl) ?_
 refine RowL.gSt (RowAt.new w1 Zv 36) Zf 36 (.tmp 7) (.tmp 50) ?_
 have hcx : Chg (fun k => k = w1.heap.size) w1 ((w1.alloc (.cells Zv 36)).setRow w1.heap.size Zf):=chg_setRow ((Chg.refl _ _).alloc _) _ _ (fun _ => rfl)
 have hbx:=hcx.below (Nat.le_refl _) (fun k hk => by rw [hk]; exact Nat.le_refl _)
 have r2:=r1.below hbx
 have e2:=e1.below hbx
 have b2:=b1.below hbx
 have x2:=(RowAt.new w1 Zv 36).set Zf
 have hxb : ¬ qfp p w1.heap.size:=fun hk => by have:=r1.at'.lt hk; omega
 have hxw : W.heap.size + 1 < w1.heap.size:=b1.lt
 have hwx : W.heap.size ≤ w1.heap.size:=by omega
 clear hbx hcx r1 e1 b1
 generalize (w1.alloc (.cells Zv 36)).setRow w1.heap.size Zf = w2 at *
 generalize w1.heap.size = xb at *
 have d1 : w2.cell? ⟨W.heap.size + 1, 1, none⟩ = some (.bool true):=b2.cell 1
 have d2 : w2.cell? ⟨W.heap.size + 1, 2, none⟩ = some (.i 0):=b2.cell 2
 have hfew:=r2.at'.ok.few
 go_upto_region 10 with (fail)
 clear d1 d2
 go_wp2_with fail
 have R2:=Lib.hid r2
 have E2:=Lib.hid e2
 have B2:=Lib.hid b2
 have X2:=Lib.hid x2
 have hxl : xb < w2.heap.size:=x2.lt
 have hbl : W.heap.size + 1 < w2.heap.size:=b2.lt
 have hql : ∀ k, qfp p k → k < w2.heap.size:=fun k hk => r2.at'.lt hk
 go_loopw [8, 9] (fun lv iv wr => ∃ w', w' = wr ∧ ∃ (k : Nat) (v : Value), k ≤ m.line.length ∧ iv = .i k ∧ v = lv ∧ OwnS w' v (lf m.line n k).length 1 ((lf m.line n k).map (Value.int .i64)) ∧ (∀ j, Fp v j → w2.heap.size ≤ j) ∧ Below w2.heap.size w2 w') (fun _ iv _ => m.line.length - (intOf iv).toNat)
 case atStart => exact ⟨_, rfl, 0, _, by omega, rfl, rfl, OwnS.nil0 _, fun j hj => (fp_nil _ hj).elim, Below.refl _ _⟩
 case round =>
  clear r2 e2 b2 x2
  obtain ⟨wr2, rfl, k, v, hk, rfl, rfl, ho, hF, hb⟩:=hrel
  have r3:=R2.out.below hb
  have hsz:=hb.size
  have k7:=r3.at'.hd.c7
  have f7:=r3.at'.hd.f7
  have i0 : (0 : Int) ≤ (k : Int):=by omega
  obtain ⟨va, vc, hv⟩:=ho.form
  by_cases hlt : k < m.line.length
  ·obtain ⟨o, hol⟩ : ∃ o, m.line[k]? = some o:=⟨_, List.getElem?_eq_getElem hlt⟩
   obtain ⟨g, off, cap, hlv0, hcap1, hcap2, hgC, hcl, hfz, hxs⟩:=r3.at'.own.some (by omega)
   rw [hlv0] at k7
   have hx0 : wr2.cell? ⟨g, off + k, none⟩ = some (.i o):=hxs k _ (by simp [hol])
   have i1 : (k : Int) < (m.line.length : Int):=by omega
   have i2 : (k : Int) ≤ (m.line.length : Int) - 1:=by omega
   have hlv:=Lib.hid hlv0
   clear hcl hfz hxs hlv0
   by_cases hq : o = (n : Int)
   ·have hst : lf m.line n (k + 1) = lf m.line n k:=lf_skip hol hq
    have HST:=Lib.hid hst
    have hq1 : (o != (n : Int)) = false:=by simp [hq]
    have hq2 : decide (o = (n : Int)) = true:=by simp [hq]
    have ho':=Lib.hid ho
    subst hv
    clear hst ho
    go_wp2_with fail
    go_round
    case rel => exact ⟨_, rfl, k + 1, _, by omega, rfl, rfl, by rw [HST.out]; exact ho'.out, hF, hb⟩
    case measure => simp [intOf] <;> omega
   ·have hst : lf m.line n (k + 1) = lf m.line n k ++ [o]:=lf_more hol hq
    have HST:=Lib.hid hst
    have hq1 : (o != (n : Int)) = true:=by simp [hq]
    have hq2 : decide (o = (n : Int)) = false:=by simp [hq]
    have hfl : (lf m.line n k).length ≤ 8:=by have:=lf_len m.line n k; omega
    obtain ⟨i0', hi, hz0, hz1, hz2⟩:=info_parts int_info
    have hown : OwnS (wr2.alloc (.cells #[.i o] 3)) v (lf m.line n k).length 1 ((lf m.line n k).map (Value.int .i64)):=OwnS.alloc ho _
    rw [hv] at hown
    have HFv:=Lib.hid hF
    clear hst ho hF
    subst hv
    go_wp2_with (at_builtin; refine Hp.wpList_append _ rfl _ _ 43 rfl 3 i0' (.i 0) 1 8 Tryz.underlying43 hi hz0 hz1 hz2 rfl (by decide) _ _ _ rfl hown ⟨wr2.heap.size, 0, none⟩ 1 1 [.i o] rfl rfl (one_new _ _ _) ?c2 ?c3 ?c4 ?_)
    case c2 => simp [Value.oneCell']
    case c3 => unfold maxLen; omega
    case c4 => omega
    intro la' lc' w5 hown' hfp hch
    have hC5 : Chg (fun k => w2.heap.size ≤ k) wr2 w5:=Chg.trans ((Chg.refl _ _).alloc _) hch (fun i hi hk => HFv.out i hk)
    have HOWN:=Lib.hid hown'
    have HB5:=Lib.hid (hb.trans (hC5.below hsz (fun k hk => hk)))
    have hF5 : ∀ j, Fp (.slice la' ((lf m.line n k).length + 1) lc') j → w2.heap.size ≤ j:=fun j hj => by
     rcases hfp j hj with h' | h'
     ·exact HFv.out j h'
     ·first | omega | (simp at h'; omega)
    clear hown hown' hfp hch hC5 r3 k7 f7 hx0
    go_wp2_with fail
    go_round
    case rel => exact ⟨_, rfl, k + 1, _, by omega, rfl, rfl, by rw [HST.out]; simpa using HOWN.out, by simpa using hF5, HB5.out⟩
    case measure => simp [intOf] <;> omega
  ·obtain rfl : k = m.line.length:=by omega
   have hall : lf m.line n m.line.length = m.line.filter (fun o => o != (n : Int)):=by unfold lf; rw [List.take_length]
   rw [hall] at ho hv
   obtain ⟨la, lc, hlv0⟩:=r3.at'.own.form
   rw [hlv0] at k7
   have HLV:=Lib.hid hlv0
   have i1 : ¬ ((m.line.length : Nat) : Int) < (m.line.length : Int):=by omega
   have hfl:=List.length_filter_le (fun o => o != (n : Int)) m.line
   have HNL:=Lib.hid hall
   have hnv : ¬ Fp v p.mb:=fun hk => by
    have h1:=hF _ hk
    have h2:=hql p.mb (.inl rfl)
    omega
   have hCs : Chg (fun k => k = p.mb) wr2 (wr2.setCell ⟨p.mb, 7, none⟩ v):=(Chg.refl _ _).setCell ⟨p.mb, 7, none⟩ v (fun _ => rfl)
   have hO5:=ho.chg hCs (fun k hk e => hnv (e ▸ hk))
   have hC5 : Chg (fun k => k = p.mb ∨ Fp p.lv k) w2 (wr2.setCell ⟨p.mb, 7, none⟩ v):=Chg.setCell ⟨hb.os, hb.tape, hb.output, hb.size, fun k hk _ => hb.block k hk⟩ _ _ (fun _ => .inl rfl)
   have hA5:=R2.out.at'.toLine (v':=v) (l:=m.line.filter (fun o => o != (n : Int))) (W':=wr2.setCell ⟨p.mb, 7, none⟩ v) (by simpa using hO5) (by omega) (fun x hx => r3.at'.ok.line x (List.mem_filter.1 hx).1) (fun k hk => .inr (hF k hk)) hC5 (qd_line r3.at'.hd v)
   have r5:=R2.out.line hA5 (fun k hk => .inr (hF k hk)) hC5
   have hxn : ¬ qfp { p with lv:=v } xb:=fun hk => by
    rcases hk with h | h | h | h | h
    ·exact hxb (.inl h)
    ·exact hxb (.inr (.inl h))
    ·exact hxb (.inr (.inr (.inl h)))
    ·exact hxb (.inr (.inr (.inr (.inl h))))
    ·have:=hF _ h; omega
   have hxp : ¬ (xb = p.mb ∨ Fp p.lv xb):=fun hk => hxb (by
    rcases hk with h | h
    ·exact .inl h
    ·exact .inr (.inr (.inr (.inr h))))
   have hng : ∀ g, W.heap.size ≤ g → g < wb.heap.size → ¬ (g = p.mb ∨ Fp p.lv g):=fun g h1 h2 hk => R2.out.not h1 h2 (by
    rcases hk with hk | hk
    ·exact .inl hk
    ·exact .inr (.inr (.inr (.inr hk))))
   have e5:=E2.out.chg hC5 (hng _ (Nat.le_refl _) hg1)
   have b5:=B2.out.chg hC5 (hng _ hgb0 hgb1)
   have x5:=X2.out.chg hC5 hxp
   have HX0 : RowKit.Hid ((M.failed 4).at' = 0):=Lib.hid rfl
   clear hall hCs hO5 hC5 hA5 ho hnv hF
   subst hv
   have g2 : wr2.cell? ⟨W.heap.size + 1, 2, none⟩ = some (.i 0):=(B2.out.below hb).cell 2
   have hnm : ¬ W.heap.size + 1 = p.mb:=fun e => hng (W.heap.size + 1) hgb0 hgb1 (.inl e)
   have hnm' : ¬ p.mb = W.heap.size + 1:=fun e => hnm e.symm
   go_upto_region 27 with (fail)
   clear k7 f7 i1 g2 hnm hnm'
   generalize wr2.setCell ⟨p.mb, 7, none⟩ (.slice va (m.line.filter (fun o => o != (n : Int))).length vc) = w9 at *
   generalize (Value.slice va (m.line.filter (fun o => o != (n : Int))).length vc) = v5 at *
   have HKS : RowKit.Hid (({ m with line:=m.line.filter (fun o => o != (n : Int)) } : M).ks.length = m.ks.length):=Lib.hid rfl
   have k6:=r5.at'.hd.c6
   rw [r5.mb, r5.kb, HKS.out] at k6
   have hth : w9.there p.kb (n * 10) 10:=by have:=WaitAt.there r5.at'.works (i:=n) (by rw [HKS.out]; omega); rwa [r5.kb] at this
   have hset : Chg (fun k => k = p.kb) w9 (w9.setCells p.kb (n * 10) Zw.toList):=chg_setCells _ _ _ _
   have hW7:=r5.at'.works.setL (i:=n) (by rw [HKS.out]; omega) Wk.zero
   rw [r5.kb] at hW7
   have hA7:=r5.at'.toWorks (W':=w9.setCells p.kb (n * 10) Zw.toList) (by rw [r5.kb]; exact hset) (by rw [r5.kb]; exact hW7) (by simp) (by
    intro k hk h2
    rcases List.mem_or_eq_of_mem_set hk with hk | rfl
    ·exact r5.at'.ok.grants k hk h2
    ·simp [Wk.zero] at h2)
   have r7:=r5.works hA7 (by rw [r5.kb]; exact hset)
   have e7:=e5.chg hset (fun e => r5.not (Nat.le_refl _) hg1 (by rw [← r5.kb] at e; exact .inr (.inr (.inl e))))
   have b7:=b5.chg hset (fun e => r5.not hgb0 hgb1 (by rw [← r5.kb] at e; exact .inr (.inr (.inl e))))
   have x7:=x5.chg hset (fun e => hxn (by rw [e, ← r5.kb]; exact .inr (.inr (.inl rfl))))
   have hbu : Busy (({ m with line:=m.line.filter (fun o => o != (n : Int)) } : M).rest n):=HBU.out
   have ht:=q_tidy r7.at' hbu
   rw [r7.mb] at ht
   clear hW7 hA7 hbu
   refine wp_region_lit ?_
   refine RowL.gl (.pointer (some ⟨p.mb, 0, none⟩)) ?_ (by go_simp; try rfl)
   refine RowL.gl (.pointer (some ⟨p.mb, 0, none⟩)) ?_ (by go_simp; try rfl)
   refine RowL.gl (.pointer (some ⟨p.mb, 6, none⟩)) ?_ (by go_simp; try rfl)
   refine RowL.gl (.slice (some ⟨p.kb, 0, none⟩) m.ks.length m.ks.length) ?_ (by go_simp; try rfl)
   refine RowL.gl (.i (n : Int)) ?_ (by go_simp; try rfl)
   refine RowL.wpList_run rfl (.agg Zw) (by kernel_rfl) ?_
   refine RowL.gl (.pointer (some ⟨p.kb, n * 10, none⟩)) ?_ (by go_simp; try rfl)
   refine wpList_store_mid rfl 97 (.tmp 136) (.tmp 135) rfl p.kb (n * 10) Zw (by kernel_rfl) (by kernel_rfl) hth (by kernel_rfl) (by kernel_rfl) ?_
   have hno : ¬ qfp { p with lv:=v5 } xb:=hxn
   clear hth hset k6
   generalize w9.setCells p.kb (n * 10) Zw.toList = w10 at *
   go_wp2_with fail
   refine ht.mono ?_
   rintro e w11 ⟨v4, hp⟩
   obtain ⟨rfl, p8, r8, hc8⟩:=r7.post hp
   have e8:=e7.chg hc8 (r7.not (Nat.le_refl _) hg1)
   have b8:=b7.chg hc8 (r7.not hgb0 hgb1)
   have x8:=x7.chg hc8 hno
   have htl:=fun w => told_any w (M.failed 4) n ⟨op, dl, wt, fo, sl, ge, st⟩
   have hta : ({ M.answered (M.failed 4) n ⟨op, dl, wt, fo, sl, ge, st⟩ with at':=((M.failed 4)).at' } : Ev) = M.answered (M.failed 4) n ⟨op, dl, wt, fo, sl, ge, st⟩:=by rw [HX0.out]; rfl
   rw [hta] at htl
   have hra : w11.rangeAt (W.heap.size + 1) 3 [.i op, .i dl, .bool wt, .bool fo, .i sl, .i ge, .i st]:=by
    intro jj v hv
    have h1 : ((Ai true true 0 op dl wt fo sl ge st).toList.drop 3)[jj]? = some v:=hv
    rw [List.getElem?_drop] at h1
    have h2:=b8.cell (3 + jj)
    rw [← Array.getElem?_toList, h1] at h2
    exact h2
   clear ht hp hc8 r7 e7 b7 x7 hta hno
   go_upto_region 29 with (fail)
   refine wp_region_lit ?_
   refine RowL.wpList_load_row rfl 36 (.tmp 7) rfl xb _ ((M.failed 4)).cells _ (by kernel_rfl) x8 Tryz.underlying36 rfl (by kernel_rfl) ?_
   refine RowL.gl (.i (n : Int)) ?_ (by go_simp; try rfl)
   refine RowL.gl (.pointer (some ⟨W.heap.size + 1, 3, none⟩)) ?_ (by go_simp; try rfl)
   refine wpList_load_mid rfl 25 (.tmp 141) rfl (W.heap.size + 1) 3 (by kernel_rfl) [.i op, .i dl, .bool wt, .bool fo, .i sl, .i ge, .i st] _ hra Tryz.underlying25 rfl (by kernel_rfl) ?_
   generalize M.answered (M.failed 4) n ⟨op, dl, wt, fo, sl, ge, st⟩ = y at *
   simp only [Ask.val, Ask.cells] at htl
   go_wp2_with fail
   refine (htl _).mono ?_
   rintro e w12 ⟨rfl, hb12⟩
   have r9:=r8.below hb12
   have e9:=e8.below hb12
   have hst:=e9.store y
   have hsz:=ev_size y
   clear htl hb12 r8 e8 b8 x8 hra
   go_wp2_with fail
   refine bR2 W.heap.size (e9.set y) Tryz.underlying36 ?_
   rw [HR2.out]
   exact (r9.row (Nat.le_refl _) hg1 y.cells).fin hB _
end Go.Proofs.YtpmkgddjgebojaaGreatDoor.Mod
