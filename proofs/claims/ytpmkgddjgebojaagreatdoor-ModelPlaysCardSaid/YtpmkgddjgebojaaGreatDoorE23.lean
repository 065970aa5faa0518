/- Part 23 of the walks and plain laws that the last text joins. -/
import Derived.Test.YtpmkgddjgebojaaGreatDoorE20
import Derived.Test.YtpmkgddjgebojaaGreatDoorE21
set_option maxRecDepth 100000
set_option maxHeartbeats 16000000
set_option linter.unusedVariables false
set_option linter.unusedSimpArgs false
namespace Go.Proofs.YtpmkgddjgebojaaGreatDoor.Mod
open Go.RowKit Hp Slot RowL Life
theorem first_some {m : M} {kind own : Int} {i : Nat} (h : m.first kind own = some i) : ∃ s, m.ss[i]? = some s ∧ Find.fits s kind own = true:=by
 unfold M.first at h
 generalize m.ss = l at h
 induction l generalizing i with
 | nil => cases h
 | cons s l ih =>
  rw [firstAt] at h
  split at h
  ·rename_i hf; cases h; exact ⟨s, rfl, hf⟩
  ·cases hx : firstAt kind own l with
   | none => rw [hx] at h; cases h
   | some j =>
    rw [hx] at h
    simp at h
    subst h
    obtain ⟨t, h1, h2⟩:=ih hx
    exact ⟨t, by simpa using h1, h2⟩
theorem Re.line {B : Nat} {W0 w w' : World} {p p' : Pl} {m' : M} (r : Re B W0 p w p' m') {v' : Value} {l : List Int} (h : MAt w' { p' with lv:=v' } { m' with line:=l }) (hF : ∀ k, Fp v' k → Fp p'.lv k ∨ w.heap.size ≤ k) (hc : Chg (fun k => k = p'.mb ∨ Fp p'.lv k) w w') :
  Re B W0 p w' { p' with lv:=v' } { m' with line:=l }:=by
 refine ⟨h, r.old, r.le, ?_, fun k hk => ?_, r.rvs, r.chg.trans hc (fun k _ hk => ?_)⟩
 ·obtain ⟨lv, rv, e⟩:=r.same
  exact ⟨v', rv, by rw [e]⟩
 ·rcases hF k hk with h | h
  ·exact r.lvs k h
  ·exact .inr (Nat.le_trans r.size h)
 ·have : mfp p' k:=by
   rcases hk with rfl | hk
   ·exact .inl rfl
   ·exact .inr (.inr (.inr (.inr (.inr hk))))
  exact (r.mine this).imp id (fun h => Nat.le_trans r.le h)
theorem WorksAt.there {W : World} {kb : Nat} {ks : List Wk} (h : WorksAt W kb ks) {i : Nat} (hi : i < ks.length) : W.there kb (i * 9) 9:=by
 intro j hj
 refine ⟨?_, h.2 i j hi hj⟩
 have:=h.1 i ks[i] (List.getElem?_eq_getElem hi) j _ (Array.getElem?_eq_getElem (by simpa [Wk.cells] using hj))
 rw [this]; rfl
theorem int_info : (Tryz.prog.info? 3).map (fun i => (i.zero, i.size, i.bytes)) = some (some (.i 0), 1, 8):=by kernel_rfl
theorem m_get {W : World} {p : Pl} {m : M} (h : MAt W p m) (who : Int) (a : Ask) (hw : m.has who = true) :
  Calls Tryz.prog 67 #[.pointer (some ⟨p.mb, 0, none⟩), .i who, a.val] W (MPost W p (.tuple #[(m.get who a).1.1.val, .bool (m.get who a).1.2]) (m.get who a).2):=by
 have hR : RowKit.Hid (m.get who a = if m.closed ≠ 0 then ((M.failed 5, true), m) else
  match m.first 0 who with
  | some i => (((m.turn i 3 who 0).leased i, true), m.turn i 3 who 0)
  | none => match m.first 1 who with
   | some i => ((((m.turn i 3 who 0).move (m.slot i).own who).leased i, true), (m.turn i 3 who 0).move (m.slot i).own who)
   | none => match m.first 2 who with
    | some i => ((((m.turn i 0 who 0).dial i who).1, true), ((m.turn i 0 who 0).dial i who).2)
    | none => if (!a.wait) = true then ((M.failed 3, true), m) else if m.cf.waiters ≤ m.line.length then ((M.failed 7, true), m)
     else ((Ev.zero, false), { m with line:=m.line ++ [who], ks:=m.ks.set who.toNat ⟨1, a, 0⟩ })):=rfl
 generalize m.get who a = R at *
 have hlt : p.mb < W.heap.size:=h.lt (.inl rfl)
 obtain ⟨op, dl, wt, fo, sl, ge, st⟩:=a
 simp only [Ask.val, Ask.cells] at *
 have hB : Below W.heap.size W ((W.alloc (.cells (Ad op dl wt fo sl ge st) 25)).alloc (.cells ev0 36)):=((Below.refl _ _).alloc (Nat.le_refl _) _).alloc (by simp) _
 have r0 : Re W.heap.size ((W.alloc (.cells (Ad op dl wt fo sl ge st) 25)).alloc (.cells ev0 36)) p ((W.alloc (.cells (Ad op dl wt fo sl ge st) 25)).alloc (.cells ev0 36)) p m:=Re.begin h hB
 have e0 : ERow ((W.alloc (.cells (Ad op dl wt fo sl ge st) 25)).alloc (.cells ev0 36)) (W.heap.size + 1):=⟨ev0, rfl, by have:=RowAt.new (W.alloc (.cells (Ad op dl wt fo sl ge st) 25)) ev0 36; simpa using this⟩
 have hg1 : W.heap.size + 1 < ((W.alloc (.cells (Ad op dl wt fo sl ge st) 25)).alloc (.cells ev0 36)).heap.size:=by simp
 have hg0 : W.heap.size ≤ W.heap.size + 1:=by omega
 have a0 : RowAt ((W.alloc (.cells (Ad op dl wt fo sl ge st) 25)).alloc (.cells ev0 36)) W.heap.size (Ad op dl wt fo sl ge st) 25:=heap_alloc2_old W _ _
 have c8:=h.hd.c8
 by_cases hc : m.closed = 0
 rotate_left
 ·have hc' : (m.closed != 0) = true:=by simp [hc]
  have HR2 : RowKit.Hid (R = ((M.failed 5, true), m)):=Lib.hid (by rw [hR.out, if_pos hc])
  clear hc hR h
  go_enter Tryz.func67, Tryz.ntmps67
  have hfl:=fun W => failed_any W 5
  have hf : M.failed 5 = { Ev.zero with e:=5 }:=rfl
  rw [← hf] at hfl
  generalize M.failed 5 = x at *
  clear hf
  go_wp2_with fail
  refine (hfl _).mono ?_
  rintro e w2 ⟨rfl, hb2⟩
  have r2:=r0.below hb2
  have e2:=e0.below hb2
  have hst:=e2.store x
  have hsz:=ev_size x
  clear hfl hb2
  go_wp2_with fail
  refine bR2 (W.heap.size + 1) (e2.set x) Tryz.underlying36 ?_
  rw [HR2.out]
  exact (r2.row hg0 hg1 x.cells).fin hB _
 have hc' : (m.closed != 0) = false:=by simp [hc]
 have hR:=Lib.hid (hR.out.trans (if_neg (by simp [hc])))
 clear hc
 cases hf0 : m.first 0 who with
 | some i =>
  rw [hf0] at hR
  obtain ⟨s, hs, -⟩:=first_some hf0
  have HS:=Lib.hid hs
  have HR2 : RowKit.Hid (R = (((m.turn i 3 who 0).leased i, true), m.turn i 3 who 0)):=Lib.hid hR.out
  have hfi:=m_first r0.at' 0 who (by simp)
  rw [hf0] at hfi
  simp only [Option.getD_some, Option.isSome_some] at hfi
  clear hR hs h hf0
  go_enter Tryz.func67, Tryz.ntmps67
  go_wp2_with fail
  refine hfi.mono ?_
  rintro e w1 ⟨rfl, hb1⟩
  have r1:=r0.below hb1
  have e1:=e0.below hb1
  have ht:=m_turn' r1.at' i 3 i 3 who 0 s HS.out rfl rfl (by simp [Done])
  rw [r1.mb] at ht
  clear hfi hb1 r0 e0 a0 c8
  go_wp2_with fail
  refine ht.mono ?_
  rintro e w2 ⟨rfl, h2, hc2⟩
  have r2:=r1.slots h2 hc2
  have e2:=e1.chg hc2 (fun e => r1.not hg0 hg1 (.inr (.inl e)))
  have hle:=m_leased r2.at' i i _ (turnL_get HS.out) rfl
  rw [r2.mb] at hle
  clear ht h2 hc2 r1 e1
  generalize (m.turn i 3 who 0).leased i = x at *
  go_wp2_with fail
  refine hle.mono ?_
  rintro e w3 ⟨rfl, hb3⟩
  have r3:=r2.below hb3
  have e3:=e2.below hb3
  have hst:=e3.store x
  have hsz:=ev_size x
  clear hle hb3 r2 e2
  go_wp2_with fail
  refine bR2 (W.heap.size + 1) (e3.set x) Tryz.underlying36 ?_
  rw [HR2.out]
  exact (r3.row hg0 hg1 x.cells).fin hB _
 | none =>
  rw [hf0] at hR
  have hfi:=m_first r0.at' 0 who (by simp)
  rw [hf0] at hfi
  simp only [Option.getD_none, Option.isSome_none] at hfi
  have hf1:=fun (w : World) (h : MAt w p m) => m_first h 1 who (by simp)
  have hf2:=fun (w : World) (h : MAt w p m) => m_first h 2 who (by simp)
  clear hf0
  cases hx1 : m.first 1 who with
  | some i =>
   rw [hx1] at hR
   simp only [hx1, Option.getD_some, Option.isSome_some] at hf1
   obtain ⟨s, hs, -⟩:=first_some hx1
   have hsl : m.slot i = s:=M.slot_of hs
   have HS:=Lib.hid hs
   have HR2 : RowKit.Hid (R = ((((m.turn i 3 who 0).move s.own who).leased i, true), (m.turn i 3 who 0).move s.own who)):=Lib.hid (by rw [← hsl]; exact hR.out)
   have hil : i < m.ss.length:=(List.getElem?_eq_some_iff.1 hs).1
   have hns:=r0.at'.ok.ns
   have b0 : (0 : Int) ≤ (i : Int):=by omega
   have b1 : (i : Int) < (m.ss.length : Int):=by omega
   have b2 : (i : Int) ≤ (m.ss.length : Int) - 1:=by omega
   clear hR hs h hx1 hsl hf2 hil
   go_enter Tryz.func67, Tryz.ntmps67
   go_wp2_with fail
   refine hfi.mono ?_
   rintro e w1 ⟨rfl, hb1⟩
   have r1:=r0.below hb1
   have e1:=e0.below hb1
   have hy:=hf1 w1 r1.at'
   clear hfi hb1 r0 e0 a0 c8 hf1
   go_wp2_with fail
   refine hy.mono ?_
   rintro e w2 ⟨rfl, hb2⟩
   have r2:=r1.below hb2
   have e2:=e1.below hb2
   have c5:=r2.at'.hd.c5
   have cO:=(r2.at'.slots.get HS.out).2.1
   have ht:=m_turn' r2.at' i 3 i 3 who 0 s HS.out rfl rfl (by simp [Done])
   clear hy hb2 r1 e1
   go_wp2_with fail
   refine ht.mono ?_
   rintro e w3 ⟨rfl, h3, hc3⟩
   have r3:=r2.slots h3 hc3
   have e3:=e2.chg hc3 (fun e => r2.not hg0 hg1 (.inr (.inl e)))
   have hmv:=m_move h3 s.own who
   clear ht h3 hc3 r2 e2 c5 cO b0 b1 b2
   go_wp2_with fail
   refine hmv.mono ?_
   rintro e w4 ⟨⟨v4, rfl⟩, h4, hc4⟩
   have r4:=r3.slots h4 hc4
   have e4:=e3.chg hc4 (fun e => r3.not hg0 hg1 (.inr (.inl e)))
   obtain ⟨s9, hs9⟩ : ∃ s9, ((m.turn i 3 who 0).move s.own who).ss[i]? = some s9:=⟨_, List.getElem?_eq_getElem (by
    have h1 : ((m.turn i 3 who 0).move s.own who).ss.length = m.ss.length:=by
     show (M.moveL s.own who true (turnL m.ss i 3 who 0)).length = _
     rw [← mvN_all, mvN_len, turnL_len]
    rw [h1]; exact (List.getElem?_eq_some_iff.1 HS.out).1)⟩
   have hle:=m_leased r4.at' i i _ hs9 rfl
   clear hmv h4 hc4 r3 e3 hs9
   generalize ((m.turn i 3 who 0).move s.own who).leased i = x at *
   go_wp2_with fail
   refine hle.mono ?_
   rintro e w5 ⟨rfl, hb5⟩
   have r5:=r4.below hb5
   have e5:=e4.below hb5
   have hst:=e5.store x
   have hsz:=ev_size x
   clear hle hb5 r4 e4
   go_wp2_with fail
   refine bR2 (W.heap.size + 1) (e5.set x) Tryz.underlying36 ?_
   rw [HR2.out]
   exact (r5.row hg0 hg1 x.cells).fin hB _
  | none =>
   rw [hx1] at hR
   simp only [hx1, Option.getD_none, Option.isSome_none] at hf1
   cases hx2 : m.first 2 who with
   | some i =>
    rw [hx2] at hR
    simp only [hx2, Option.getD_some, Option.isSome_some] at hf2
    obtain ⟨s, hs, -⟩:=first_some hx2
    have HS:=Lib.hid hs
    have HR2 : RowKit.Hid (R = ((((m.turn i 0 who 0).dial i who).1, true), ((m.turn i 0 who 0).dial i who).2)):=Lib.hid hR.out
    clear hR hs h hx1 hx2
    go_enter Tryz.func67, Tryz.ntmps67
    go_wp2_with fail
    refine hfi.mono ?_
    rintro e w1 ⟨rfl, hb1⟩
    have r1:=r0.below hb1
    have e1:=e0.below hb1
    have hy:=hf1 w1 r1.at'
    clear hfi hb1 r0 e0 a0 c8 hf1
    go_wp2_with fail
    refine hy.mono ?_
    rintro e w2 ⟨rfl, hb2⟩
    have r2:=r1.below hb2
    have e2:=e1.below hb2
    have hy:=hf2 w2 r2.at'
    clear hb2 r1 e1 hf2
    go_wp2_with fail
    refine hy.mono ?_
    rintro e w3 ⟨rfl, hb3⟩
    have r3:=r2.below hb3
    have e3:=e2.below hb3
    have ht:=m_turn' r3.at' i 0 i 0 who 0 s HS.out rfl rfl (by simp [Done])
    clear hy hb3 r2 e2
    go_wp2_with fail
    refine ht.mono ?_
    rintro e w4 ⟨rfl, h4, hc4⟩
    have r4:=r3.slots h4 hc4
    have e4:=e3.chg hc4 (fun e => r3.not hg0 hg1 (.inr (.inl e)))
    have hdi:=m_dial h4 i i who _ (turnL_get HS.out) rfl
    clear ht h4 hc4 r3 e3
    generalize (m.turn i 0 who 0).dial i who = rd at *
    obtain ⟨x, md⟩:=rd
    simp only at hdi HR2
    go_wp2_with fail
    refine hdi.mono ?_
    rintro e w5 hp
    obtain ⟨rfl, p5, r5, hc5⟩:=r4.post hp
    have e5:=e4.chg hc5 (r4.not hg0 hg1)
    have hst:=e5.store x
    have hsz:=ev_size x
    clear hdi hp hc5 r4 e4
    go_wp2_with fail
    refine bR2 (W.heap.size + 1) (e5.set x) Tryz.underlying36 ?_
    rw [HR2.out]
    exact (r5.row hg0 hg1 x.cells).fin hB _
   | none =>
    rw [hx2] at hR
    simp only [hx2, Option.getD_none, Option.isSome_none] at hf2
    have HR:=Lib.hid hR.out
    clear hR hx1 hx2
    go_enter Tryz.func67, Tryz.ntmps67
    go_wp2_with fail
    refine hfi.mono ?_
    rintro e w1 ⟨rfl, hb1⟩
    have r1:=r0.below hb1
    have e1:=e0.below hb1
    have a1:=a0.below hb1
    have hy:=hf1 w1 r1.at'
    clear hfi hb1 r0 e0 a0 c8 hf1
    go_wp2_with fail
    refine hy.mono ?_
    rintro e w2 ⟨rfl, hb2⟩
    have r2:=r1.below hb2
    have e2:=e1.below hb2
    have a2:=a1.below hb2
    have hy:=hf2 w2 r2.at'
    clear hb2 r1 e1 a1 hf2
    go_wp2_with fail
    refine hy.mono ?_
    rintro e w3 ⟨rfl, hb3⟩
    have r3:=r2.below hb3
    have e3:=e2.below hb3
    have a3:=a2.below hb3
    clear hy hb3 r2 e2 a2
    cases wt
    ·have HR2 : RowKit.Hid (R = ((M.failed 3, true), m)):=Lib.hid (by rw [HR.out]; exact if_pos rfl)
     have cw : w3.cell? ⟨W.heap.size, 2, none⟩ = some (.bool false):=a3.cell 2
     clear HR h
     have hfl:=fun W => failed_any W 3
     have hf : M.failed 3 = { Ev.zero with e:=3 }:=rfl
     rw [← hf] at hfl
     generalize M.failed 3 = x at *
     clear hf
     go_wp2_with fail
     refine (hfl _).mono ?_
     rintro e w4 ⟨rfl, hb4⟩
     have r4:=r3.below hb4
     have e4:=e3.below hb4
     have hst:=e4.store x
     have hsz:=ev_size x
     clear hfl hb4
     go_wp2_with fail
     refine bR2 (W.heap.size + 1) (e4.set x) Tryz.underlying36 ?_
     rw [HR2.out]
     exact (r4.row hg0 hg1 x.cells).fin hB _
    have HR:=Lib.hid (HR.out.trans (if_neg (by simp)))
    have cw : w3.cell? ⟨W.heap.size, 2, none⟩ = some (.bool true):=a3.cell 2
    have c3:=r3.at'.hd.c3
    have c7:=r3.at'.hd.c7
    obtain ⟨la, lc, hlv⟩:=r3.at'.own.form
    rw [hlv] at c7
    have HLV:=Lib.hid hlv
    have hfew:=r3.at'.ok.few
    clear hlv h
    by_cases hfull : m.cf.waiters ≤ m.line.length
    ·have HR2 : RowKit.Hid (R = ((M.failed 7, true), m)):=Lib.hid (by rw [HR.out]; exact if_pos hfull)
     have d1 : decide (m.cf.waiters ≤ (m.line.length : Int)) = true:=by simpa using hfull
     clear HR hfull
     go_wp2_with fail
     go_quiet (fail)
     have hbq : Below w3.heap.size w3 (w3.drewN nq):=bdrewN (Below.refl _ _) nq
     have r3:=r3.below hbq
     have e3:=e3.below hbq
     generalize hwz : w3.drewN nq = w3q at *
     clear hwz hbq cw c3 c7
     have hfl:=fun W => failed_any W 7
     have hf : M.failed 7 = { Ev.zero with e:=7 }:=rfl
     rw [← hf] at hfl
     generalize M.failed 7 = x at *
     clear hf
     go_wp2_with fail
     refine (hfl _).mono ?_
     rintro e w4 ⟨rfl, hb4⟩
     have r4:=r3.below hb4
     have e4:=e3.below hb4
     have hst:=e4.store x
     have hsz:=ev_size x
     clear hfl hb4
     go_wp2_with fail
     refine bR2 (W.heap.size + 1) (e4.set x) Tryz.underlying36 ?_
     rw [HR2.out]
     exact (r4.row hg0 hg1 x.cells).fin hB _
    ·have d1 : decide (m.cf.waiters ≤ (m.line.length : Int)) = false:=by simpa using hfull
     have HR:=Lib.hid (HR.out.trans (if_neg hfull))
     clear hfull
     obtain ⟨i0, hi, hz0, hz1, hz2⟩:=info_parts int_info
     go_wp2_with fail
     go_quiet (fail)
     have hown : OwnS ((w3.drewN nq).alloc (.cells #[.i who] 3)) p.lv m.line.length 1 (m.line.map (Value.int .i64)):=OwnS.alloc (w:=w3.drewN nq) r3.at'.own _
     rw [HLV.out] at hown
     have R3:=Lib.hid r3
     clear cw c3
     go_wp2_with (at_builtin; refine Hp.wpList_append _ rfl _ _ 43 rfl 3 i0 (.i 0) 1 8 Tryz.underlying43 hi hz0 hz1 hz2 rfl (by decide) _ _ _ rfl hown ⟨w3.heap.size, 0, none⟩ 1 1 [.i who] rfl rfl ?c1 ?c2 ?c3 ?c4 ?_)
     case c1 => exact one_new _ _ _
     case c2 => simp [Value.oneCell']
     case c3 => unfold maxLen; omega
     case c4 => omega
     intro la' lc' w5 hown' hfp hch
     obtain ⟨t, -, t1, -, -, -, -, t6⟩:=R3.out.at'.tag
     have hnl1 : ¬ Fp (.slice la m.line.length lc) p.mb:=fun h => by have:=t6 _ (HLV.out ▸ h); omega
     have hC5 : Chg (Fp (.slice la m.line.length lc)) w3 w5:=Chg.trans (Chg.alloc (show Chg (Fp (.slice la m.line.length lc)) w3 (w3.drewN nq) from ⟨rfl, rfl, rfl, Nat.le_refl _, fun _ _ _ => rfl⟩) _) hch (fun _ _ h => h)
     have hlm3 : p.mb < w3.heap.size:=R3.out.at'.lt (.inl rfl)
     have e7:=(hC5.cell (p:=⟨p.mb, 7, none⟩) hlm3 hnl1).trans c7
     have f7:=(hC5.frozen (p:=⟨p.mb, 7, none⟩) hlm3 hnl1).trans R3.out.at'.hd.f7
     have HC5:=Lib.hid hC5
     have HOWN:=Lib.hid hown'
     have HFP:=Lib.hid hfp
     have h5s : w3.heap.size ≤ w5.heap.size:=hC5.size
     clear c7 hown hch hC5 hown' hfp t1 t6
     go_wp2_with fail
     obtain ⟨nn, hnn, hnl⟩ : ∃ nn : Nat, who = (nn : Int) ∧ nn < m.ks.length:=by
      simp [M.has] at hw
      obtain ⟨q, hq⟩:=Int.eq_ofNat_of_zero_le hw.1
      exact ⟨q, hq, by omega⟩
     subst hnn
     have hC6 : Chg (fun k => k = p.mb ∨ Fp p.lv k) w3 (w5.setCell ⟨p.mb, 7, none⟩ (.slice la' (m.line.length + 1) lc')):=(HC5.out.mono (fun k _ hk => .inr (by rw [HLV.out]; exact hk))).setCell _ _ (fun _ => .inl rfl)
     have hnv : ¬ Fp (.slice la' (m.line.length + 1) lc') p.mb:=fun hk => by
      rcases HFP.out _ hk with h' | h'
      ·exact hnl1 h'
      ·first | omega | (simp at h'; omega)
     have hown6 : OwnS (w5.setCell ⟨p.mb, 7, none⟩ (.slice la' (m.line.length + 1) lc')) (.slice la' (m.line.length + 1) lc') (m.line.length + 1) 1 (m.line.map (Value.int .i64) ++ [.i nn]) :=
      HOWN.out.chg (F:=fun k => k = p.mb) ((Chg.refl _ _).setCell ⟨p.mb, 7, none⟩ (.slice la' (m.line.length + 1) lc') (fun _ => rfl)) (fun k hk e => hnv (e ▸ hk))
     have hhd5 : Hd w5 p m.cf m.ss.length m.ks.length m.closed:=R3.out.at'.hd.stable (HC5.out.block _ hlm3 hnl1)
     have hA6:=R3.out.at'.toLine (v':=.slice la' (m.line.length + 1) lc') (l:=m.line ++ [(nn : Int)]) (W':=w5.setCell ⟨p.mb, 7, none⟩ (.slice la' (m.line.length + 1) lc')) (by simpa using hown6) (by
       have h1:=R3.out.at'.ok.conf
       simp [Conf.Cf.right, Conf.btw] at h1
       simp at d1 ⊢
       omega) (fun x hx => by
       simp at hx
       rcases hx with hx | rfl
       ·exact R3.out.at'.ok.line x hx
       ·omega) (fun k hk => by
       rcases HFP.out k hk with h' | h'
       ·exact .inl (by rw [HLV.out]; exact h')
       ·exact .inr (by first | omega | (simp at h'; omega))) hC6 (hd_line hhd5 _)
     have r6:=R3.out.line hA6 (fun k hk => by
       rcases HFP.out k hk with h' | h'
       ·exact .inl (by rw [HLV.out]; exact h')
       ·exact .inr (by first | omega | (simp at h'; omega))) hC6
     have e6 : ERow (w5.setCell ⟨p.mb, 7, none⟩ (.slice la' (m.line.length + 1) lc')) (W.heap.size + 1):=e3.chg hC6 (fun hk => R3.out.not hg0 hg1 (by
       rcases hk with hk | hk
       ·exact .inl hk
       ·exact .inr (.inr (.inr (.inr (.inr hk))))))
     have a6 : RowAt (w5.setCell ⟨p.mb, 7, none⟩ (.slice la' (m.line.length + 1) lc')) W.heap.size (Ad op dl true fo sl ge st) 25:=a3.chg hC6 (fun hk => R3.out.not (Nat.le_refl _) (by simp; omega) (by
       rcases hk with hk | hk
       ·exact .inl hk
       ·exact .inr (.inr (.inr (.inr (.inr hk))))))
     clear e7 f7 hown6 hhd5 hnv hC6 HC5 HOWN HFP a3 e3 R3 hi hz0 hz1 hz2
     generalize hwz : w5.setCell ⟨p.mb, 7, none⟩ (.slice la' (m.line.length + 1) lc') = w6 at *
     clear hwz hA6
     have A6:=r6.at'
     have hkm : p.mb ≠ p.kb:=A6.ne.2.2.1
     have hka : W.heap.size ≠ p.kb:=fun e => r6.not (Nat.le_refl _) (by simp; omega) (.inr (.inr (.inl e)))
     have c6:=A6.hd.c6
     have hlm6 : p.mb < w6.heap.size:=A6.lt (.inl rfl)
     simp only at c6
     have L6 : ∀ w', Chg (fun k => k = p.kb) w6 w' → w'.cell? ⟨p.mb, 6, none⟩ = some (.slice (some ⟨p.kb, 0, none⟩) m.ks.length m.ks.length):=fun w' h => (h.cell (p:=⟨p.mb, 6, none⟩) hlm6 hkm).trans c6
     have LA : ∀ w', Chg (fun k => k = p.kb) w6 w' → RowAt w' W.heap.size (Ad op dl true fo sl ge st) 25:=fun w' h => a6.chg h hka
     have hKd : Chg (fun k => k = p.kb) w6 w6.drew:=(Chg.refl _ _).drew
     have hnk:=A6.ok.nk
     simp only at hnk
     have b0 : (0 : Int) ≤ (nn : Int):=by omega
     have b1 : (nn : Int) < (m.ks.length : Int):=by omega
     have b2 : (nn : Int) ≤ (m.ks.length : Int) - 1:=by omega
     have hth : w6.drew.there p.kb (nn * 9) 9:=by
      have:=WorksAt.there A6.works (i:=nn) hnl
      simpa using this
     have hset : Chg (fun k => k = p.kb) w6 (w6.drew.setCells p.kb (nn * 9) (Ac 1 op dl true fo sl ge st 0).toList):=hKd.trans (chg_setCells _ _ _ _) (fun _ _ h => h)
     have hW7:=(WorksAt.stable (W':=w6.drew) A6.works rfl).setL (i:=nn) hnl ⟨1, ⟨op, dl, true, fo, sl, ge, st⟩, 0⟩
     have hA7:=A6.toWorks hset hW7 (by simp) (by
      intro k hk h2
      rcases List.mem_or_eq_of_mem_set hk with hk | rfl
      ·exact A6.ok.grants k hk h2
      ·cases h2)
     have r7:=r6.works hA7 hset
     have e7:=e6.chg hset (fun e => r6.not hg0 hg1 (.inr (.inr (.inl e))))
     clear c6 A6 hnk hA7 hW7 e6 a6 r6
     have R7:=Lib.hid r7
     clear r7
     refine wp_region_held_drew (S:=fun w' => Chg (fun k => k = p.kb) w6 w') (by kernel_rfl) (by exact hKd) (fun hHeld => ?_)
     refine tKw (gd:=none) 0 102 (.move (.tmp 0)) ((.pointer (some ⟨p.mb, 0, none⟩))) (run_move_of (.tmp 0) (.pointer (some ⟨p.mb, 0, none⟩)) (by kernel_rfl)) hHeld ?_
     try simp only [Act.put, sA, sZ, sS]
     refine tKg 1 103 hHeld ?_
     try simp only [Act.put, sA, sZ, sS]
     refine tKg 2 104 hHeld ?_
     try simp only [Act.put, sA, sZ, sS]
     refine tKg 3 105 hHeld ?_
     try simp only [Act.put, sA, sZ, sS]
     refine tKw (gd:=none) 4 106 (.move (.tmp 1)) ((.i nn)) (run_move_of (.tmp 1) (.i nn) (by kernel_rfl)) hHeld ?_
     try simp only [Act.put, sA, sZ, sS]
     refine tKw (gd:=none) 5 107 (.load 25 (.tmp 5)) (.agg (Ad op dl true fo sl ge st)) (run_load_row 25 (.tmp 5) (W.heap.size) 25 (Ad op dl true fo sl ge st) _ (by kernel_rfl) Tryz.underlying25 rfl (by kernel_rfl) LA) hHeld ?_
     try simp only [Act.put, sA, sZ, sS]
     refine tKg 6 108 hHeld ?_
     try simp only [Act.put, sA, sZ, sS]
     refine tKg 7 109 hHeld ?_
     try simp only [Act.put, sA, sZ, sS]
     refine ready1 (i:=8) (by kernel_rfl) (step_store_mid 94 (.tmp 109) (.tmp 108) (by kernel_rfl) p.kb (nn * 9) (Ac 1 op dl true fo sl ge st 0) (by kernel_rfl) (by kernel_rfl) hth (by kernel_rfl) (by kernel_rfl) hset (fun _ => ?_))
     refine wpAnyH_done (by kernel_rfl) ?_ _
     generalize hwz : w6.drew.setCells p.kb (nn * 9) (Ac 1 op dl true fo sl ge st 0).toList = w7 at *
     clear hwz hset hth hKd L6 LA hHeld b0 b1 b2
     go_upto_region 23 with (fail)
     obtain ⟨Z, z1, z2⟩:=e7
     refine wp_region_lit ?_
     refine RowL.gl Ev.zero.val ?_ (by go_simp; try rfl)
     refine RowL.gSt z2 Ev.zero.cells 36 (.tmp 6) (.tmp 110) ?_ (hsz:=z1) (h1:=ev_one _)
     go_wp2_with fail
     refine bR2 (W.heap.size + 1) (z2.set _) Tryz.underlying36 ?_
     have hrr:=HR.out
     rw [Int.toNat_natCast] at hrr
     rw [hrr]
     exact (R7.out.row hg0 hg1 _).fin hB _
theorem m_open {W : World} {p : Pl} {m : M} (h : MAt W p m) (who : Int) (a : Ask) :
  Calls Tryz.prog 72 #[.pointer (some ⟨p.mb, 0, none⟩), .i who, a.val] W (MPost W p (m.openS who a).1.val (m.openS who a).2):=by
 have hE : ∀ o, m.openS who a = o → True:=fun _ _ => trivial
 have hR : RowKit.Hid (m.openS who a = if m.owns who a ≠ 0 then (M.failed (m.owns who a), m) else if (m.slot a.slot.toNat).broken = true then (M.failed 9, m) else match lowFree (m.slot a.slot.toNat).streams m.cf.streams with | some n => ({ Ev.zero with stream:=n }, m.turn a.slot.toNat 14 who m.cf.streams) | none => (M.failed 10, m)):=rfl
 generalize m.openS who a = R at *
 have hlt : p.mb < W.heap.size:=h.lt (.inl rfl)
 have hos : RowKit.Hid (m.owns who a = 0 → m.closed ≠ 2 ∧ ∃ (n : Nat) (s : S), a.slot = n ∧ m.ss[n]? = some s ∧ s.state = 3 ∧ s.own = who ∧ s.gen = a.gen):=fun h => owns_zero h
 have how:=fun W (h : MAt W p m) => m_owns h who a
 generalize m.owns who a = q at *
 obtain ⟨op, dl, wt, fo, sl, ge, st⟩:=a
 simp only [Ask.val, Ask.cells] at *
 have hB : Below W.heap.size W ((W.alloc (.cells (Ad op dl wt fo sl ge st) 25)).alloc (.cells ev0 36)):=((Below.refl _ _).alloc (Nat.le_refl _) _).alloc (by simp) _
 have r0 : Re W.heap.size ((W.alloc (.cells (Ad op dl wt fo sl ge st) 25)).alloc (.cells ev0 36)) p ((W.alloc (.cells (Ad op dl wt fo sl ge st) 25)).alloc (.cells ev0 36)) p m:=Re.begin h hB
 have e0 : ERow ((W.alloc (.cells (Ad op dl wt fo sl ge st) 25)).alloc (.cells ev0 36)) (W.heap.size + 1):=⟨ev0, rfl, by have:=RowAt.new (W.alloc (.cells (Ad op dl wt fo sl ge st) 25)) ev0 36; simpa using this⟩
 have hg1 : W.heap.size + 1 < ((W.alloc (.cells (Ad op dl wt fo sl ge st) 25)).alloc (.cells ev0 36)).heap.size:=by simp
 have hg0 : W.heap.size ≤ W.heap.size + 1:=by omega
 have a0 : RowAt ((W.alloc (.cells (Ad op dl wt fo sl ge st) 25)).alloc (.cells ev0 36)) W.heap.size (Ad op dl wt fo sl ge st) 25:=heap_alloc2_old W _ _
 have ho:=how _ r0.at'
 clear how hE
 go_enter Tryz.func72, Tryz.ntmps72
 go_wp2_with fail
 refine ho.mono ?_
 rintro e w1 ⟨rfl, hb1⟩
 have r1:=r0.below hb1
 have e1:=e0.below hb1
 have a1:=a0.below hb1
 clear ho hb1 r0 e0 a0 h
 by_cases hq : q = 0
 rotate_left
 ·have hq' : (q != 0) = true:=by simp [hq]
  have HR2 : RowKit.Hid (R = (M.failed q, m)):=Lib.hid (by rw [hR.out, if_pos hq])
  have hfl:=fun W => failed_any W q
  have hf : M.failed q = { Ev.zero with e:=q }:=rfl
  rw [← hf] at hfl
  generalize M.failed q = x at *
  clear hq hf hR hos a1
  go_wp2_with fail
  refine (hfl _).mono ?_
  rintro e w2 ⟨rfl, hb2⟩
  have r2:=r1.below hb2
  have e2:=e1.below hb2
  have hst:=e2.store x
  have hsz:=ev_size x
  clear hfl hb2 r1 e1
  go_wp2_with fail
  refine bR1 (W.heap.size + 1) (e2.set x) Tryz.underlying36 ?_
  rw [HR2.out]
  exact (r2.row hg0 hg1 x.cells).fin hB _
 have hq' : (q != 0) = false:=by simp [hq]
 obtain ⟨hcl2, n, s, hn, hs, hs3, hso, hsg⟩:=hos.out hq
 try simp only at hn hsg
 subst hn
 have HS:=Lib.hid hs
 have hsl : m.slot n = s:=M.slot_of hs
 have HR:=Lib.hid hR.out
 rw [if_neg (by simp [hq])] at HR
 try simp only [Int.toNat_natCast, hsl] at HR
 have hil : n < m.ss.length:=(List.getElem?_eq_some_iff.1 hs).1
 have hns:=r1.at'.ok.ns
 have b0 : (0 : Int) ≤ (n : Int):=by omega
 have b1 : (n : Int) < (m.ss.length : Int):=by omega
 have b2 : (n : Int) ≤ (m.ss.length : Int) - 1:=by omega
 clear hos hR hq hs hsl hil
 have k5:=r1.at'.hd.c5
 rw [r1.mb, r1.sb] at k5
 have kA : w1.cell? ⟨W.heap.size, 4, none⟩ = some (.i n):=a1.cell 4
 have hd:=r1.at'.slots.get HS.out
 rw [r1.sb] at hd
 obtain ⟨s0, s1, s2, s3, s4, s5, s6, s7, s8⟩:=s
 try simp only at hs3 hso hsg HR hd
 have HS3:=Lib.hid hs3
 have HSO:=Lib.hid hso
 have HSG:=Lib.hid hsg
 clear hs3 hso hsg
 obtain ⟨d0, d1, d2, d3, d4, d5, d6, d7, d8⟩:=hd
 have L5 : ∀ w', Below w1.heap.size w1 w' → w'.cell? ⟨p.mb, 5, none⟩ = some (.slice (some ⟨p.sb, 0, none⟩) m.ss.length m.ss.length):=fun w' h => Field.bkeep h k5
 have LA : ∀ w', Below w1.heap.size w1 w' → w'.cell? ⟨W.heap.size, 4, none⟩ = some (.i n):=fun w' h => Field.bkeep h kA
 have Ls0 : ∀ w', Below w1.heap.size w1 w' → w'.cell? ⟨p.sb, n * 9, none⟩ = some (.i s0):=fun w' h => Field.bkeep h d0
 have Ls1 : ∀ w', Below w1.heap.size w1 w' → w'.cell? ⟨p.sb, n * 9 + 1, none⟩ = some (.i s1):=fun w' h => Field.bkeep h d1
 have Ls2 : ∀ w', Below w1.heap.size w1 w' → w'.cell? ⟨p.sb, n * 9 + 2, none⟩ = some (.i s2):=fun w' h => Field.bkeep h d2
 have Ls3 : ∀ w', Below w1.heap.size w1 w' → w'.cell? ⟨p.sb, n * 9 + 3, none⟩ = some (.bool s3):=fun w' h => Field.bkeep h d3
 have Ls4 : ∀ w', Below w1.heap.size w1 w' → w'.cell? ⟨p.sb, n * 9 + 4, none⟩ = some (.bool s4):=fun w' h => Field.bkeep h d4
 have Ls5 : ∀ w', Below w1.heap.size w1 w' → w'.cell? ⟨p.sb, n * 9 + 5, none⟩ = some (.i s5):=fun w' h => Field.bkeep h d5
 have Ls6 : ∀ w', Below w1.heap.size w1 w' → w'.cell? ⟨p.sb, n * 9 + 6, none⟩ = some (.i s6):=fun w' h => Field.bkeep h d6
 have Ls7 : ∀ w', Below w1.heap.size w1 w' → w'.cell? ⟨p.sb, n * 9 + 7, none⟩ = some (.i s7):=fun w' h => Field.bkeep h d7
 have Ls8 : ∀ w', Below w1.heap.size w1 w' → w'.cell? ⟨p.sb, n * 9 + 8, none⟩ = some (.i s8):=fun w' h => Field.bkeep h d8
 have hKd : Below w1.heap.size w1 w1.drew:=(Below.refl _ _).drew
 clear d0 d1 d2 d3 d4 d5 d6 d7 d8 kA k5
 go_wp2_with fail
 go_region_held3 (fun w' => Below w1.heap.size w1 w') (first | assumption | exact ((Below.refl _ _).alloc (Nat.le_refl _) _) | exact ((Below.refl _ _).alloc (Nat.le_refl _) _).drew | exact ((Below.refl _ _).drew.alloc (Nat.le_refl _) _)) (fail)
 clear L5 LA Ls0 Ls1 Ls2 Ls3 Ls4 Ls5 Ls6 Ls7 Ls8 b0 b1 b2 hKd
 have hb2 : Below w1.heap.size w1 ((w1.alloc (.cells (Ac s0 s1 s2 s3 s4 s5 s6 s7 s8) 59)).drew):=((Below.refl _ _).alloc (Nat.le_refl _) _).drew
 have r2:=r1.below hb2
 have e2:=e1.below hb2
 have a2:=a1.below hb2
 have q2 : RowAt ((w1.alloc (.cells (Ac s0 s1 s2 s3 s4 s5 s6 s7 s8) 59)).drew) w1.heap.size (Ac s0 s1 s2 s3 s4 s5 s6 s7 s8) 59:=RowAt.new w1 _ _
 have hgs : W.heap.size + 1 < w1.heap.size:=by have:=r1.size; simp at this; omega
 clear hb2 r1 e1 a1
 generalize hwz : (w1.alloc (.cells (Ac s0 s1 s2 s3 s4 s5 s6 s7 s8) 59)).drew = w2 at *
 clear hwz
 have kS : w2.cell? ⟨w1.heap.size, 2, none⟩ = some (.i s2):=q2.cell 2
 have kb : w2.cell? ⟨w1.heap.size, 3, none⟩ = some (.bool s3):=q2.cell 3
 have kU : w2.cell? ⟨w1.heap.size, 5, none⟩ = some (.i s5):=q2.cell 5
 cases s3
 rotate_left
 ·have HR2 : RowKit.Hid (R = (M.failed 9, m)):=Lib.hid (by rw [HR.out, if_pos rfl])
  clear HR
  have hfl:=fun W => failed_any W 9
  have hf : M.failed 9 = { Ev.zero with e:=9 }:=rfl
  rw [← hf] at hfl
  generalize M.failed 9 = x at *
  clear hf
  go_wp2_with fail
  refine (hfl _).mono ?_
  rintro e w3 ⟨rfl, hb3⟩
  have r3:=r2.below hb3
  have e3:=e2.below hb3
  have hst:=e3.store x
  have hsz:=ev_size x
  clear hfl hb3
  go_wp2_with fail
  refine bR1 (W.heap.size + 1) (e3.set x) Tryz.underlying36 ?_
  rw [HR2.out]
  exact (r3.row hg0 hg1 x.cells).fin hB _
 have HR : RowKit.Hid (R = match lowFree s2 m.cf.streams with | some k => ({ Ev.zero with stream:=k }, m.turn n 14 who m.cf.streams) | none => (M.failed 10, m)):=Lib.hid (by rw [HR.out, if_neg (by simp)])
 have kN:=r2.at'.hd.c2
 rw [r2.mb] at kN
 have hok:=r2.at'.ok.conf
 simp [Conf.Cf.right, Conf.btw] at hok
 obtain ⟨-, -, ⟨hN0, hN8⟩, -⟩:=hok
 have hbd:=((right_iff _).1 (r2.at'.ok.rights _ (List.mem_of_getElem? HS.out))).1.2.2.1
 simp only at hbd
 obtain ⟨hs0, hs1⟩:=hbd
 generalize hNe : m.cf.streams = N at *
 have HNE:=Lib.hid hNe
 clear hNe
 have R2:=Lib.hid r2
 have E2:=Lib.hid e2
 have A2:=Lib.hid a2
 have Q2:=Lib.hid q2
 go_wp2_with fail
 clear r2 e2 a2 q2 kS kb kU kN
 go_loopw [34] (fun i wr => ∃ k : Nat, (k = 0 ∨ (k : Int) ≤ min N 8) ∧ i = .i k ∧ (∀ j, j < k → hasBit s2 j = true) ∧ Below w2.heap.size w2 wr) (fun i _ => 8 - (intOf i).toNat)
 case atStart => exact ⟨0, .inl rfl, rfl, fun j hj => absurd hj (by omega), Below.refl _ _⟩
 case round =>
  obtain ⟨k, hk, rfl, hall, hb⟩:=hrel
  have r2:=R2.out.below hb
  have e2:=E2.out.below hb
  have a2:=A2.out.below hb
  have q2:=Q2.out.below hb
  have HB:=Lib.hid hb
  have HALL:=Lib.hid hall
  have l0 : (0 : Int) ≤ (k : Int):=by omega
  have kS : wr.cell? ⟨w1.heap.size, 2, none⟩ = some (.i s2):=q2.cell 2
  clear hb hall
  by_cases hlt : (k : Int) < min N 8
  ·have l1 : (k : Int) < N:=by omega
   have l2 : k < 8:=by omega
   have hp1:=(Life.pow_val k l2).1
   have hp2:=(Life.pow_val k l2).2
   have hne : ((2 : Int) ^ k == 0) = false:=by simp; omega
   have hnd:=Life.bit_and s2 k ⟨hs0, hs1⟩ l2
   have HL:=Lib.hid (Life.lowFree_some s2 N k hlt)
   clear hlt hk
   cases hb : hasBit s2 k
   ·rw [hb] at hnd
    simp only [Bool.false_eq_true, if_false] at hnd
    have HR2 : RowKit.Hid (R = ({ Ev.zero with stream:=k }, m.turn n 14 who N)):=Lib.hid (by rw [HR.out, HL.out hb HALL.out])
    clear hb HL
    go_wp2_with fail
    go_region
    go_wp2_with fail
    have r3:=r2.drew.drew
    have kA : wr.drew.drew.cell? ⟨W.heap.size, 4, none⟩ = some (.i n):=a2.cell 4
    have kN:=r3.at'.hd.c2
    rw [r3.mb, HNE.out] at kN
    have ht:=m_turn' r3.at' n 14 n 14 who N _ HS.out rfl rfl (by simp [Done])
    rw [r3.mb] at ht
    have hw0 : W.heap.size ≠ p.sb:=fun e => r3.not (Nat.le_refl _) (Nat.lt_trans (Nat.lt_succ_self _) hg1) (.inr (.inl (e.trans r3.sb.symm)))
    have hm0 : p.mb ≠ p.sb:=by have:=r3.at'.ne.2.1; rwa [r3.mb, r3.sb] at this
    have hl4 : W.heap.size < wr.drew.drew.heap.size:=by have:=r3.size; omega
    have hlm : p.mb < wr.drew.drew.heap.size:=World.block_lt_of_cell? _ _ kN
    refine wp_region_held_drew (S:=fun w' => w'.cell? ⟨W.heap.size, 4, none⟩ = some (.i n) ∧ w'.cell? ⟨p.mb, 2, none⟩ = some (.i N)) (by kernel_rfl) (by exact ⟨kA, kN⟩) (fun hHeld => ?_)
    refine tKw (gd:=none) 0 43 (.move (.tmp 0)) ((.pointer (some ⟨p.mb, 0, none⟩))) (run_move_of (.tmp 0) (.pointer (some ⟨p.mb, 0, none⟩)) (by kernel_rfl)) hHeld ?_
    try simp only [Act.put, sA, sZ, sS]
    refine tKg 1 44 hHeld ?_
    try simp only [Act.put, sA, sZ, sS]
    refine tKg 2 45 hHeld ?_
    try simp only [Act.put, sA, sZ, sS]
    refine tKw (gd:=none) 3 46 (.move (.tmp 1)) ((.i who)) (run_move_of (.tmp 1) (.i who) (by kernel_rfl)) hHeld ?_
    try simp only [Act.put, sA, sZ, sS]
    refine tKw (gd:=none) 4 47 (.move (.tmp 0)) ((.pointer (some ⟨p.mb, 0, none⟩))) (run_move_of (.tmp 0) (.pointer (some ⟨p.mb, 0, none⟩)) (by kernel_rfl)) hHeld ?_
    try simp only [Act.put, sA, sZ, sS]
    refine tKg 5 48 hHeld ?_
    try simp only [Act.put, sA, sZ, sS]
    refine tKg 6 49 hHeld ?_
    try simp only [Act.put, sA, sZ, sS]
    refine tKg 7 50 hHeld ?_
    try simp only [Act.put, sA, sZ, sS]
    refine tKg 8 51 hHeld ?_
    try simp only [Act.put, sA, sZ, sS]
    refine rKc (i:=9) 63 #[.tmp 43, .tmp 45, .const (.i 14), .tmp 46, .tmp 51] #[27, 3, 3, 3, 3] (some 52) (none) #[.pointer (some ⟨p.mb, 0, none⟩), .i n, .i 14, .i who, .i N] (enters_of Tryz.func63 (by kernel_rfl) rfl) ?_
    refine (ht).mono ?_
    rintro e w4 ⟨rfl, h4, hc4⟩
    refine ⟨_, rfl, ⟨(hc4.cell hl4 (by rw [r3.sb]; exact hw0)).trans kA, (hc4.cell hlm (by rw [r3.sb]; exact hm0)).trans kN⟩, fun hH2 => ?_⟩
    try simp only [Act.put, sA, sZ, sS]
    refine wpAnyH_done (by kernel_rfl) ?_ _
    have r4:=r3.slots h4 hc4
    have e4 : ERow w4 (W.heap.size + 1):=ERow.chg (w:=wr.drew.drew) e2 hc4 (fun e => r3.not hg0 hg1 (.inr (.inl e)))
    clear ht h4 hc4 hHeld hH2 r3 kA kN
    go_upto_region 12 with (fail)
    obtain ⟨Z, z1, z2⟩:=e4
    refine wp_region_lit ?_
    refine RowL.gl (.i k) ?_ (by go_simp; try rfl)
    refine RowL.gl (({ Ev.zero with stream:=k } : Ev)).val ?_ (by go_simp; try rfl)
    refine RowL.gSt z2 (({ Ev.zero with stream:=k } : Ev)).cells 36 (.tmp 6) (.tmp 54) ?_ (hsz:=z1) (h1:=ev_one _)
    go_wp2_with fail
    refine bR1 (W.heap.size + 1) (z2.set _) Tryz.underlying36 ?_
    rw [HR2.out]
    exact (r4.row hg0 hg1 _).fin hB _
   ·rw [hb] at hnd
    simp only [if_true] at hnd
    have HALL2 : RowKit.Hid (∀ j, j < k + 1 → hasBit s2 j = true):=Lib.hid (fun j hj => by
     rcases Nat.lt_succ_iff_lt_or_eq.1 hj with h | rfl
     ·exact HALL.out j h
     ·exact hb)
    clear hb HL
    go_wp2_with fail
    go_region
    go_wp2_with fail
    go_roundw
    case rel => exact ⟨k + 1, .inr (by omega), by go_num, HALL2.out, HB.out.drew⟩
    case measure => simp [intOf]; omega
  ·have l1 : ¬ ((k : Int) < N):=by omega
   have HR2 : RowKit.Hid (R = (M.failed 10, m)):=Lib.hid (by rw [HR.out, Life.lowFree_none s2 N k (by omega) HALL.out])
   clear hlt hk
   have hfl:=fun W => failed_any W 10
   have hf : M.failed 10 = { Ev.zero with e:=10 }:=rfl
   rw [← hf] at hfl
   generalize M.failed 10 = x at *
   clear hf
   go_wp2_with fail
   refine (hfl _).mono ?_
   rintro e w3 ⟨rfl, hb3⟩
   have r3:=r2.below hb3
   have e3:=e2.below hb3
   have hst:=e3.store x
   have hsz:=ev_size x
   clear hfl hb3
   go_wp2_with fail
   refine bR1 (W.heap.size + 1) (e3.set x) Tryz.underlying36 ?_
   rw [HR2.out]
   exact (r3.row hg0 hg1 x.cells).fin hB _
end Go.Proofs.YtpmkgddjgebojaaGreatDoor.Mod
