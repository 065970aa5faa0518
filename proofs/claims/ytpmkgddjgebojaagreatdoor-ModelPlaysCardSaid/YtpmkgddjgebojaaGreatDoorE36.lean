/- Part 36 of the walks and plain laws that the last text joins. -/
import Derived.Test.YtpmkgddjgebojaaGreatDoorE33
set_option maxRecDepth 100000
set_option maxHeartbeats 16000000
set_option linter.unusedVariables false
set_option linter.unusedSimpArgs false
namespace Go.Proofs.YtpmkgddjgebojaaGreatDoor.Mod
open Go.RowKit Hp Slot RowL Life R8
theorem q_get_any {W : World} {p : Ql} {m : M} (h : QAt W p m) (who : Int) (a : Ask) (hc : m.closed = 0) (hf0 : m.first 0 who = none) (i : Nat) (hf1 : m.first 1 0 = some i) :
  Calls Tryz.prog 42 #[.pointer (some ⟨p.mb, 0, none⟩), .i who, a.val] W (QPost W p (.tuple #[(m.get who a).1.1.val, .bool (m.get who a).1.2]) (m.get who a).2):=by
 obtain ⟨s, hs, -⟩:=first_some hf1
 have HS:=Lib.hid hs
 have hsl : m.slot i = s:=M.slot_of hs
 have hil : i < m.ss.length:=(List.getElem?_eq_some_iff.1 hs).1
 clear hs
 have HR2 : RowKit.Hid (m.get who a = ((((m.turn i 3 who 0).move s.own who).leased i, true), (m.turn i 3 who 0).move s.own who)):=Lib.hid (by unfold M.get; rw [if_neg (by simp [hc]), hf0]; simp only; rw [first_one, hf1]; simp only; rw [hsl])
 generalize m.get who a = R at *
 have hlt : p.mb < W.heap.size:=h.lt (.inl rfl)
 obtain ⟨op, dl, wt, fo, sl, ge, st⟩:=a
 simp only [Ask.val, Ask.cells] at *
 have hB : Below W.heap.size W ((W.alloc (.cells (Ad op dl wt fo sl ge st) 25)).alloc (.cells Zv 36)):=((Below.refl _ _).alloc (Nat.le_refl _) _).alloc (by simp) _
 have r0 : Rq W.heap.size ((W.alloc (.cells (Ad op dl wt fo sl ge st) 25)).alloc (.cells Zv 36)) p ((W.alloc (.cells (Ad op dl wt fo sl ge st) 25)).alloc (.cells Zv 36)) p m:=Rq.begin h hB
 have e0 : ERow ((W.alloc (.cells (Ad op dl wt fo sl ge st) 25)).alloc (.cells Zv 36)) (W.heap.size + 1):=⟨Zv, rfl, heap_alloc2_new W _ _⟩
 have hg1 : W.heap.size + 1 < ((W.alloc (.cells (Ad op dl wt fo sl ge st) 25)).alloc (.cells Zv 36)).heap.size:=by simp
 have hg0 : W.heap.size ≤ W.heap.size + 1:=by omega
 have a0 : RowAt ((W.alloc (.cells (Ad op dl wt fo sl ge st) 25)).alloc (.cells Zv 36)) W.heap.size (Ad op dl wt fo sl ge st) 25:=heap_alloc2_old W _ _
 have k8:=r0.at'.hd.c8
 have hcb:=r0.at'.ok.closed
 have k8' : ¬ (0 : Int) < m.closed:=by omega
 have hc2:=Lib.hid hc
 clear hc hcb
 clear a0 hsl
 go_enter Tryz.func42, Tryz.ntmps42
 go_upto_region 1 with (fail)
 generalize ((W.alloc (.cells (Ad op dl wt fo sl ge st) 25)).alloc (.cells Zv 36)) = wb at *
 have hq1:=q_first r0.at' 0 who (by simp)
 rw [r0.mb, hf0] at hq1
 simp only [firstInt] at hq1
 go_wp2_with fail
 refine hq1.mono ?_
 rintro e w1 ⟨rfl, hb1⟩
 have r1:=r0.below hb1
 have e1:=e0.below hb1
 clear hq1 hb1 r0 e0
 have hq2:=q_first r1.at' 1 0 (by simp)
 rw [r1.mb, hf1] at hq2
 simp only [firstInt] at hq2
 go_wp2_with fail
 refine hq2.mono ?_
 rintro e w2 ⟨rfl, hb2⟩
 have r2:=r1.below hb2
 have e2:=e1.below hb2
 clear hq2 hb2 r1 e1
 have hns:=r2.at'.ok.ns
 have i0 : (0 : Int) ≤ (i : Int):=by omega
 have i1 : (i : Int) < (m.ss.length : Int):=by omega
 have i2 : (i : Int) ≤ (m.ss.length : Int) - 1:=by omega
 have k5:=r2.at'.hd.c5
 have kO:=(r2.at'.slots.get HS.out).2.1
 rw [r2.mb, r2.sb] at k5
 rw [r2.sb] at kO
 have ht:=q_do r2.at' i 3 i 3 who 0 s HS.out rfl rfl (by simp [Done])
 rw [r2.mb] at ht
 go_wp2_with fail
 refine ht.mono ?_
 rintro e w3 ⟨rfl, h3, hc3⟩
 have r3:=r2.slots h3 hc3
 have e3:=e2.chg hc3 (fun e => r2.not hg0 hg1 (.inr (.inl e)))
 have hall:=mvN_all s.own who (turnL m.ss i 3 who 0) true
 have hln : (turnL m.ss i 3 who 0).length = m.ss.length:=turnL_len _ _ _ _ _
 rw [hln] at hall
 have HALL:=Lib.hid hall
 have HLN:=Lib.hid hln
 clear ht h3 hc3 r2 e2 k5 kO hall hln i0 i1 i2
 go_wp2_with fail
 go_loopw [10, 11] (fun tv kv wr => ∃ w', w' = wr ∧ ∃ k : Nat, k ≤ m.ss.length ∧ kv = .i k ∧ tv = .bool (mvN s.own who k (turnL m.ss i 3 who 0, true)).2 ∧ Rq W.heap.size wb p w' p { m with ss:=(mvN s.own who k (turnL m.ss i 3 who 0, true)).1 } ∧ ERow w' (W.heap.size + 1)) (fun _ kv _ => m.ss.length - (intOf kv).toNat)
 case atStart => exact ⟨_, rfl, 0, by omega, rfl, rfl, r3, e3⟩
 case round =>
  clear r3 e3
  obtain ⟨wr2, rfl, k, hk, rfl, rfl, r4, e4⟩:=hrel
  have hlen:=mvN_len s.own who k (turnL m.ss i 3 who 0, true)
  have hnx:=fun t ht => mv_next (victim:=s.own) (who:=who) (i:=k) (r:=(turnL m.ss i 3 who 0, true)) (t:=t) ht
  have hsk:=fun t ht => mv_skip (victim:=s.own) (who:=who) (i:=k) (r:=(turnL m.ss i 3 who 0, true)) (t:=t) ht
  have hrr : k = m.ss.length → M.move (m.turn i 3 who 0) s.own who = { m with ss:=(mvN s.own who k (turnL m.ss i 3 who 0, true)).1 }:=fun e => by
   subst e
   unfold M.move M.turn
   rw [HALL.out]
  have HRR:=Lib.hid hrr
  generalize mvN s.own who k (turnL m.ss i 3 who 0, true) = q at *
  obtain ⟨ss, tk⟩:=q
  simp only at hlen hnx hsk r4
  rw [HLN.out] at hlen
  have k5:=r4.at'.hd.c5
  simp only [hlen] at k5
  have b0 : (0 : Int) ≤ (k : Int):=by omega
  clear hrr
  by_cases hlt : k < m.ss.length
  ·obtain ⟨t, htk⟩ : ∃ t, ss[k]? = some t:=⟨_, List.getElem?_eq_getElem (by omega)⟩
   have HT:=Lib.hid htk
   have HNX:=Lib.hid (hnx t htk)
   have HSK:=Lib.hid (hsk t htk)
   obtain ⟨d0, d1, d2, d3, d4, d5, d6, d7, d8⟩:=r4.at'.slots.get htk
   have b1 : (k : Int) < (m.ss.length : Int):=by omega
   have b2 : (k : Int) ≤ (m.ss.length : Int) - 1:=by omega
   have hf:=fun w => Find.ref_fits w t 0 s.own (.inl rfl)
   clear hnx hsk htk HALL HRR hlen
   cases hfb : Find.fits t 0 s.own with
   | false =>
    rw [hfb] at hf
    have HX:=Lib.hid (HSK.out hfb)
    clear hfb HNX HSK
    go_wp2_with fail
    refine (hf _).mono ?_
    rintro e w5 ⟨rfl, hb5⟩
    have r5:=r4.below hb5
    have e5:=e4.below hb5
    clear hb5 hf d0 d1 d2 d3 d4 d5 d6 d7 d8 r4 e4 k5
    go_wp2_with fail
    go_round
    case rel => exact ⟨_, rfl, k + 1, by omega, rfl, by rw [HX.out], by rw [HX.out]; exact r5, e5⟩
    case measure => simp [intOf] <;> omega
   | true =>
    rw [hfb] at hf
    have HX:=Lib.hid (HNX.out hfb)
    clear hfb HNX HSK
    go_wp2_with fail
    refine (hf _).mono ?_
    rintro e w5 ⟨rfl, hb5⟩
    have r5:=r4.below hb5
    have e5:=e4.below hb5
    clear hb5 hf d0 d1 d2 d3 d4 d5 d6 d7 d8 r4 e4 k5
    cases tk
    ·go_wp2_with fail
     go_round
     case rel => exact ⟨_, rfl, k + 1, by omega, rfl, by rw [HX.out]; rfl, by rw [HX.out]; exact r5, e5⟩
     case measure => simp [intOf] <;> omega
    ·have ht:=q_do r5.at' k 9 k 9 who 0 t HT.out rfl rfl (by simp [Done])
     go_wp2_with fail
     refine ht.mono ?_
     rintro e w6 ⟨rfl, h6, hc6⟩
     have r6:=r5.slots h6 hc6
     have e6:=e5.chg hc6 (fun e => r5.not hg0 hg1 (.inr (.inl e)))
     clear ht h6 hc6 r5 e5
     go_wp2_with fail
     go_round
     case rel => exact ⟨_, rfl, k + 1, by omega, rfl, by rw [HX.out]; rfl, by
      have hz : M.turn { m with ss:=ss } k 9 who 0 = { m with ss:=(mvN s.own who (k + 1) (turnL m.ss i 3 who 0, true)).1 }:=by
       rw [HX.out]
       unfold M.turn turnL
       simp only [HT.out]
       rfl
      rw [← hz]
      exact r6, e6⟩
     case measure => simp [intOf] <;> omega
  ·obtain rfl : k = m.ss.length:=by omega
   have HM:=Lib.hid (HRR.out rfl)
   have r5:=r4
   rw [← HM.out] at r5
   obtain ⟨s9, hs9⟩ : ∃ s9, (M.move (m.turn i 3 who 0) s.own who).ss[i]? = some s9:=⟨_, List.getElem?_eq_getElem (by rw [HM.out]; simp only; omega)⟩
   have hle:=q_leased r5.at' i i _ hs9 rfl
   clear hnx hsk HALL HRR hlen HM r4 hs9
   generalize hmv : M.move (m.turn i 3 who 0) s.own who = mm at *
   clear hmv
   generalize mm.leased i = x at *
   go_wp2_with fail
   refine hle.mono ?_
   rintro e w5 ⟨rfl, hb5⟩
   have r6:=r5.below hb5
   have e6:=e4.below hb5
   clear hle hb5 r5 e4 k5
   have hst:=e6.store x
   have hsz:=ev_size x
   go_wp2_with fail
   refine bR2 (W.heap.size + 1) (e6.set x) Tryz.underlying36 ?_
   rw [HR2.out]
   exact (r6.row hg0 hg1 x.cells).fin hB _
end Go.Proofs.YtpmkgddjgebojaaGreatDoor.Mod
