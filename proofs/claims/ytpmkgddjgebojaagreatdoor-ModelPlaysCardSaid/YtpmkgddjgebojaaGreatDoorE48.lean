/- Part 48 of the walks and plain laws that the last text joins. -/
import Derived.Test.YtpmkgddjgebojaaGreatDoorE42
import Derived.Test.YtpmkgddjgebojaaGreatDoorE47
set_option maxRecDepth 100000
set_option maxHeartbeats 16000000
set_option linter.unusedVariables false
set_option linter.unusedSimpArgs false
namespace Go.Proofs.YtpmkgddjgebojaaGreatDoor.Mod
open Go.RowKit Hp Slot RowL Life R8
theorem modelPlays_walk (W : World) (hL : Laid W) (ga gb gc gd ge : Int) (xa : 0 ≤ ga ∧ ga < 256) (xb : 0 ≤ gb ∧ gb < 256) (xc : 0 ≤ gc ∧ gc < 256) (xd : 0 ≤ gd ∧ gd < 256) (xe : 0 ≤ ge ∧ ge < 256) (lv : Value) (l : List Tn) (hl : TurnsAt W lv l) :
  Calls Tryz.prog 5 #[.agg #[.int .u8 ga, .int .u8 gb, .int .u8 gc, .int .u8 gd, .int .u8 ge], lv] W fun e W' => e = .returned (.bool true) ∧ Below W.heap.size W W':=by
 have hbA : Below W.heap.size W (W.alloc (.cells #[.int .u8 ga, .int .u8 gb, .int .u8 gc, .int .u8 gd, .int .u8 ge] 49)):=(Below.refl _ _).alloc (Nat.le_refl _) _
 have haw:=awake_any (W.alloc (.cells #[.int .u8 ga, .int .u8 gb, .int .u8 gc, .int .u8 gd, .int .u8 ge] 49)) (hL.stable (hbA.block 0 (hL.lt (by decide))))
 have rA : RowAt (W.alloc (.cells #[.int .u8 ga, .int .u8 gb, .int .u8 gc, .int .u8 gd, .int .u8 ge] 49)) W.heap.size #[.int .u8 ga, .int .u8 gb, .int .u8 gc, .int .u8 gd, .int .u8 ge] 49:=RowAt.new _ _ _
 have hpos : 0 < W.heap.size:=hL.lt (by decide)
 have HLd:=Lib.hid hL
 have HL:=Lib.hid hl
 obtain ⟨a, cp, rfl, htok, hcells⟩:=hl
 clear hcells hL htok
 go_enter Tryz.func5, Tryz.ntmps5
 go_wp2_with fail
 refine haw.mono ?_
 rintro e w1 ⟨rfl, hb1⟩
 have r1:=rA.below hb1
 clear haw rA
 by_cases hn : l.length ≤ 60
 rotate_left
 ·have hn' : (60 : Int) < l.length:=by omega
  go_wp2
  go_ret
  exact ⟨rfl, hbA.trans (hb1.mono hbA.size)⟩
 have hn' : ¬ (60 : Int) < l.length:=by omega
 have d0 : w1.cell? ⟨W.heap.size, 0, none⟩ = some (.int .u8 ga):=r1.cell 0
 have d1 : w1.cell? ⟨W.heap.size, 1, none⟩ = some (.int .u8 gb):=r1.cell 1
 have d2 : w1.cell? ⟨W.heap.size, 2, none⟩ = some (.int .u8 gc):=r1.cell 2
 have d3 : w1.cell? ⟨W.heap.size, 3, none⟩ = some (.int .u8 gd):=r1.cell 3
 have d4 : w1.cell? ⟨W.heap.size, 4, none⟩ = some (.int .u8 ge):=r1.cell 4
 have hcf:=conf_any w1 ga gb gc gd ge xa xb xc xd xe
 have hcr:=confOf_right ga gb gc gd ge
 generalize confOf ga gb gc gd ge = c at *
 have hlb:=HL.out.below (hbA.trans (hb1.mono hbA.size))
 go_wp2_with fail
 refine hcf.mono ?_
 rintro e w2 ⟨rfl, hb2⟩
 clear hcf d0 d1 d2 d3 d4 r1
 have rz:=RowAt.new w2 (Aa 0 0 0 0 0) 23
 have hst:=conf_store rz rfl c
 have row3:=rz.set c.cells
 have hb3 : Below w2.heap.size w2 ((w2.alloc (.cells (Aa 0 0 0 0 0) 23)).setRow w2.heap.size c.cells):=below_setRow ((Below.refl _ _).alloc (Nat.le_refl _) _) (Nat.le_refl _) _
 have hb13 : Below w1.heap.size w1 ((w2.alloc (.cells (Aa 0 0 0 0 0) 23)).setRow w2.heap.size c.cells):=hb2.trans (hb3.mono hb2.size)
 have hbW : Below W.heap.size W ((w2.alloc (.cells (Aa 0 0 0 0 0) 23)).setRow w2.heap.size c.cells):=(hbA.trans (hb1.mono hbA.size)).trans (hb13.mono (Nat.le_trans hbA.size hb1.size))
 have hcb : W.heap.size ≤ w2.heap.size:=Nat.le_trans hbA.size (Nat.le_trans hb1.size hb2.size)
 have hsc : c.cells.size = 5:=rfl
 go_upto_region 5 with (fail)
 generalize (w2.alloc (.cells (Aa 0 0 0 0 0) 23)).setRow w2.heap.size c.cells = w3 at *
 generalize w2.heap.size = cb at *
 clear hst rz hb13 hb3 hb2 hb1 hbA hsc hlb
 have hL3 : Laid w3:=HLd.out.stable (hbW.block 0 (HLd.out.lt (by decide)))
 have hl3:=HL.out.below hbW
 refine wp_region_lit ?_
 refine RowL.grow row3 23 (.tmp 6) Tryz.underlying23 ?_
 have hpl:=m_new w3 c hcr hL3
 go_wp2_with fail
 refine hpl.mono ?_
 rintro e w4 ⟨p, rfl, hA, hnew, hb4⟩
 have row4 : RowAt w4 cb c.cells 23:=row3.below hb4
 have hcb3 : cb < w3.heap.size:=row3.lt
 have hB4 : PlayB W (fun j => j = cb) p.mb (.slice none 0 0) w4 p (M.new c) []:=⟨hpos, rfl, hA, ownS_nil _ _, fun j hj => by have:=hnew j hj; have:=hbW.size; omega, fun j hj => (fp_nil j hj).elim, fun j hj => (fp_nil j hj).elim, fun j hj => ⟨by have:=hb4.size; omega, fun hm => by have:=hnew j hm; omega, fun hm => fp_nil j hm⟩, hbW.trans (hb4.mono hbW.size)⟩
 have hInv:=Inv.new hcr
 generalize p.mb = mb at *
 clear hpl hA hnew hb4 hL3 hl3 row3 hbW
 go_upto_region 6 with (fail)
 refine wp_region_lit ?_
 refine RowL.grow row4 23 (.tmp 6) Tryz.underlying23 ?_
 have hqn:=q_new w4 c hcr
 go_wp2_with fail
 refine hqn.mono ?_
 rintro e w5 ⟨q, rfl, hqa, hqb, hb5⟩
 have hQ5:=PQ.start hB4 hb5 hqa hqb
 have row5:=row4.below hb5
 generalize q.mb = qb at *
 generalize q.wb = qw at *
 clear hqn hqa hqb hb5 hB4 row4 hcb3 hInv
 obtain ⟨i0, hi, hz0, hz1, hz2⟩:=info_parts ev_info
 have HC:=Lib.hid hcr
 clear hcr
 go_wp2_with fail
 go_loopw [10, 11] (fun ev i wr => ∃ k : Nat, k ≤ l.length ∧ i = .i k ∧ ∃ p q m evs, PQ W (fun j => j = cb) mb qb qw ev wr p q m m evs ∧ Played c k m evs ∧ RowAt wr cb c.cells 23) (fun _ i _ => l.length - (intOf i).toNat)
 case atStart => exact ⟨0, by omega, rfl, p, q, _, _, hQ5, .new, row5⟩
 case round =>
  rename_i wr
  clear hQ5 row5
  obtain ⟨k, hk, rfl, p, q, m, evs, hQ, hran, hrow⟩:=hrel
  by_cases hlt : k < l.length
  ·have hB:=hQ.play
   obtain ⟨t, ht⟩ : ∃ t, l[k]? = some t:=⟨_, List.getElem?_eq_getElem hlt⟩
   have hTw:=HL.out.below hB.below
   obtain ⟨a', cp', he, htok, hT⟩:=hTw
   have hto : t.ok:=htok t (List.mem_of_getElem? ht)
   clear htok
   cases he
   rcases hT with hT | ⟨g, off, rfl, hT⟩
   ·subst hT; simp at hlt
   obtain ⟨tk, tw, tp, ts, tg, tn⟩:=t
   have hg : g < wr.heap.size:=World.block_lt_of_cell? _ _ (hT k _ ht 0 _ rfl)
   have hcell : ∀ w', Below wr.heap.size wr w' → ∀ j u, (⟨tk, tw, tp, ts, tg, tn⟩ : Tn).cells[j]? = some u → w'.cell? ⟨g, off + k * 6 + j, none⟩ = some u:=fun w' hb j u hu => (World.cell?_of_block (w:=wr) (hb.block g hg)).trans (hT k _ ht j u hu)
   have hcrow : ∀ w', Below wr.heap.size wr w' → RowAt w' cb (Aa c.workers c.slots c.streams c.waiters c.uses) 23:=fun w' hb => hrow.below hb
   have hent : ∀ w', Below wr.heap.size wr w' → Calls Tryz.prog 21 #[.agg #[.int .u8 tk, .int .u8 tw, .int .u8 tp, .int .u8 ts, .int .u8 tg, .int .u8 tn], .agg (Aa c.workers c.slots c.streams c.waiters c.uses), u10] w' (EntryP w'):=fun w' hb =>
    entry_any w' tk tw tp ts tg tn hto.1 hto.2.1 hto.2.2.1 hto.2.2.2.1 hto.2.2.2.2.1 hto.2.2.2.2.2 c HC.out u10 evs (by have:=hran.len; omega) (hB.evs.stable hb.size (fun j hj => hb.block j (hB.evs.lt hj)))
   have HT:=Lib.hid hT
   have b0 : (0 : Int) ≤ (k : Int):=by omega
   have b1 : (k : Int) < (l.length : Int):=by omega
   have b2 : (k : Int) ≤ (l.length : Int) - 1:=by omega
   clear hT
   go_upto_region 13 with (fail)
   go_cut [12] from 48 to 174 (fun s9 wx => (∃ eb : Nat, s9 = .pointer (some ⟨eb, 0, none⟩) ∧ wr.heap.size ≤ eb ∧ ∃ x : En, RowAt wx eb x.cells 54 ∧ x.ok) ∧ Below wr.heap.size wr wx)
   case first =>
    rename_i JJ KK hJJ hKK
    refine wp_region_held_drew (S:=fun w' => Below wr.heap.size wr w') (by kernel_rfl) (by exact (Below.refl _ _).drew) (fun hHeld => ?_)
    refine tKg 0 54 hHeld ?_
    try simp only [Act.put, sA, sZ, sS]
    refine tKg 1 55 hHeld ?_
    try simp only [Act.put, sA, sZ, sS]
    refine tKg 2 56 hHeld ?_
    try simp only [Act.put, sA, sZ, sS]
    refine takeg (i:=3) (d:=some 57) (v:=?_) (by kernel_rfl) (by kernel_rfl) (by kernel_rfl) (by kernel_rfl) (fun _ _ _ h => h) (by kernel_rfl) ?_ hHeld ?_
    rotate_left
    ·intro w hSw
     try dsimp only at hSw
     have c0 : w.cell? ⟨g, off + k * 6, none⟩ = some (.int .u8 tk):=hcell w hSw 0 _ rfl
     have c1 : w.cell? ⟨g, off + k * 6 + 1, none⟩ = some (.int .u8 tw):=hcell w hSw 1 _ rfl
     have c2 : w.cell? ⟨g, off + k * 6 + 2, none⟩ = some (.int .u8 tp):=hcell w hSw 2 _ rfl
     have c3 : w.cell? ⟨g, off + k * 6 + 3, none⟩ = some (.int .u8 ts):=hcell w hSw 3 _ rfl
     have c4 : w.cell? ⟨g, off + k * 6 + 4, none⟩ = some (.int .u8 tg):=hcell w hSw 4 _ rfl
     have c5 : w.cell? ⟨g, off + k * 6 + 5, none⟩ = some (.int .u8 tn):=hcell w hSw 5 _ rfl
     go_simp
     try with_reducible rfl
    try simp only [Act.put, sA, sZ, sS]
    refine takeg (i:=4) (d:=some 58) (v:=?_) (by kernel_rfl) (by kernel_rfl) (by kernel_rfl) (by kernel_rfl) (fun _ _ _ h => h) (by kernel_rfl) ?_ hHeld ?_
    rotate_left
    ·intro w hSw
     try dsimp only at hSw
     have c0 : w.cell? ⟨cb, 0, none⟩ = some (.i c.workers):=(hcrow w hSw).cell 0
     have c1 : w.cell? ⟨cb, 1, none⟩ = some (.i c.slots):=(hcrow w hSw).cell 1
     have c2 : w.cell? ⟨cb, 2, none⟩ = some (.i c.streams):=(hcrow w hSw).cell 2
     have c3 : w.cell? ⟨cb, 3, none⟩ = some (.i c.waiters):=(hcrow w hSw).cell 3
     have c4 : w.cell? ⟨cb, 4, none⟩ = some (.i c.uses):=(hcrow w hSw).cell 4
     go_simp
     try with_reducible rfl
    try simp only [Act.put, sA, sZ, sS]
    refine tKg 5 59 hHeld ?_
    try simp only [Act.put, sA, sZ, sS]
    refine ready2 (i:=6) (k:=7) (by kernel_rfl) ?_ ?_
    ·refine step_call 21 #[.tmp 57, .tmp 58, .tmp 59] #[57, 23, 52] (some 60) none (by kernel_rfl) (by kernel_rfl) #[.agg #[.int .u8 tk, .int .u8 tw, .int .u8 tp, .int .u8 ts, .int .u8 tg, .int .u8 tn], .agg (Aa c.workers c.slots c.streams c.waiters c.uses), u10] (by go_simp; try rfl) (enters_of Tryz.func21 (by kernel_rfl) rfl) ?_
     refine (hent _ hHeld).mono ?_
     rintro e w2 ⟨x, rfl, hx, hb2⟩
     have hb2' : Below wr.heap.size wr w2:=hHeld.trans (hb2.mono hHeld.size)
     refine ⟨_, rfl, hb2', fun hH2 => ?_⟩
     try simp only [Act.put, sA, sZ, sS]
     have hb3 : Below wr.heap.size wr (w2.alloc (.cells (Ab 0 0 0 0 false false 0 0 0 0 false) 54)):=hb2'.alloc hb2'.size _
     refine ready1 (i:=7) (by kernel_rfl) (step_run (w':=w2.alloc (.cells (Ab 0 0 0 0 false false 0 0 0 0 false) 54)) (some 12) (.pointer (some ⟨w2.heap.size, 0, none⟩)) (by kernel_rfl) (by kernel_rfl) (by go_simp; try rfl) hb3 (fun _ => ?_))
     try simp only [Act.put, sA, sZ, sS]
     have rz:=RowAt.new w2 (Ab 0 0 0 0 false false 0 0 0 0 false) 54
     have hb4 : Below wr.heap.size wr ((w2.alloc (.cells (Ab 0 0 0 0 false false 0 0 0 0 false) 54)).setRow w2.heap.size x.cells):=below_setRow hb3 hb2'.size _
     have rx:=rz.set x.cells
     refine ready1 (i:=8) (by kernel_rfl) (step_store_row 54 (.tmp 12) (.tmp 60) (by kernel_rfl) w2.heap.size 54 (Ab 0 0 0 0 false false 0 0 0 0 false) x.cells rfl rfl rz rfl (by kernel_rfl) (by simp [En.cells, Value.oneCell']) hb4 (fun _ => ?_))
     try simp only [Act.put, sA, sZ, sS]
     refine wpAnyH_done (by kernel_rfl) ?_ _
     refine hKK _ _ (Met.intro (hJJ _ _ ?_))
     (repeat apply Exists.intro)
     refine ⟨?rel, rfl⟩
     case rel => exact ⟨⟨w2.heap.size, rfl, hb2'.size, x, rx, hx⟩, hb4⟩
    ·have hb3 : Below wr.heap.size wr (wr.drew.alloc (.cells (Ab 0 0 0 0 false false 0 0 0 0 false) 54)):=hHeld.alloc hHeld.size _
     refine step_run (w':=wr.drew.alloc (.cells (Ab 0 0 0 0 false false 0 0 0 0 false) 54)) (some 12) (.pointer (some ⟨wr.heap.size, 0, none⟩)) (by kernel_rfl) (by kernel_rfl) (by go_simp; try rfl) hb3 (fun _ => ?_)
     try simp only [Act.put, sA, sZ, sS]
     have rz:=RowAt.new wr.drew (Ab 0 0 0 0 false false 0 0 0 0 false) 54
     refine ready1 (i:=6) (by kernel_rfl) ?_
     refine step_call 21 #[.tmp 57, .tmp 58, .tmp 59] #[57, 23, 52] (some 60) none (by kernel_rfl) (by kernel_rfl) #[.agg #[.int .u8 tk, .int .u8 tw, .int .u8 tp, .int .u8 ts, .int .u8 tg, .int .u8 tn], .agg (Aa c.workers c.slots c.streams c.waiters c.uses), u10] (by go_simp; try rfl) (enters_of Tryz.func21 (by kernel_rfl) rfl) ?_
     refine (hent _ hb3).mono ?_
     rintro e w2 ⟨x, rfl, hx, hb2⟩
     have hb2' : Below wr.heap.size wr w2:=hb3.trans (hb2.mono hb3.size)
     refine ⟨_, rfl, hb2', fun hH2 => ?_⟩
     try simp only [Act.put, sA, sZ, sS]
     have rz2 : RowAt w2 wr.heap.size (Ab 0 0 0 0 false false 0 0 0 0 false) 54:=rz.below hb2
     have hb4 : Below wr.heap.size wr (w2.setRow wr.heap.size x.cells):=below_setRow hb2' (Nat.le_refl _) _
     have rx:=rz2.set x.cells
     refine ready1 (i:=8) (by kernel_rfl) (step_store_row 54 (.tmp 12) (.tmp 60) (by kernel_rfl) wr.heap.size 54 (Ab 0 0 0 0 false false 0 0 0 0 false) x.cells rfl rfl rz2 rfl (by kernel_rfl) (by simp [En.cells, Value.oneCell']) hb4 (fun _ => ?_))
     try simp only [Act.put, sA, sZ, sS]
     refine wpAnyH_done (by kernel_rfl) ?_ _
     refine hKK _ _ (Met.intro (hJJ _ _ ?_))
     (repeat apply Exists.intro)
     refine ⟨?rel, rfl⟩
     case rel => exact ⟨⟨wr.heap.size, rfl, Nat.le_refl _, x, rx, hx⟩, hb4⟩
   case rest =>
    obtain ⟨⟨eb, rfl, heb, x, rx, hx⟩, hb8⟩:=hcut
    generalize wc = w8 at *
    have hB8:=hB.below' hb8
    have hrow8:=hrow.below hb8
    obtain ⟨xk, xw, ⟨op, dl, wt, fo, sl, ge, st⟩, xn, xg⟩:=x
    simp only [En.cells] at rx
    obtain ⟨KS, hQ8, hKo, hKn⟩:=hQ.keepX hb8
    have hKe : KS eb:=hKn _ heb rx.lt
    have hKc : KS cb:=hKo _ rfl
    have hS8:=hQ.same hb8
    clear hcell hcrow hent hKo hKn hB8
    have hQ9:=hQ8
    have hrow9:=hrow8
    have hw9 : w8 = w8:=rfl
    generalize w8 = w9 at *
    clear hQ8 hrow8 hQ hB hrow hb8 hw9 hS8
    have hI:=hran.inv HC.out
    have hran2:=hran.step ⟨xk, xw, ⟨op, dl, wt, fo, sl, ge, st⟩, xn, xg⟩ hx
    have HMD:=Lib.hid hI.toMid
    clear hI
    have e0 : w9.cell? ⟨eb, 0, none⟩ = some (.i xk):=rx.cell 0
    go_upto_block 2 with (fail)
    clear e0
    go_cut [10, 13, 14, 15, 16, 17, 18, 19, 20, 21, 22] from 48 to 174 (fun s10 s13 s14 s15 s16 s17 s18 s19 s20 s21 s22 wx => Sq W KS mb qb qw w9 m evs ⟨xk, xw, ⟨op, dl, wt, fo, sl, ge, st⟩, xn, xg⟩ s10 wx)
    case first =>
     have e0 : w9.cell? ⟨eb, 0, none⟩ = some (.i xk):=rx.cell 0
     by_cases hk0 : xk = 0
     ·as_aux_lemma =>
       subst hk0
       have hm:=m_ask hQ9.play.at' xw ⟨op, dl, wt, fo, sl, ge, st⟩
       rw [hQ9.play.mb] at hm
       have hq:=fun w q (h : QAt w q m) => q_ask h xw ⟨op, dl, wt, fo, sl, ge, st⟩ HMD.out.busy
       have hen : m.entry ⟨0, xw, ⟨op, dl, wt, fo, sl, ge, st⟩, xn, xg⟩ = (if (m.ask xw ⟨op, dl, wt, fo, sl, ge, st⟩).1.2.1 then some (m.ask xw ⟨op, dl, wt, fo, sl, ge, st⟩).1.1 else none, (m.ask xw ⟨op, dl, wt, fo, sl, ge, st⟩).2):=by simp [M.entry]
       generalize m.ask xw ⟨op, dl, wt, fo, sl, ge, st⟩ = r at hm hq hen
       obtain ⟨⟨y, yb, yc⟩, m2⟩:=r
       simp only at hen
       have HEN:=Lib.hid hen
       have HQ:=Lib.hid hq
       clear hen hq
       have e1 : w9.cell? ⟨eb, 1, none⟩ = some (.i xw):=rx.cell 1
       have e2 : w9.cell? ⟨eb, 2, none⟩ = some (.i op):=rx.cell 2
       have e3 : w9.cell? ⟨eb, 3, none⟩ = some (.i dl):=rx.cell 3
       have e4 : w9.cell? ⟨eb, 4, none⟩ = some (.bool wt):=rx.cell 4
       have e5 : w9.cell? ⟨eb, 5, none⟩ = some (.bool fo):=rx.cell 5
       have e6 : w9.cell? ⟨eb, 6, none⟩ = some (.i sl):=rx.cell 6
       have e7 : w9.cell? ⟨eb, 7, none⟩ = some (.i ge):=rx.cell 7
       have e8 : w9.cell? ⟨eb, 8, none⟩ = some (.i st):=rx.cell 8
       go_wp2_with fail
       refine hm.mono ?_
       intro e w10 hpost
       obtain ⟨rfl, p2, hQ2, hS2⟩:=hQ9.mpost hpost
       have rx2:=RowAt.same rx hS2 hKe
       clear hpost hm e1 e2 e3 e4 e5 e6 e7 e8
       have rz:=RowAt.new w10 Zv 36
       have hst:=ev_store rz rfl y
       have hsz:=ev_size y
       have ra:=rz.set y.cells
       have hb11 : Below w10.heap.size w10 ((w10.alloc (.cells Zv 36)).setRow w10.heap.size y.cells):=below_setRow ((Below.refl _ _).alloc (Nat.le_refl _) _) (Nat.le_refl _) _
       obtain ⟨K1, hQ3, hKo1, hKn1⟩:=hQ2.keepX hb11
       have hK1a : K1 w10.heap.size:=hKn1 _ (Nat.le_refl _) ra.lt
       have hK1e : K1 eb:=hKo1 _ hKe
       have rx3:=rx2.below hb11
       have hS3:=hS2.trans (hQ2.same hb11)
       clear hb11 rz hQ2 hS2 rx2 hKn1
       go_upto_region 17 with (fail)
       generalize (w10.alloc (.cells Zv 36)).setRow w10.heap.size y.cells = w11 at *
       generalize w10.heap.size = ab at *
       clear hst
       have e1 : w11.cell? ⟨eb, 1, none⟩ = some (.i xw):=rx3.cell 1
       have e2 : w11.cell? ⟨eb, 2, none⟩ = some (.i op):=rx3.cell 2
       have e3 : w11.cell? ⟨eb, 3, none⟩ = some (.i dl):=rx3.cell 3
       have e4 : w11.cell? ⟨eb, 4, none⟩ = some (.bool wt):=rx3.cell 4
       have e5 : w11.cell? ⟨eb, 5, none⟩ = some (.bool fo):=rx3.cell 5
       have e6 : w11.cell? ⟨eb, 6, none⟩ = some (.i sl):=rx3.cell 6
       have e7 : w11.cell? ⟨eb, 7, none⟩ = some (.i ge):=rx3.cell 7
       have e8 : w11.cell? ⟨eb, 8, none⟩ = some (.i st):=rx3.cell 8
       have hq:=HQ.out _ _ hQ3.qat
       rw [hQ3.qb] at hq
       go_wp2_with fail
       refine hq.mono ?_
       intro e w12 hpost
       obtain ⟨rfl, q2, hQ4, hS4⟩:=hQ3.qpost hpost
       have ra4:=RowAt.same ra hS4 hK1a
       clear hpost hq e1 e2 e3 e4 e5 e6 e7 e8 rx3 ra
       have hst:=ev_store (RowAt.new w12 Zv 36) rfl y
       have rb:=(RowAt.new w12 Zv 36).set y.cells
       have hb13 : Below w12.heap.size w12 ((w12.alloc (.cells Zv 36)).setRow w12.heap.size y.cells):=below_setRow ((Below.refl _ _).alloc (Nat.le_refl _) _) (Nat.le_refl _) _
       have hQ5:=hQ4.below' hb13
       have ra5:=ra4.below hb13
       have hS5:=hS3.trans ((hS4.mono hKo1).trans ((hQ4.same hb13).mono hKo1))
       clear hb13 hQ4 hQ3 hS3 hS4 ra4
       go_upto_region 18 with (fail)
       generalize (w12.alloc (.cells Zv 36)).setRow w12.heap.size y.cells = w13 at *
       generalize w12.heap.size = bb at *
       clear hst hsz
       have hse : ∀ w, (Op.equalIn 10000 36 (.agg y.cells) (.agg y.cells)).run Tryz.prog w = .ok true w:=fun w => ev_self w y
       refine wp_region_lit ?_
       refine RowL.grow ra5 36 (.tmp 13) Tryz.underlying36 ?_
       refine RowL.grow rb 36 (.tmp 16) Tryz.underlying36 ?_
       refine RowL.gl (.bool false) ?_ (by go_simp; try rfl)
       clear hse
       cases yb
       ·have hSq : Sq W KS mb qb qw w9 m evs ⟨0, xw, ⟨op, dl, wt, fo, sl, ge, st⟩, xn, xg⟩ u10 w13:=Sq.none (by simpa using HEN.out) (hQ5.less hKo1) hS5
        clear HEN HQ
        go_wp2_with fail
        go_meet
        case rel => exact hSq
       ·go_upto_region 21 with (fail)
        have hown:=OwnS.alloc hQ5.play.evs (.cells y.cells 36)
        refine wp_region_lit ?_
        refine wpList_run rfl u10 (by go_simp; try rfl) ?_
        refine RowL.grow ra5 36 (.tmp 13) Tryz.underlying36 ?_
        refine wpList_build_ev rfl (.tmp 100) rfl y rfl ?_
        refine Hp.wpList_append _ rfl (.tmp 99) (.tmp 101) 52 rfl 36 i0 Ev.zero.val 18 136 Tryz.underlying52 hi hz0 hz1 hz2 rfl (by decide) u10 evs.length (flatE evs) rfl hown ⟨w13.heap.size, 0, none⟩ 1 1 y.cells.toList rfl rfl (ev_new w13 y) (ev_ones y) ?c3 ?c4 ?_
        case c3 => have:=hran.len; unfold maxLen; omega
        case c4 => have:=hran.len; omega
        intro a' cn w15 hown' hfp hch
        have hb12 : Below w13.heap.size w13 (w13.alloc (.cells y.cells 36)):=(Below.refl _ _).alloc (Nat.le_refl _) _
        have hQ12:=hQ5.below' hb12
        obtain ⟨hQ6, hS6⟩:=hQ12.append hown' hfp hch
        have hSq : Sq W KS mb qb qw w9 m evs ⟨0, xw, ⟨op, dl, wt, fo, sl, ge, st⟩, xn, xg⟩ (.slice a' (evs.length + 1) cn) w15:=Sq.some (by simpa using HEN.out) (hQ6.less hKo1) (hS5.trans (((hQ5.same hb12).mono hKo1).trans (hS6.mono hKo1)))
        clear HEN HQ hown' hfp hch hQ12 hown hb12
        go_wp2_with fail
        go_meet
        case rel => exact hSq
     by_cases hk1 : xk = 1
     ·as_aux_lemma =>
       subst hk1
       have hm:=m_wake hQ9.play.at' xw
       rw [hQ9.play.mb] at hm
       have hq:=fun w q (h : QAt w q m) => q_wake h xw HMD.out
       have hen : m.entry ⟨1, xw, ⟨op, dl, wt, fo, sl, ge, st⟩, xn, xg⟩ = (if (m.wake xw).1.2 then some (m.wake xw).1.1 else none, (m.wake xw).2):=by simp [M.entry]
       generalize m.wake xw = r at hm hq hen
       obtain ⟨⟨y, yb⟩, m2⟩:=r
       simp only at hen
       have HEN:=Lib.hid hen
       have HQ:=Lib.hid hq
       clear hen hq
       have e1 : w9.cell? ⟨eb, 1, none⟩ = some (.i xw):=rx.cell 1
       go_wp2_with fail
       refine hm.mono ?_
       intro e w10 hpost
       obtain ⟨rfl, p2, hQ2, hS2⟩:=hQ9.mpost hpost
       have rx2:=RowAt.same rx hS2 hKe
       clear hpost hm e1
       have rz:=RowAt.new w10 Zv 36
       have hst:=ev_store rz rfl y
       have hsz:=ev_size y
       have ra:=rz.set y.cells
       have hb11 : Below w10.heap.size w10 ((w10.alloc (.cells Zv 36)).setRow w10.heap.size y.cells):=below_setRow ((Below.refl _ _).alloc (Nat.le_refl _) _) (Nat.le_refl _) _
       obtain ⟨K1, hQ3, hKo1, hKn1⟩:=hQ2.keepX hb11
       have hK1a : K1 w10.heap.size:=hKn1 _ (Nat.le_refl _) ra.lt
       have hK1e : K1 eb:=hKo1 _ hKe
       have rx3:=rx2.below hb11
       have hS3:=hS2.trans (hQ2.same hb11)
       clear hb11 rz hQ2 hS2 rx2 hKn1
       go_upto_region 24 with (fail)
       generalize (w10.alloc (.cells Zv 36)).setRow w10.heap.size y.cells = w11 at *
       generalize w10.heap.size = ab at *
       clear hst
       have e1 : w11.cell? ⟨eb, 1, none⟩ = some (.i xw):=rx3.cell 1
       have hq:=HQ.out _ _ hQ3.qat
       rw [hQ3.qb] at hq
       go_wp2_with fail
       refine hq.mono ?_
       intro e w12 hpost
       obtain ⟨rfl, q2, hQ4, hS4⟩:=hQ3.qpost hpost
       have ra4:=RowAt.same ra hS4 hK1a
       clear hpost hq e1 rx3 ra
       have hst:=ev_store (RowAt.new w12 Zv 36) rfl y
       have rb:=(RowAt.new w12 Zv 36).set y.cells
       have hb13 : Below w12.heap.size w12 ((w12.alloc (.cells Zv 36)).setRow w12.heap.size y.cells):=below_setRow ((Below.refl _ _).alloc (Nat.le_refl _) _) (Nat.le_refl _) _
       have hQ5:=hQ4.below' hb13
       have ra5:=ra4.below hb13
       have hS5:=hS3.trans ((hS4.mono hKo1).trans ((hQ4.same hb13).mono hKo1))
       clear hb13 hQ4 hQ3 hS3 hS4 ra4
       go_upto_region 25 with (fail)
       generalize (w12.alloc (.cells Zv 36)).setRow w12.heap.size y.cells = w13 at *
       generalize w12.heap.size = bb at *
       clear hst hsz
       have hse : ∀ w, (Op.equalIn 10000 36 (.agg y.cells) (.agg y.cells)).run Tryz.prog w = .ok true w:=fun w => ev_self w y
       refine wp_region_lit ?_
       refine RowL.grow ra5 36 (.tmp 19) Tryz.underlying36 ?_
       refine RowL.grow rb 36 (.tmp 21) Tryz.underlying36 ?_
       refine RowL.gl (.bool false) ?_ (by go_simp; try rfl)
       clear hse
       cases yb
       ·have hSq : Sq W KS mb qb qw w9 m evs ⟨1, xw, ⟨op, dl, wt, fo, sl, ge, st⟩, xn, xg⟩ u10 w13:=Sq.none (by simpa using HEN.out) (hQ5.less hKo1) hS5
        clear HEN HQ
        go_wp2_with fail
        go_meet
        case rel => exact hSq
       ·go_upto_region 28 with (fail)
        have hown:=OwnS.alloc hQ5.play.evs (.cells y.cells 36)
        refine wp_region_lit ?_
        refine wpList_run rfl u10 (by go_simp; try rfl) ?_
        refine RowL.grow ra5 36 (.tmp 19) Tryz.underlying36 ?_
        refine wpList_build_ev rfl (.tmp 129) rfl y rfl ?_
        refine Hp.wpList_append _ rfl (.tmp 128) (.tmp 130) 52 rfl 36 i0 Ev.zero.val 18 136 Tryz.underlying52 hi hz0 hz1 hz2 rfl (by decide) u10 evs.length (flatE evs) rfl hown ⟨w13.heap.size, 0, none⟩ 1 1 y.cells.toList rfl rfl (ev_new w13 y) (ev_ones y) ?c3 ?c4 ?_
        case c3 => have:=hran.len; unfold maxLen; omega
        case c4 => have:=hran.len; omega
        intro a' cn w15 hown' hfp hch
        have hb12 : Below w13.heap.size w13 (w13.alloc (.cells y.cells 36)):=(Below.refl _ _).alloc (Nat.le_refl _) _
        have hQ12:=hQ5.below' hb12
        obtain ⟨hQ6, hS6⟩:=hQ12.append hown' hfp hch
        have hSq : Sq W KS mb qb qw w9 m evs ⟨1, xw, ⟨op, dl, wt, fo, sl, ge, st⟩, xn, xg⟩ (.slice a' (evs.length + 1) cn) w15:=Sq.some (by simpa using HEN.out) (hQ6.less hKo1) (hS5.trans (((hQ5.same hb12).mono hKo1).trans (hS6.mono hKo1)))
        clear HEN HQ hown' hfp hch hQ12 hown hb12
        go_wp2_with fail
        go_meet
        case rel => exact hSq
     by_cases hk2 : xk = 2
     ·as_aux_lemma =>
       subst hk2
       have hm:=m_tick hQ9.play.at' xn (by have:=hx.2.1; simp only at this; omega) (by have:=hx.2.2; simp only at this; omega)
       rw [hQ9.play.mb] at hm
       have e9 : w9.cell? ⟨eb, 9, none⟩ = some (.i xn):=rx.cell 9
       go_wp2_with fail
       refine hm.mono ?_
       rintro e w10 ⟨⟨v, rfl⟩, hA, hC⟩
       have hpost : MPost w9 p v (m.tick xn) (.returned v) w10:=⟨rfl, p.lv, p.rv, hA, fun k h => .inl h, fun k h => .inl h, hC⟩
       obtain ⟨-, p2, hQ2, hS2⟩:=hQ9.mpost hpost
       have rx2:=RowAt.same rx hS2 hKe
       clear hpost hA hC hm e9
       have hq:=q_tick hQ2.qat xn (by have:=hx.2.1; simp only at this; omega) (by have:=hx.2.2; simp only at this; omega)
       rw [hQ2.qb] at hq
       have e9 : w10.cell? ⟨eb, 9, none⟩ = some (.i xn):=rx2.cell 9
       go_wp2_with fail
       refine hq.mono ?_
       rintro e w11 ⟨⟨v2, rfl⟩, hA, hC⟩
       have hpost : QPost w10 q v2 (m.tick xn) (.returned v2) w11:=⟨rfl, q.lv, q.ov, hA, fun k h => .inl h, fun k h => .inl h, hC⟩
       obtain ⟨-, q2, hQ3, hS3⟩:=hQ2.qpost hpost
       clear hpost hA hC hq
       have hSq : Sq W KS mb qb qw w9 m evs ⟨2, xw, ⟨op, dl, wt, fo, sl, ge, st⟩, xn, xg⟩ u10 w11:=Sq.none (by simp [M.entry]) hQ3 (hS2.trans hS3)
       clear e9 rx2
       go_wp2_with fail
       go_meet
       case rel => exact hSq
     by_cases hk3 : xk = 3
     ·as_aux_lemma =>
       subst hk3
       have hQd:=hQ9.below' ((Below.refl w9.heap.size w9).drew)
       have hSd:=hQ9.same ((Below.refl w9.heap.size w9).drew)
       have rxd:=RowAt.same rx hSd hKe
       have hm:=m_feed hQd.play.at' xg
       rw [hQd.play.mb] at hm
       have hq:=fun w q (h : QAt w q m) => q_feed h xg
       have hen : m.entry ⟨3, xw, ⟨op, dl, wt, fo, sl, ge, st⟩, xn, xg⟩ = (none, (m.feed xg).2):=by simp [M.entry]
       generalize m.feed xg = r at hm hq hen
       obtain ⟨yb, m2⟩:=r
       simp only at hen
       have HEN:=Lib.hid hen
       have HQ:=Lib.hid hq
       clear hen hq
       go_upto_region 33 with (fail)
       refine wp_region_held_drew (S:=fun w' => w'.cell? ⟨eb, 10, none⟩ = some (.bool xg) ∧ w'.cell? ⟨qb, 10, none⟩ = some (.pointer (some ⟨qw, 0, none⟩))) (by kernel_rfl) (by exact ⟨rxd.cell 10, by have h:=hQd.qat.hd.c10; rw [hQd.qb, hQd.wb] at h; exact h⟩) (fun hHeld => ?_)
       refine tKg 0 144 hHeld ?_
       try simp only [Act.put, sA, sZ, sS]
       refine tKg 1 145 hHeld ?_
       try simp only [Act.put, sA, sZ, sS]
       refine tKg 2 146 hHeld ?_
       try simp only [Act.put, sA, sZ, sS]
       refine tKg 4 148 hHeld ?_
       try simp only [Act.put, sA, sZ, sS]
       refine tKg 5 149 hHeld ?_
       try simp only [Act.put, sA, sZ, sS]
       refine tKg 6 150 hHeld ?_
       try simp only [Act.put, sA, sZ, sS]
       refine tKg 7 151 hHeld ?_
       try simp only [Act.put, sA, sZ, sS]
       refine tKg 8 152 hHeld ?_
       try simp only [Act.put, sA, sZ, sS]
       refine tKg 9 153 hHeld ?_
       try simp only [Act.put, sA, sZ, sS]
       refine rKc (i:=3) 24 #[.tmp 144, .tmp 146] #[27, 4] (some 147) (none) #[.pointer (some ⟨mb, 0, none⟩), .bool xg] (enters_of Tryz.func24 (by kernel_rfl) rfl) ?_
       refine (hm).mono ?_
       intro e w10 hpost
       obtain ⟨rfl, p2, hQ2, hS2⟩:=hQd.mpost hpost
       have rx2:=RowAt.same rxd hS2 hKe
       have hq:=HQ.out _ _ hQ2.qat
       rw [hQ2.wb] at hq
       refine ⟨_, rfl, by exact ⟨rx2.cell 10, by have h:=hQ2.qat.hd.c10; rw [hQ2.qb, hQ2.wb] at h; exact h⟩, fun hHeld2 => ?_⟩
       try simp only [Act.put, sA, sZ, sS]
       refine rKc (i:=10) 25 #[.tmp 151, .tmp 153] #[64, 4] (some 154) (none) #[.pointer (some ⟨qw, 0, none⟩), .bool xg] (enters_of Tryz.func25 (by kernel_rfl) rfl) ?_
       refine (hq).mono ?_
       intro e w11 hpost
       obtain ⟨rfl, q2, hQ3, hS3⟩:=hQ2.qpost hpost
       have rx3:=RowAt.same rx2 hS3 hKe
       refine ⟨_, rfl, by exact ⟨rx3.cell 10, by have h:=hQ3.qat.hd.c10; rw [hQ3.qb, hQ3.wb] at h; exact h⟩, fun hHeld3 => ?_⟩
       try simp only [Act.put, sA, sZ, sS]
       refine tKg 11 155 hHeld3 ?_
       try simp only [Act.put, sA, sZ, sS]
       refine wpAnyH_done (by kernel_rfl) ?_ _
       have hSq : Sq W KS mb qb qw w9 m evs ⟨3, xw, ⟨op, dl, wt, fo, sl, ge, st⟩, xn, xg⟩ u10 w11:=Sq.none (by simpa using HEN.out) hQ3 ((hSd.trans hS2).trans hS3)
       clear HEN HQ rx2 rx3 rxd hm hq hpost hQ2 hQd
       go_wp2_with fail
       go_meet
       case rel => exact hSq
     by_cases hk4 : xk = 4
     ·as_aux_lemma =>
       subst hk4
       have hQd:=hQ9.below' ((Below.refl w9.heap.size w9).drew)
       have hSd:=hQ9.same ((Below.refl w9.heap.size w9).drew)
       have rxd:=RowAt.same rx hSd hKe
       have hm:=m_break hQd.play.at' sl
       rw [hQd.play.mb] at hm
       have hq:=fun w q (h : QAt w q m) => q_break h sl
       have hen : m.entry ⟨4, xw, ⟨op, dl, wt, fo, sl, ge, st⟩, xn, xg⟩ = (none, (m.break' sl).2):=by simp [M.entry]
       generalize m.break' sl = r at hm hq hen
       obtain ⟨yb, m2⟩:=r
       simp only at hen
       have HEN:=Lib.hid hen
       have HQ:=Lib.hid hq
       clear hen hq
       go_upto_region 36 with (fail)
       refine wp_region_held_drew (S:=fun w' => w'.cell? ⟨eb, 6, none⟩ = some (.i sl)) (by kernel_rfl) (by exact (rxd.cell 6)) (fun hHeld => ?_)
       refine tKg 0 158 hHeld ?_
       try simp only [Act.put, sA, sZ, sS]
       refine tKg 1 159 hHeld ?_
       try simp only [Act.put, sA, sZ, sS]
       refine tKg 2 160 hHeld ?_
       try simp only [Act.put, sA, sZ, sS]
       refine tKg 3 161 hHeld ?_
       try simp only [Act.put, sA, sZ, sS]
       refine tKg 5 163 hHeld ?_
       try simp only [Act.put, sA, sZ, sS]
       refine tKg 6 164 hHeld ?_
       try simp only [Act.put, sA, sZ, sS]
       refine tKg 7 165 hHeld ?_
       try simp only [Act.put, sA, sZ, sS]
       refine tKg 8 166 hHeld ?_
       try simp only [Act.put, sA, sZ, sS]
       refine rKc (i:=4) 26 #[.tmp 158, .tmp 161] #[27, 3] (some 162) (none) #[.pointer (some ⟨mb, 0, none⟩), .i sl] (enters_of Tryz.func26 (by kernel_rfl) rfl) ?_
       refine (hm).mono ?_
       intro e w10 hpost
       obtain ⟨rfl, p2, hQ2, hS2⟩:=hQd.mpost hpost
       have rx2:=RowAt.same rxd hS2 hKe
       have hq:=HQ.out _ _ hQ2.qat
       rw [hQ2.qb] at hq
       refine ⟨_, rfl, by exact (rx2.cell 6), fun hHeld2 => ?_⟩
       try simp only [Act.put, sA, sZ, sS]
       refine rKc (i:=9) 27 #[.tmp 163, .tmp 166] #[31, 3] (some 167) (none) #[.pointer (some ⟨qb, 0, none⟩), .i sl] (enters_of Tryz.func27 (by kernel_rfl) rfl) ?_
       refine (hq).mono ?_
       intro e w11 hpost
       obtain ⟨rfl, q2, hQ3, hS3⟩:=hQ2.qpost hpost
       have rx3:=RowAt.same rx2 hS3 hKe
       refine ⟨_, rfl, by exact (rx3.cell 6), fun hHeld3 => ?_⟩
       try simp only [Act.put, sA, sZ, sS]
       refine tKg 10 168 hHeld3 ?_
       try simp only [Act.put, sA, sZ, sS]
       refine wpAnyH_done (by kernel_rfl) ?_ _
       have hSq : Sq W KS mb qb qw w9 m evs ⟨4, xw, ⟨op, dl, wt, fo, sl, ge, st⟩, xn, xg⟩ u10 w11:=Sq.none (by simpa using HEN.out) hQ3 ((hSd.trans hS2).trans hS3)
       clear HEN HQ rx2 rx3 rxd hm hq hpost hQ2 hQd
       go_wp2_with fail
       go_meet
       case rel => exact hSq
     ·as_aux_lemma =>
       have k0 : (xk == 0) = false:=by simpa using hk0
       have k1 : (xk == 1) = false:=by simpa using hk1
       have k2 : (xk == 2) = false:=by simpa using hk2
       have k3 : (xk == 3) = false:=by simpa using hk3
       have k4 : (xk == 4) = false:=by simpa using hk4
       have hSq : Sq W KS mb qb qw w9 m evs ⟨xk, xw, ⟨op, dl, wt, fo, sl, ge, st⟩, xn, xg⟩ u10 w9:=Sq.none (by simp [M.entry, hk0, hk1, hk2, hk3, hk4]) hQ9 (Same.refl _ _)
       clear hk0 hk1 hk2 hk3 hk4
       go_wp2_with fail
       go_meet
       case rel => exact hSq
    case rest =>
     obtain ⟨p12, q12, hQ12, hS12⟩:=hcut
     generalize wc = w12 at *
     have hrow12:=RowAt.same hrow9 hS12 hKc
     generalize m.entry ⟨xk, xw, ⟨op, dl, wt, fo, sl, ge, st⟩, xn, xg⟩ = r at *
     obtain ⟨o2, m2⟩:=r
     simp only at hQ12 hran2
     have hv:=m_view hQ12.play.at'
     rw [hQ12.play.mb] at hv
     clear hQ9 hrow9 rx hS12
     go_wp2_with fail
     refine hv.mono ?_
     rintro e z3 ⟨vg, vc, va, vd, rfl, hsl, -, hown, -, hb⟩
     have hQ13:=hQ12.below' hb
     have hrow13:=hrow12.below hb
     have hal:=alike_any hQ13.qat vg vc va vd hsl (OwnS.at hown)
     rw [hQ13.qb] at hal
     clear hv hsl hown hb hQ12 hrow12
     go_wp2_with fail
     refine hal.mono ?_
     rintro e z4 ⟨rfl, hb⟩
     have hQ14:=hQ13.below' hb
     have hrow14:=hrow13.below hb
     clear hal hb hQ13 hrow13
     go_wp2_with fail
     go_round
     case rel => exact ⟨k + 1, by omega, rfl, p12, q12, m2, _, hQ14.less (fun j hj => by rw [hj]; exact hKc), hran2, hrow14⟩
     case measure => simp [intOf] <;> omega
  ·obtain rfl : k = l.length:=by omega
   have hbe:=hQ.play.below
   have b1 : ¬ ((l.length : Nat) : Int) < (l.length : Int):=by omega
   clear hQ hran hrow
   go_wp2_with fail
   go_ret
   exact ⟨rfl, hbe⟩
end Go.Proofs.YtpmkgddjgebojaaGreatDoor.Mod
