/- Part 39 of the walks and plain laws that the last text joins. -/
import Derived.Test.YtpmkgddjgebojaaGreatDoorE31
import Derived.Test.YtpmkgddjgebojaaGreatDoorE38
set_option maxRecDepth 100000
set_option maxHeartbeats 16000000
set_option linter.unusedVariables false
set_option linter.unusedSimpArgs false
namespace Go.Proofs.YtpmkgddjgebojaaGreatDoor.Mod
open Go.RowKit Hp Slot RowL Life
def aw0 : M:=M.new (⟨2, 1, 0, 1, 9⟩ : Conf.Cf)
def ea0 : Ev:=⟨true, 0, 0, ⟨0, 0, false, false, 0, 0, 0⟩, 0, 0, 1, 0, 0, 0, 0, 0⟩
theorem aw0_eq : (aw0.ask 0 (⟨0, 0, false, false, 0, 0, 0⟩ : Ask)).1 = ((ea0, true, true)):=by kernel_rfl
def aw1 : M:=(aw0.ask 0 (⟨0, 0, false, false, 0, 0, 0⟩ : Ask)).2
def ea1 : Ev:=Ev.zero
theorem aw1_eq : (aw1.ask 1 (⟨0, 9, true, false, 0, 0, 0⟩ : Ask)).1 = ((ea1, false, true)):=by kernel_rfl
def aw2 : M:=(aw1.ask 1 (⟨0, 9, true, false, 0, 0, 0⟩ : Ask)).2
def ea2 : Ev:=Ev.zero
theorem aw2_eq : (aw2.wake 1).1 = (ea2, false):=by kernel_rfl
def aw3 : M:=(aw2.wake 1).2
def ea3 : Ev:=⟨true, 0, 0, ⟨1, 0, false, false, 0, 1, 0⟩, 0, 0, 0, 0, 0, 0, 0, 0⟩
theorem aw3_eq : (aw3.ask 0 (⟨1, 0, false, false, 0, 1, 0⟩ : Ask)).1 = ((ea3, true, true)):=by kernel_rfl
def aw4 : M:=(aw3.ask 0 (⟨1, 0, false, false, 0, 1, 0⟩ : Ask)).2
def ea4 : Ev:=⟨true, 1, 0, ⟨0, 9, true, false, 0, 0, 0⟩, 0, 0, 2, 0, 0, 0, 0, 0⟩
theorem aw4_eq : (aw4.wake 1).1 = (ea4, true):=by kernel_rfl
theorem awake_any (W : World) (hL : Laid W) : Calls Tryz.prog 11 #[] W fun e W' => e = .returned (.bool true) ∧ Below W.heap.size W W':=by
 have hnew:=m_new W (⟨2, 1, 0, 1, 9⟩ : Conf.Cf) (by decide) hL
 have hpos : 0 < W.heap.size:=hL.lt (by decide)
 go_enter Tryz.func11, Tryz.ntmps11
 go_wp2_with fail
 refine hnew.mono ?_
 rintro e w1 ⟨p0, rfl, h1, hp, hb1⟩
 have hB0 : PlayB W (fun j => False) p0.mb (.slice none 0 0) w1 p0 aw0 []:=⟨hpos, rfl, h1, ownS_nil _ _, hp, fun j hj => (fp_nil j hj).elim, fun j hj => (fp_nil j hj).elim, fun j hj => hj.elim, hb1⟩
 generalize p0.mb = mb at *
 clear hnew h1 hp hb1
 go_wp2_with fail
 have hm:=m_ask hB0.at' 0 (⟨0, 0, false, false, 0, 0, 0⟩ : Ask)
 have hmb:=hB0.mb
 have hq:=aw0_eq
 rw [hmb, hq] at hm
 simp only at hm
 refine hm.mono ?_
 intro e v0 hpost
 obtain ⟨rfl, p1, hC0, hS0⟩:=hB0.post hpost
 clear hpost hm hmb hq
 have rz:=RowAt.new v0 Zv 36
 have hst:=ev_store rz rfl ea0
 have hsz:=ev_size ea0
 have row0:=rz.set (ea0).cells
 have hb : Below v0.heap.size v0 ((v0.alloc (.cells Zv 36)).setRow v0.heap.size (ea0).cells):=below_setRow ((Below.refl _ _).alloc (Nat.le_refl _) _) (Nat.le_refl _) _
 obtain ⟨K0, hD, hKo, hKn⟩:=hC0.keepX hb
 have hK0 : K0 v0.heap.size:=hKn _ (Nat.le_refl _) row0.lt
 clear hKo hKn hC0 hS0 hB0
 go_wp2_with fail
 generalize (v0.alloc (.cells Zv 36)).setRow v0.heap.size (ea0).cells = x0 at *
 generalize v0.heap.size = g0 at *
 have hB1 : PlayB W K0 mb (.slice none 0 0) x0 p1 aw1 []:=hD
 clear hD hst hsz rz hb
 have hm:=m_ask hB1.at' 1 (⟨0, 9, true, false, 0, 0, 0⟩ : Ask)
 have hmb:=hB1.mb
 have hq:=aw1_eq
 rw [hmb, hq] at hm
 simp only at hm
 refine hm.mono ?_
 intro e v1 hpost
 obtain ⟨rfl, p2, hC1, hS1⟩:=hB1.post hpost
 clear hpost hm hmb hq
 have row0:=RowAt.same row0 hS1 hK0
 have rz:=RowAt.new v1 Zv 36
 have hst:=ev_store rz rfl ea1
 have hsz:=ev_size ea1
 have row1:=rz.set (ea1).cells
 have hb : Below v1.heap.size v1 ((v1.alloc (.cells Zv 36)).setRow v1.heap.size (ea1).cells):=below_setRow ((Below.refl _ _).alloc (Nat.le_refl _) _) (Nat.le_refl _) _
 obtain ⟨K1, hD, hKo, hKn⟩:=hC1.keepX hb
 have hK1 : K1 v1.heap.size:=hKn _ (Nat.le_refl _) row1.lt
 have row0:=row0.below hb
 have hK0 : K1 g0:=hKo _ hK0
 clear hKo hKn hC1 hS1 hB1
 go_wp2_with fail
 generalize (v1.alloc (.cells Zv 36)).setRow v1.heap.size (ea1).cells = x1 at *
 generalize v1.heap.size = g1 at *
 have hB2 : PlayB W K1 mb (.slice none 0 0) x1 p2 aw2 []:=hD
 clear hD hst hsz rz hb
 have hm:=m_wake hB2.at' 1
 have hmb:=hB2.mb
 have hq:=aw2_eq
 rw [hmb, hq] at hm
 simp only at hm
 refine hm.mono ?_
 intro e v2 hpost
 obtain ⟨rfl, p3, hC2, hS2⟩:=hB2.post hpost
 clear hpost hm hmb hq
 have row0:=RowAt.same row0 hS2 hK0
 have row1:=RowAt.same row1 hS2 hK1
 have rz:=RowAt.new v2 Zv 36
 have hst:=ev_store rz rfl ea2
 have hsz:=ev_size ea2
 have row2:=rz.set (ea2).cells
 have hb : Below v2.heap.size v2 ((v2.alloc (.cells Zv 36)).setRow v2.heap.size (ea2).cells):=below_setRow ((Below.refl _ _).alloc (Nat.le_refl _) _) (Nat.le_refl _) _
 obtain ⟨K2, hD, hKo, hKn⟩:=hC2.keepX hb
 have hK2 : K2 v2.heap.size:=hKn _ (Nat.le_refl _) row2.lt
 have row0:=row0.below hb
 have hK0 : K2 g0:=hKo _ hK0
 have row1:=row1.below hb
 have hK1 : K2 g1:=hKo _ hK1
 clear hKo hKn hC2 hS2 hB2
 go_wp2_with fail
 generalize (v2.alloc (.cells Zv 36)).setRow v2.heap.size (ea2).cells = x2 at *
 generalize v2.heap.size = g2 at *
 have hB3 : PlayB W K2 mb (.slice none 0 0) x2 p3 aw3 []:=hD
 clear hD hst hsz rz hb
 have hm:=m_ask hB3.at' 0 (⟨1, 0, false, false, 0, 1, 0⟩ : Ask)
 have hmb:=hB3.mb
 have hq:=aw3_eq
 rw [hmb, hq] at hm
 simp only at hm
 refine hm.mono ?_
 intro e v3 hpost
 obtain ⟨rfl, p4, hC3, hS3⟩:=hB3.post hpost
 clear hpost hm hmb hq
 have row0:=RowAt.same row0 hS3 hK0
 have row1:=RowAt.same row1 hS3 hK1
 have row2:=RowAt.same row2 hS3 hK2
 have rz:=RowAt.new v3 Zv 36
 have hst:=ev_store rz rfl ea3
 have hsz:=ev_size ea3
 have row3:=rz.set (ea3).cells
 have hb : Below v3.heap.size v3 ((v3.alloc (.cells Zv 36)).setRow v3.heap.size (ea3).cells):=below_setRow ((Below.refl _ _).alloc (Nat.le_refl _) _) (Nat.le_refl _) _
 obtain ⟨K3, hD, hKo, hKn⟩:=hC3.keepX hb
 have hK3 : K3 v3.heap.size:=hKn _ (Nat.le_refl _) row3.lt
 have row0:=row0.below hb
 have hK0 : K3 g0:=hKo _ hK0
 have row1:=row1.below hb
 have hK1 : K3 g1:=hKo _ hK1
 have row2:=row2.below hb
 have hK2 : K3 g2:=hKo _ hK2
 clear hKo hKn hC3 hS3 hB3
 go_wp2_with fail
 generalize (v3.alloc (.cells Zv 36)).setRow v3.heap.size (ea3).cells = x3 at *
 generalize v3.heap.size = g3 at *
 have hB4 : PlayB W K3 mb (.slice none 0 0) x3 p4 aw4 []:=hD
 clear hD hst hsz rz hb
 have hm:=m_wake hB4.at' 1
 have hmb:=hB4.mb
 have hq:=aw4_eq
 rw [hmb, hq] at hm
 simp only at hm
 refine hm.mono ?_
 intro e v4 hpost
 obtain ⟨rfl, p5, hC4, hS4⟩:=hB4.post hpost
 clear hpost hm hmb hq
 have row0:=RowAt.same row0 hS4 hK0
 have row1:=RowAt.same row1 hS4 hK1
 have row2:=RowAt.same row2 hS4 hK2
 have row3:=RowAt.same row3 hS4 hK3
 have rz:=RowAt.new v4 Zv 36
 have hst:=ev_store rz rfl ea4
 have hsz:=ev_size ea4
 have row4:=rz.set (ea4).cells
 have hb : Below v4.heap.size v4 ((v4.alloc (.cells Zv 36)).setRow v4.heap.size (ea4).cells):=below_setRow ((Below.refl _ _).alloc (Nat.le_refl _) _) (Nat.le_refl _) _
 obtain ⟨K4, hD, hKo, hKn⟩:=hC4.keepX hb
 have hK4 : K4 v4.heap.size:=hKn _ (Nat.le_refl _) row4.lt
 have row0:=row0.below hb
 have hK0 : K4 g0:=hKo _ hK0
 have row1:=row1.below hb
 have hK1 : K4 g1:=hKo _ hK1
 have row2:=row2.below hb
 have hK2 : K4 g2:=hKo _ hK2
 have row3:=row3.below hb
 have hK3 : K4 g3:=hKo _ hK3
 clear hKo hKn hC4 hS4 hB4
 go_upto_region 9 with (fail)
 generalize (v4.alloc (.cells Zv 36)).setRow v4.heap.size (ea4).cells = x4 at *
 generalize v4.heap.size = g4 at *
 have hbe:=hD.below
 clear hD hst hsz rz hb
 have c0o10 : x4.cell? ⟨g0, 10, none⟩ = some (.i 0):=row0.cell 10
 have c0o12 : x4.cell? ⟨g0, 12, none⟩ = some (.i 1):=row0.cell 12
 have c3o10 : x4.cell? ⟨g3, 10, none⟩ = some (.i 0):=row3.cell 10
 have c4o10 : x4.cell? ⟨g4, 10, none⟩ = some (.i 0):=row4.cell 10
 have c4o12 : x4.cell? ⟨g4, 12, none⟩ = some (.i 2):=row4.cell 12
 have c4o1 : x4.cell? ⟨g4, 1, none⟩ = some (.i 1):=row4.cell 1
 go_wp2_with fail
 go_ret
 exact ⟨rfl, hbe⟩
end Go.Proofs.YtpmkgddjgebojaaGreatDoor.Mod
namespace Go.Proofs.YtpmkgddjgebojaaGreatDoor.Mod
open Go.RowKit Hp Slot RowL Life R8
theorem busy_rest {m m' : M} {n : Nat} (h : Mid m) (hl : ∀ x ∈ m'.line, x ∈ m.line ∧ x ≠ (n : Int)) (hk : m'.ks = m.ks) : Busy (m'.rest n):=fun x hx k hk' => by
 have hx1 : x ∈ m'.line:=hx
 obtain ⟨h1, h2⟩:=hl x hx1
 have h0:=(h.lb x h1).1
 simp only [M.rest, hk, Int.toNat_natCast] at hk'
 rw [List.getElem?_set] at hk'
 split at hk'
 ·exact absurd (by omega) h2
 ·exact h.busy x h1 k hk'
theorem not_line {m : M} {n : Nat} {k0 : Wk} (h : Mid m) (hk : m.ks[n]? = some k0) (h1 : k0.at' ≠ 1) : ∀ x ∈ m.line, x ∈ m.line ∧ x ≠ (n : Int):=fun x hx => ⟨hx, by
 rintro rfl
 exact h1 ((h.ln n k0 hk).2 hx)⟩
theorem wpList_mk {P : Program} {ops : Array Oper} {rest : List Oper} {o : Oper} {a : Act} {w : World} {Q : Exit → Act → World → Prop} (hg : o.guard = none) (v : Value) (ob : Obj)
  (hr : (execOp a.eval o).run P w = .ok (.value v) (w.alloc ob)) (h : wpList P ops Q rest (a.put o.dst v) (w.alloc ob)) : wpList P ops Q (o :: rest) a w :=
 wpList_plain hg fun K hK => by
  unfold Oper.wp
  rw [hr]
  exact hK _ _ h
theorem q_wake_told {W : World} {p : Ql} {m : M} (h : QAt W p m) (n : Nat) (op dl : Int) (wt fo : Bool) (sl ge st ks0 : Int) (hk : m.ks[n]? = some ⟨3, ⟨op, dl, wt, fo, sl, ge, st⟩, ks0⟩) (hI : Mid m) :
  Calls Tryz.prog 17 #[.pointer (some ⟨p.mb, 0, none⟩), .i n] W (QPost W p (.tuple #[(m.wake n).1.1.val, .bool (m.wake n).1.2]) (m.wake n).2):=by
 have HR2:=Lib.hid (show m.wake n = ((M.answered (M.failed 5) n ⟨op, dl, wt, fo, sl, ge, st⟩, true), (m.rest n).tidy) by rw [wake_of hk]; simp)
 have HBU : RowKit.Hid (Busy (m.rest n)):=Lib.hid (busy_rest hI (not_line hI hk (by simp)) rfl)
 clear hI
 generalize m.wake n = R at *
 have hnl : n < m.ks.length:=(List.getElem?_eq_some_iff.1 hk).1
 have hB : Below W.heap.size W ((W.alloc (.cells Zv 36)).alloc (.cells (Ai true false (-1) op dl wt fo sl ge st) 97)):=((Below.refl _ _).alloc (Nat.le_refl _) _).alloc (by simp) _
 have r0 : Rq W.heap.size ((W.alloc (.cells Zv 36)).alloc (.cells (Ai true false (-1) op dl wt fo sl ge st) 97)) p ((W.alloc (.cells Zv 36)).alloc (.cells (Ai true false (-1) op dl wt fo sl ge st) 97)) p m:=Rq.begin h hB
 have e0 : ERow ((W.alloc (.cells Zv 36)).alloc (.cells (Ai true false (-1) op dl wt fo sl ge st) 97)) W.heap.size:=⟨Zv, rfl, heap_alloc2_old W _ _⟩
 have b0 : RowAt ((W.alloc (.cells Zv 36)).alloc (.cells (Ai true false (-1) op dl wt fo sl ge st) 97)) (W.heap.size + 1) (Ai true false (-1) op dl wt fo sl ge st) 97:=heap_alloc2_new W _ _
 have hg1 : W.heap.size < ((W.alloc (.cells Zv 36)).alloc (.cells (Ai true false (-1) op dl wt fo sl ge st) 97)).heap.size:=by simp; omega
 have hgb1 : W.heap.size + 1 < ((W.alloc (.cells Zv 36)).alloc (.cells (Ai true false (-1) op dl wt fo sl ge st) 97)).heap.size:=by simp
 have hgb0 : W.heap.size ≤ W.heap.size + 1:=by omega
 have hlt : p.mb < W.heap.size:=h.lt (.inl rfl)
 have hkt : p.kb < W.heap.size:=h.lt (.inr (.inr (.inl rfl)))
 have k6:=h.hd.c6
 have hnk:=h.ok.nk
 have g0 : W.cell? ⟨p.kb, n * 10, none⟩ = some (.bool true):=h.works.1 n _ hk 0 _ rfl
 have g1 : W.cell? ⟨p.kb, n * 10 + 1, none⟩ = some (.bool false):=h.works.1 n _ hk 1 _ rfl
 have g2 : W.cell? ⟨p.kb, n * 10 + 2, none⟩ = some (.i (-1)):=h.works.1 n _ hk 2 _ rfl
 have g3 : W.cell? ⟨p.kb, n * 10 + 3, none⟩ = some (.i op):=h.works.1 n _ hk 3 _ rfl
 have g4 : W.cell? ⟨p.kb, n * 10 + 4, none⟩ = some (.i dl):=h.works.1 n _ hk 4 _ rfl
 have g5 : W.cell? ⟨p.kb, n * 10 + 5, none⟩ = some (.bool wt):=h.works.1 n _ hk 5 _ rfl
 have g6 : W.cell? ⟨p.kb, n * 10 + 6, none⟩ = some (.bool fo):=h.works.1 n _ hk 6 _ rfl
 have g7 : W.cell? ⟨p.kb, n * 10 + 7, none⟩ = some (.i sl):=h.works.1 n _ hk 7 _ rfl
 have g8 : W.cell? ⟨p.kb, n * 10 + 8, none⟩ = some (.i ge):=h.works.1 n _ hk 8 _ rfl
 have g9 : W.cell? ⟨p.kb, n * 10 + 9, none⟩ = some (.i st):=h.works.1 n _ hk 9 _ rfl
 have n0 : (0 : Int) ≤ (n : Int):=by omega
 have n1 : (n : Int) < (m.ks.length : Int):=by omega
 have n2 : (n : Int) ≤ (m.ks.length : Int) - 1:=by omega
 have n3 : ¬ (n : Int) < 0:=by omega
 have n4 : ¬ (m.ks.length : Int) ≤ (n : Int):=by omega
 have HK:=Lib.hid hk
 clear h hk
 go_enter Tryz.func17, Tryz.ntmps17
 go_upto_region 4 with (fail)
 generalize ((W.alloc (.cells Zv 36)).alloc (.cells (Ai true false (-1) op dl wt fo sl ge st) 97)) = wb at *
 clear g0 g1 g2 g3 g4 g5 g6 g7 g8 g9 k6 n3 n4
 have c0 : wb.cell? ⟨W.heap.size + 1, 0, none⟩ = some (.bool true):=b0.cell 0
 have c2 : wb.cell? ⟨W.heap.size + 1, 2, none⟩ = some (.i (-1)):=b0.cell 2
 have c4 : wb.cell? ⟨W.heap.size + 1, 4, none⟩ = some (.i dl):=b0.cell 4
 have k9:=r0.at'.hd.c9
 go_quiet (fail)
 have hbq : Below wb.heap.size wb (wb.drewN nq):=bdrewN (Below.refl _ _) nq
 have r1:=r0.below hbq
 have e1:=e0.below hbq
 have b1:=b0.below hbq
 clear r0 e0 b0 c0 c2 c4 k9 hbq
 generalize wb.drewN nq = w1 at *
 go_upto_region 6 with (fail)
 refine wp_region_lit ?_
 refine RowL.wpList_run rfl (.agg Zf) (by kernel_rfl) ?_
 refine wpList_mk rfl (.pointer (some ⟨w1.heap.size, 0, none⟩)) (.cells Zv 36) (by go_simp; try rfl) ?_
 refine RowL.gSt (RowAt.new w1 Zv 36) Zf 36 (.tmp 7) (.tmp 50) ?_
 have hcx : Chg (fun k => k = w1.heap.size) w1 ((w1.alloc (.cells Zv 36)).setRow w1.heap.size Zf):=chg_setRow ((Chg.refl _ _).alloc _) _ _ (fun _ => rfl)
 have hbx:=hcx.below (Nat.le_refl _) (fun k hk => by rw [hk]; exact Nat.le_refl _)
 have r2:=r1.below hbx
 have e2:=e1.below hbx
 have b2:=b1.below hbx
 have x2:=(RowAt.new w1 Zv 36).set Zf
 have hxb : ¬ qfp p w1.heap.size:=fun hk => by have:=r1.at'.lt hk; omega
 have hxw : W.heap.size + 1 < w1.heap.size:=b1.lt
 have hwx : W.heap.size ≤ w1.heap.size:=by omega
 clear hbx hcx r1 e1 b1
 generalize (w1.alloc (.cells Zv 36)).setRow w1.heap.size Zf = w2 at *
 generalize w1.heap.size = xb at *
 have d1 : w2.cell? ⟨W.heap.size + 1, 1, none⟩ = some (.bool false):=b2.cell 1
 have d2 : w2.cell? ⟨W.heap.size + 1, 2, none⟩ = some (.i (-1)):=b2.cell 2
 have d10 : w2.cell? ⟨xb, 10, none⟩ = some (.i 4):=x2.cell 10
 have z10:=x2.frozen 10
 have hE : ¬ W.heap.size + 1 = xb:=by omega
 have hE' : ¬ xb = W.heap.size + 1:=by omega
 have hC3 : Chg (fun k => k = xb) w2 (w2.setCell ⟨xb, 10, none⟩ (.i 5)):=(Chg.refl (fun k => k = xb) w2).setCell ⟨xb, 10, none⟩ (.i 5) (fun _ => rfl)
 have r3 : Rq W.heap.size wb p (w2.setCell ⟨xb, 10, none⟩ (.i 5)) p m:=by
  refine ⟨r2.at'.chg hC3 (fun k hk e => hxb (e ▸ hk)), r2.old, r2.le, r2.same, r2.lvs, r2.ovs, r2.chg.trans hC3 (fun k _ e => .inr (by rw [e]; exact hwx))⟩
 have e3:=e2.chg hC3 (by omega)
 have b3:=b2.chg hC3 hE
 have x3 : RowAt (w2.setCell ⟨xb, 10, none⟩ (.i 5)) xb (M.failed 5).cells 36:=x2.setc 10 (.i 5)
 have HKS : RowKit.Hid (m.ks.length = m.ks.length):=Lib.hid rfl
 have HX0 : RowKit.Hid ((M.failed 5).at' = 0):=Lib.hid rfl
 clear hC3 r2 e2 b2 x2
 go_upto_region 27 with (fail)
 clear d10 z10 d1 d2
 generalize w2.setCell ⟨xb, 10, none⟩ (.i 5) = w9 at *
 have k6:=r3.at'.hd.c6
 rw [r3.mb, r3.kb, HKS.out] at k6
 have hth : w9.there p.kb (n * 10) 10:=by have:=WaitAt.there r3.at'.works (i:=n) (by rw [HKS.out]; omega); rwa [r3.kb] at this
 have hset : Chg (fun k => k = p.kb) w9 (w9.setCells p.kb (n * 10) Zw.toList):=chg_setCells _ _ _ _
 have hW7:=r3.at'.works.setL (i:=n) (by rw [HKS.out]; omega) Wk.zero
 rw [r3.kb] at hW7
 have hA7:=r3.at'.toWorks (W':=w9.setCells p.kb (n * 10) Zw.toList) (by rw [r3.kb]; exact hset) (by rw [r3.kb]; exact hW7) (by simp) (by
  intro k hk h2
  rcases List.mem_or_eq_of_mem_set hk with hk | rfl
  ·exact r3.at'.ok.grants k hk h2
  ·simp [Wk.zero] at h2)
 have r7:=r3.works hA7 (by rw [r3.kb]; exact hset)
 have e7:=e3.chg hset (fun e => r3.not (Nat.le_refl _) hg1 (by rw [← r3.kb] at e; exact .inr (.inr (.inl e))))
 have b7:=b3.chg hset (fun e => r3.not hgb0 hgb1 (by rw [← r3.kb] at e; exact .inr (.inr (.inl e))))
 have x7:=x3.chg hset (fun e => hxb (by rw [e, ← r3.kb]; exact .inr (.inr (.inl rfl))))
 have hbu : Busy (m.rest n):=HBU.out
 have ht:=q_tidy r7.at' hbu
 rw [r7.mb] at ht
 clear hW7 hA7 hbu
 refine wp_region_lit ?_
 refine RowL.gl (.pointer (some ⟨p.mb, 0, none⟩)) ?_ (by go_simp; try rfl)
 refine RowL.gl (.pointer (some ⟨p.mb, 0, none⟩)) ?_ (by go_simp; try rfl)
 refine RowL.gl (.pointer (some ⟨p.mb, 6, none⟩)) ?_ (by go_simp; try rfl)
 refine RowL.gl (.slice (some ⟨p.kb, 0, none⟩) m.ks.length m.ks.length) ?_ (by go_simp; try rfl)
 refine RowL.gl (.i (n : Int)) ?_ (by go_simp; try rfl)
 refine RowL.wpList_run rfl (.agg Zw) (by kernel_rfl) ?_
 refine RowL.gl (.pointer (some ⟨p.kb, n * 10, none⟩)) ?_ (by go_simp; try rfl)
 refine wpList_store_mid rfl 97 (.tmp 136) (.tmp 135) rfl p.kb (n * 10) Zw (by kernel_rfl) (by kernel_rfl) hth (by kernel_rfl) (by kernel_rfl) ?_
 have hno : ¬ qfp p xb:=hxb
 clear hth hset k6
 generalize w9.setCells p.kb (n * 10) Zw.toList = w10 at *
 go_wp2_with fail
 refine ht.mono ?_
 rintro e w11 ⟨v4, hp⟩
 obtain ⟨rfl, p8, r8, hc8⟩:=r7.post hp
 have e8:=e7.chg hc8 (r7.not (Nat.le_refl _) hg1)
 have b8:=b7.chg hc8 (r7.not hgb0 hgb1)
 have x8:=x7.chg hc8 hno
 have htl:=fun w => told_any w (M.failed 5) n ⟨op, dl, wt, fo, sl, ge, st⟩
 have hta : ({ M.answered (M.failed 5) n ⟨op, dl, wt, fo, sl, ge, st⟩ with at':=((M.failed 5)).at' } : Ev) = M.answered (M.failed 5) n ⟨op, dl, wt, fo, sl, ge, st⟩:=by rw [HX0.out]; rfl
 rw [hta] at htl
 have hra : w11.rangeAt (W.heap.size + 1) 3 [.i op, .i dl, .bool wt, .bool fo, .i sl, .i ge, .i st]:=by
  intro jj v hv
  have h1 : ((Ai true false (-1) op dl wt fo sl ge st).toList.drop 3)[jj]? = some v:=hv
  rw [List.getElem?_drop] at h1
  have h2:=b8.cell (3 + jj)
  rw [← Array.getElem?_toList, h1] at h2
  exact h2
 clear ht hp hc8 r7 e7 b7 x7 hta hno
 go_upto_region 29 with (fail)
 refine wp_region_lit ?_
 refine RowL.wpList_load_row rfl 36 (.tmp 7) rfl xb _ ((M.failed 5)).cells _ (by kernel_rfl) x8 Tryz.underlying36 rfl (by kernel_rfl) ?_
 refine RowL.gl (.i (n : Int)) ?_ (by go_simp; try rfl)
 refine RowL.gl (.pointer (some ⟨W.heap.size + 1, 3, none⟩)) ?_ (by go_simp; try rfl)
 refine wpList_load_mid rfl 25 (.tmp 141) rfl (W.heap.size + 1) 3 (by kernel_rfl) [.i op, .i dl, .bool wt, .bool fo, .i sl, .i ge, .i st] _ hra Tryz.underlying25 rfl (by kernel_rfl) ?_
 generalize M.answered (M.failed 5) n ⟨op, dl, wt, fo, sl, ge, st⟩ = y at *
 simp only [Ask.val, Ask.cells] at htl
 go_wp2_with fail
 refine (htl _).mono ?_
 rintro e w12 ⟨rfl, hb12⟩
 have r9:=r8.below hb12
 have e9:=e8.below hb12
 have hst:=e9.store y
 have hsz:=ev_size y
 clear htl hb12 r8 e8 b8 x8 hra
 go_wp2_with fail
 refine bR2 W.heap.size (e9.set y) Tryz.underlying36 ?_
 rw [HR2.out]
 exact (r9.row (Nat.le_refl _) hg1 y.cells).fin hB _
end Go.Proofs.YtpmkgddjgebojaaGreatDoor.Mod
