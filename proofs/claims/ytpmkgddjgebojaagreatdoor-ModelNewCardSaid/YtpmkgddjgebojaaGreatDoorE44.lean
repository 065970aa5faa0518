/- Part 44 of the walks and plain laws that the last text joins. -/
import Derived.Test.YtpmkgddjgebojaaGreatDoorE43
set_option maxRecDepth 100000
set_option maxHeartbeats 16000000
set_option linter.unusedVariables false
set_option linter.unusedSimpArgs false
namespace Go.Proofs.YtpmkgddjgebojaaGreatDoor.RowL
open Go.RowKit Hp
variable {P : Program} {ops : Array Oper} {Q : Exit → Act → World → Prop} {rest : List Oper} {o : Oper} {a : Act} {w : World}
theorem gbox {ob : Obj} {o2 : Oper} {Z cs : Array Value} {t : TypeId} (T : TypeId) (x y : Operand) (hob : ob = .cells Z t) (h : wpList P ops Q rest ((a.put o.dst (.pointer (some ⟨w.heap.size, 0, none⟩))).put o2.dst undef) ((w.alloc ob).setRow w.heap.size cs))
  (hr : (execOp a.eval o).run P w = .ok (.value (.pointer (some ⟨w.heap.size, 0, none⟩))) (w.alloc ob):=by kernel_rfl) (hg : o.guard = none:=by kernel_rfl) (hg2 : o2.guard = none:=by kernel_rfl)
  (ho : o2.op = .store T x y:=by kernel_rfl) (hx : (a.put o.dst (.pointer (some ⟨w.heap.size, 0, none⟩))).eval x = .pointer (some ⟨w.heap.size, 0, none⟩):=by kernel_rfl) (hy : (a.put o.dst (.pointer (some ⟨w.heap.size, 0, none⟩))).eval y = .agg cs:=by kernel_rfl)
  (hsz : Z.size = cs.size:=by kernel_rfl) (hi : (P.info? T).map (·.size) = some cs.size:=by kernel_rfl) (h1 : cs.all (·.oneCell') = true:=by kernel_rfl) : wpList P ops Q (o :: o2 :: rest) a w:=by
 subst hob
 refine wpList_plain hg fun K hK => ?_
 unfold Oper.wp
 rw [hr]
 exact hK _ _ (RowL.wpList_store_row hg2 T x y ho w.heap.size t Z cs hx hy (RowAt.new w Z t) hsz hi h1 h)
end Go.Proofs.YtpmkgddjgebojaaGreatDoor.RowL
namespace Go.Proofs.YtpmkgddjgebojaaGreatDoor.Mod
open Go.RowKit Hp Slot RowL Life R8
theorem Pr.lowm {W W0 : World} {K : Nat → Prop} {p : Pl} {q : Ql} {m1 m2 : M} (h : Pr W K p q m1 m2) (hK : ∀ k, k < W0.heap.size → K k) (hs : W0.heap.size ≤ W.heap.size) {W' : World} (hc : Chg (mfp p) W W') : Below W0.heap.size W W' :=
 hc.below hs fun k hk => by
  by_cases hl : k < W0.heap.size
  ·exact absurd hk (h.kin k (hK k hl)).2.1
  ·omega
theorem Pr.lowq {W W0 : World} {K : Nat → Prop} {p : Pl} {q : Ql} {m1 m2 : M} (h : Pr W K p q m1 m2) (hK : ∀ k, k < W0.heap.size → K k) (hs : W0.heap.size ≤ W.heap.size) {W' : World} (hc : Chg (qfp q) W W') : Below W0.heap.size W W' :=
 hc.below hs fun k hk => by
  by_cases hl : k < W0.heap.size
  ·exact absurd hk (h.kin k (hK k hl)).2.2
  ·omega
theorem Pr.start {W W1 W2 : World} {p : Pl} {q : Ql} {m : M} {K : Nat → Prop} (hm : MAt W1 p m) (hml : ∀ k, mfp p k → W.heap.size ≤ k) (hb1 : Below W.heap.size W W1) (hq : QAt W2 q m) (hql : ∀ k, qfp q k → W1.heap.size ≤ k) (hb2 : Below W1.heap.size W1 W2) (hK : ∀ k, K k → k < W.heap.size) (h0 : 0 < W.heap.size) : Pr W2 K p q m m:=by
 have s1:=hb1.size
 have s2:=hb2.size
 refine ⟨hm.below hb2, hq, fun k hk hk' => ?_, fun g hg => ⟨?_, fun hk => ?_, fun hk => ?_⟩, fun hk => ?_⟩
 ·have:=hm.lt hk
  have:=hql k hk'
  omega
 ·have:=hK g hg
  omega
 ·have:=hml g hk
  have:=hK g hg
  omega
 ·have:=hql g hk
  have:=hK g hg
  omega
 ·have:=hql 0 hk
  omega
theorem Pr.event {W : World} {K : Nat → Prop} {p : Pl} {q : Ql} {m1 m2 : M} (h : Pr W K p q m1 m2) (x : Ev) : Pr ((W.alloc (.cells Zv 36)).setRow W.heap.size x.cells) (fun k => K k ∨ k = W.heap.size) p q m1 m2 ∧ Below W.heap.size W ((W.alloc (.cells Zv 36)).setRow W.heap.size x.cells) ∧ RowAt ((W.alloc (.cells Zv 36)).setRow W.heap.size x.cells) W.heap.size x.cells 36:=by
 have hc : Chg (fun k => k = W.heap.size) W ((W.alloc (.cells Zv 36)).setRow W.heap.size x.cells):=chg_setRow ((Chg.refl _ _).alloc _) _ _ (fun _ => rfl)
 have hb:=hc.below (Nat.le_refl _) (fun k hk => by rw [hk]; exact Nat.le_refl _)
 have hr : RowAt ((W.alloc (.cells Zv 36)).setRow W.heap.size x.cells) W.heap.size x.cells 36:=(RowAt.new W Zv 36).set _
 exact ⟨h.more (Nat.le_refl _) hb hr.lt, hb, hr⟩
theorem run_eql_ev {w : World} {o : Oper} {a : Act} (e : Ev) (x y : Operand) (T2 : TypeId) (ho : o.op = .binOp .eql 36 x y T2:=by kernel_rfl) (hx : a.eval x = .agg e.cells:=by kernel_rfl) (hy : a.eval y = .agg e.cells:=by kernel_rfl) : (execOp a.eval o).run Tryz.prog w = .ok (.value (.bool true)) w:=by
 have h : (Op.equalIn 10000 36 (.agg e.cells) (.agg e.cells)).run Tryz.prog w = .ok true w:=ev_self w e
 have hg : (eqGuard .eql 36 x y (.agg e.cells) (.agg e.cells)).run Tryz.prog w = .ok () w:=by kernel_rfl
 unfold execOp
 simp only [ho, hx, hy]
 simp only [Sem.run_bind, hg, Result.andThen_ok, run_eql_struct, h, Sem.run_pure]
theorem modelNew_yes (W : World) (hL : Laid W) (c : Conf.Cf) (who : Int) (ak : Ask) (hc : c.right = true) :
  Calls Tryz.prog 3 #[c.val, .i who, ak.val] W fun e W' => e = .returned (.bool true) ∧ Below W.heap.size W W':=by
 have h0 : 0 < W.heap.size:=hL.lt (by decide)
 have hbA : Below W.heap.size W ((W.alloc (.cells c.cells 23)).alloc (.cells ak.cells 25)):=((Below.refl _ _).alloc (Nat.le_refl _) _).alloc (by simp) _
 have LA:=hL.stable (hbA.block 0 h0)
 have haw:=awake_any _ LA
 have rC : RowAt ((W.alloc (.cells c.cells 23)).alloc (.cells ak.cells 25)) W.heap.size c.cells 23:=heap_alloc2_old W _ _
 have rA : RowAt ((W.alloc (.cells c.cells 23)).alloc (.cells ak.cells 25)) (W.heap.size + 1) ak.cells 25:=heap_alloc2_new W _ _
 have hLs:=Lib.hid (fun w (hb : Below W.heap.size W w) => hL.stable (hb.block 0 h0))
 have hN:=Lib.hid (fun w => m_new w c hc)
 have hQ:=Lib.hid (fun w => q_new w c hc)
 have HKS:=Lib.hid (new_ask_ks hc who ak)
 have HBU:=Lib.hid (new_busy c)
 clear hc hL LA
 generalize hM : M.new c = m at *
 clear hM
 obtain ⟨c1, c2, c3, c4, c5⟩:=c
 obtain ⟨op, dl, wt, fo, sl, ge, st⟩:=ak
 simp only [Conf.Cf.val, Conf.Cf.cells, Ask.val, Ask.cells] at *
 go_enter Tryz.func3, Tryz.ntmps3
 go_wp2_with fail
 refine haw.mono ?_
 rintro e w1 ⟨rfl, hb1⟩
 have r1:=rC.below hb1
 have a1:=rA.below hb1
 have hB1:=hbA.trans (hb1.mono hbA.size)
 clear haw rC rA hb1 hbA
 have d0 : w1.cell? ⟨W.heap.size, 0, none⟩ = some (.i c1):=r1.cell 0
 have d1 : w1.cell? ⟨W.heap.size, 1, none⟩ = some (.i c2):=r1.cell 1
 have d2 : w1.cell? ⟨W.heap.size, 2, none⟩ = some (.i c3):=r1.cell 2
 have d3 : w1.cell? ⟨W.heap.size, 3, none⟩ = some (.i c4):=r1.cell 3
 have d4 : w1.cell? ⟨W.heap.size, 4, none⟩ = some (.i c5):=r1.cell 4
 go_wp2_with fail
 refine (hN.out _ (hLs.out _ hB1)).mono ?_
 rintro e w2 ⟨p, rfl, hm, hml, hb2⟩
 have r2:=r1.below hb2
 have a2:=a1.below hb2
 clear d0 d1 d2 d3 d4 r1
 have d0 : w2.cell? ⟨W.heap.size, 0, none⟩ = some (.i c1):=r2.cell 0
 have d1 : w2.cell? ⟨W.heap.size, 1, none⟩ = some (.i c2):=r2.cell 1
 have d2 : w2.cell? ⟨W.heap.size, 2, none⟩ = some (.i c3):=r2.cell 2
 have d3 : w2.cell? ⟨W.heap.size, 3, none⟩ = some (.i c4):=r2.cell 3
 have d4 : w2.cell? ⟨W.heap.size, 4, none⟩ = some (.i c5):=r2.cell 4
 go_wp2_with fail
 refine (hQ.out _).mono ?_
 rintro e w3 ⟨q, rfl, hq, hql, hb3⟩
 have a3:=a2.below hb3
 have s1 : W.heap.size ≤ w1.heap.size:=hB1.size
 have P3:=Pr.start (K:=fun k => k < w1.heap.size) hm hml hb2 hq hql hb3 (fun _ h => h) (by omega)
 have hB3:=(hB1.trans (hb2.mono s1)).trans (hb3.mono (Nat.le_trans s1 hb2.size))
 have hK1 : W.heap.size + 1 < w1.heap.size:=a1.lt
 clear d0 d1 d2 d3 d4 r2 a2 a1 hm hml hb2 hq hql hb3 hB1
 have l0 : w3.cell? ⟨W.heap.size + 1, 0, none⟩ = some (.i op):=a3.cell 0
 have l1 : w3.cell? ⟨W.heap.size + 1, 1, none⟩ = some (.i dl):=a3.cell 1
 have l2 : w3.cell? ⟨W.heap.size + 1, 2, none⟩ = some (.bool wt):=a3.cell 2
 have l3 : w3.cell? ⟨W.heap.size + 1, 3, none⟩ = some (.bool fo):=a3.cell 3
 have l4 : w3.cell? ⟨W.heap.size + 1, 4, none⟩ = some (.i sl):=a3.cell 4
 have l5 : w3.cell? ⟨W.heap.size + 1, 5, none⟩ = some (.i ge):=a3.cell 5
 have l6 : w3.cell? ⟨W.heap.size + 1, 6, none⟩ = some (.i st):=a3.cell 6
 have hA:=m_ask P3.mat who ⟨op, dl, wt, fo, sl, ge, st⟩
 have hA2:=fun W q (h : QAt W q m) => q_ask h who ⟨op, dl, wt, fo, sl, ge, st⟩ HBU.out
 simp only [Ask.val, Ask.cells] at hA hA2
 generalize m.ask who ⟨op, dl, wt, fo, sl, ge, st⟩ = R at *
 obtain ⟨⟨x, b1, b2⟩, m4⟩:=R
 simp only at hA hA2
 have HA2:=Lib.hid hA2
 clear hA2
 go_wp2_with fail
 refine hA.mono ?_
 intro e w4 hp
 obtain ⟨rfl, p4, hpm, P4, hc4⟩:=P3.mstep hp
 have a4:=P3.mrow hc4 hK1 a3
 clear hA hp l0 l1 l2 l3 l4 l5 l6
 have hB4:=hB3.trans (P3.lowm (W0:=W) (fun k hk => by omega) hB3.size hc4)
 obtain ⟨P5, hb5, x5⟩:=P4.event x
 have a5:=a4.below hb5
 have hB5:=hB4.trans (hb5.mono hB4.size)
 clear hb5 a4 a3 hB3 hB4 P3 P4 hc4
 dsimp only
 go_step
 refine gl ((.tuple #[x.val, .bool b1, .bool b2])) ?_
 refine gl (x.val) ?_
 refine gl (.bool b1) ?_
 refine gl (.bool b2) ?_
 refine gbox (ob:=.cells Zv 36) (Z:=Zv) (cs:=x.cells) (t:=36) 36 (.tmp 11) (.tmp 52) rfl ?_
 refine gl (.bool b1) ?_
 refine gl (.bool b2) ?_
 try simp only [Act.put, sA, sZ, sS]
 generalize ((w4.alloc (.cells Zv 36)).setRow w4.heap.size x.cells) = w5 at *
 generalize w4.heap.size = xb at *
 have l0 : w5.cell? ⟨W.heap.size + 1, 0, none⟩ = some (.i op):=a5.cell 0
 have l1 : w5.cell? ⟨W.heap.size + 1, 1, none⟩ = some (.i dl):=a5.cell 1
 have l2 : w5.cell? ⟨W.heap.size + 1, 2, none⟩ = some (.bool wt):=a5.cell 2
 have l3 : w5.cell? ⟨W.heap.size + 1, 3, none⟩ = some (.bool fo):=a5.cell 3
 have l4 : w5.cell? ⟨W.heap.size + 1, 4, none⟩ = some (.i sl):=a5.cell 4
 have l5 : w5.cell? ⟨W.heap.size + 1, 5, none⟩ = some (.i ge):=a5.cell 5
 have l6 : w5.cell? ⟨W.heap.size + 1, 6, none⟩ = some (.i st):=a5.cell 6
 have hA:=HA2.out _ _ P5.qat
 go_wp2_with fail
 refine hA.mono ?_
 intro e w6 hp
 obtain ⟨rfl, q6, hqm, -, P6, hc6⟩:=P5.qstep hp
 have x6:=P5.qrow hc6 (.inr rfl) x5
 clear hA hp l0 l1 l2 l3 l4 l5 l6
 have hB6:=hB5.trans (P5.lowq (W0:=W) (fun k hk => .inl (by omega)) hB5.size hc6)
 obtain ⟨P7, hb7, y7⟩:=P6.event x
 have x7:=x6.below hb7
 have hB7:=hB6.trans (hb7.mono hB6.size)
 clear hb7 a5 x5 x6 hB5 hB6 P5 P6 hc6 HA2
 dsimp only
 go_step
 refine gl ((.tuple #[x.val, .bool b1, .bool b2])) ?_
 refine gl (x.val) ?_
 refine gl (.bool b1) ?_
 refine gl (.bool b2) ?_
 refine gbox (ob:=.cells Zv 36) (Z:=Zv) (cs:=x.cells) (t:=36) 36 (.tmp 14) (.tmp 60) rfl ?_
 refine gl (.bool b1) ?_
 refine gl (.bool b2) ?_
 try simp only [Act.put, sA, sZ, sS]
 generalize ((w6.alloc (.cells Zv 36)).setRow w6.heap.size x.cells) = w7 at *
 generalize w6.heap.size = yb at *
 have hW:=m_wake P7.mat who
 rw [hpm] at hW
 have hZ:=fun W q (h : QAt W q m4) => q_wake_zero h HKS.out who
 generalize m4.wake who = R at *
 obtain ⟨⟨u, b3⟩, m8⟩:=R
 simp only at hW hZ
 have HZ:=Lib.hid hZ
 clear hZ HKS
 go_wp2_with fail
 refine hW.mono ?_
 intro e w8 hp
 have hp' : MPost w7 p4 (.tuple #[u.val, .bool b3]) m8 e w8:=hp
 obtain ⟨rfl, p8, hpm8, P8, hc8⟩:=P7.mstep hp'
 have x8:=P7.mrow hc8 (.inl (.inr rfl)) x7
 have y8:=P7.mrow hc8 (.inr rfl) y7
 have hB8:=hB7.trans (P7.lowm (W0:=W) (fun k hk => .inl (.inl (by omega))) hB7.size hc8)
 obtain ⟨P9, hb9, u9⟩:=P8.event u
 have x9:=x8.below hb9
 have y9:=y8.below hb9
 have hB9:=hB8.trans (hb9.mono hB8.size)
 clear hW hp hp' hc8 x7 y7 hB7 P7 x8 y8 hB8 P8 hb9
 dsimp only
 go_step
 refine gl ((.tuple #[u.val, .bool b3])) ?_
 refine gl (u.val) ?_
 refine gl (.bool b3) ?_
 refine gbox (ob:=.cells Zv 36) (Z:=Zv) (cs:=u.cells) (t:=36) 36 (.tmp 17) (.tmp 67) rfl ?_
 refine gl (.bool b3) ?_
 try simp only [Act.put, sA, sZ, sS]
 generalize ((w8.alloc (.cells Zv 36)).setRow w8.heap.size u.cells) = w9 at *
 generalize w8.heap.size = ub at *
 have hZ:=HZ.out _ _ P9.qat
 rw [hqm] at hZ
 go_wp2_with fail
 refine hZ.mono ?_
 intro e w10 hp
 have hp' : QPost w9 q6 (.tuple #[u.val, .bool b3]) m8 e w10:=hp
 obtain ⟨rfl, q10, hqm10, -, P10, hc10⟩:=P9.qstep hp'
 have x10:=P9.qrow hc10 (.inl (.inl (.inr rfl))) x9
 have y10:=P9.qrow hc10 (.inl (.inr rfl)) y9
 have u10:=P9.qrow hc10 (.inr rfl) u9
 have hB10:=hB9.trans (P9.lowq (W0:=W) (fun k hk => .inl (.inl (.inl (by omega)))) hB9.size hc10)
 obtain ⟨P11, hb11, v11⟩:=P10.event u
 have x11:=x10.below hb11
 have y11:=y10.below hb11
 have u11:=u10.below hb11
 have hB11:=hB10.trans (hb11.mono hB10.size)
 clear hZ hp hp' hc10 x9 y9 u9 hB9 P9 x10 y10 u10 hB10 P10 hb11 HZ
 dsimp only
 go_step
 refine gl ((.tuple #[u.val, .bool b3])) ?_
 refine gl (u.val) ?_
 refine gl (.bool b3) ?_
 refine gbox (ob:=.cells Zv 36) (Z:=Zv) (cs:=u.cells) (t:=36) 36 (.tmp 19) (.tmp 73) rfl ?_
 refine gl (.bool b3) ?_
 try simp only [Act.put, sA, sZ, sS]
 generalize ((w10.alloc (.cells Zv 36)).setRow w10.heap.size u.cells) = w11 at *
 generalize w10.heap.size = vb at *
 have hv:=m_view P11.mat
 rw [hpm8, hpm] at hv
 go_wp2_with fail
 refine hv.mono ?_
 rintro e w12 ⟨vg, vc, va, vd, rfl, hsl, -, hown, -, hb⟩
 have P12:=P11.below hb
 have x12:=x11.below hb
 have y12:=y11.below hb
 have u12:=u11.below hb
 have v12:=v11.below hb
 have hB12:=hB11.trans (hb.mono hB11.size)
 have hal:=alike_any P12.qat vg vc va vd hsl (OwnS.at hown)
 rw [hqm10, hqm] at hal
 clear hv hsl hown hb P11 x11 y11 u11 v11 hB11
 go_wp2_with fail
 refine hal.mono ?_
 rintro e w13 ⟨rfl, hb⟩
 have x13:=x12.below hb
 have y13:=y12.below hb
 have u13:=u12.below hb
 have v13:=v12.below hb
 have hB13:=hB12.trans (hb.mono hB12.size)
 clear hal hb P12 x12 y12 u12 v12 hB12
 go_upto_region 13 with (fail)
 refine wp_region_lit ?_
 refine gl (.bool true) ?_
 refine gl (.bool true) ?_
 try simp only [Act.put, sA, sZ, sS]
 refine grow x13 36 (.tmp 11) Tryz.underlying36 ?_
 try simp only [Act.put, sA, sZ, sS]
 refine grow y13 36 (.tmp 14) Tryz.underlying36 ?_
 try simp only [Act.put, sA, sZ, sS]
 refine gl (.bool true) ?_ (run_eql_ev x (.tmp 81) (.tmp 82) 36)
 try simp only [Act.put, sA, sZ, sS]
 refine gl (.bool true) ?_
 refine gl (.bool true) ?_
 try simp only [Act.put, sA, sZ, sS]
 refine gl (.bool b1) ?_
 refine gl (.bool b1) ?_
 try simp only [Act.put, sA, sZ, sS]
 refine gl (.bool true) ?_ (by cases b1 <;> kernel_rfl)
 try simp only [Act.put, sA, sZ, sS]
 refine gl (.bool true) ?_
 refine gl (.bool true) ?_
 try simp only [Act.put, sA, sZ, sS]
 refine gl (.bool b2) ?_
 refine gl (.bool b2) ?_
 try simp only [Act.put, sA, sZ, sS]
 refine gl (.bool true) ?_ (by cases b2 <;> kernel_rfl)
 try simp only [Act.put, sA, sZ, sS]
 refine gl (.bool true) ?_
 refine gl (.bool true) ?_
 try simp only [Act.put, sA, sZ, sS]
 refine grow u13 36 (.tmp 17) Tryz.underlying36 ?_
 try simp only [Act.put, sA, sZ, sS]
 refine grow v13 36 (.tmp 19) Tryz.underlying36 ?_
 try simp only [Act.put, sA, sZ, sS]
 refine gl (.bool true) ?_ (run_eql_ev u (.tmp 96) (.tmp 97) 36)
 try simp only [Act.put, sA, sZ, sS]
 refine gl (.bool true) ?_
 refine gl (.bool true) ?_
 try simp only [Act.put, sA, sZ, sS]
 refine gl (.bool b3) ?_
 refine gl (.bool b3) ?_
 try simp only [Act.put, sA, sZ, sS]
 refine gl (.bool true) ?_ (by cases b3 <;> kernel_rfl)
 try simp only [Act.put, sA, sZ, sS]
 refine gl (.bool true) ?_
 refine gl (.bool true) ?_
 try simp only [Act.put, sA, sZ, sS]
 refine gl (.bool true) ?_
 refine gl (.bool true) ?_
 refine gl (.bool true) ?_
 try simp only [Act.put, sA, sZ, sS]
 go_wp2_with fail
 go_ret
 exact ⟨rfl, hB13⟩
end Go.Proofs.YtpmkgddjgebojaaGreatDoor.Mod
