/- Part 43 of the walks and plain laws that the last text joins. -/
import Derived.Test.YtpmkgddjgebojaaGreatDoorE42
set_option maxRecDepth 100000
set_option maxHeartbeats 16000000
set_option linter.unusedVariables false
set_option linter.unusedSimpArgs false
namespace Go.Proofs.YtpmkgddjgebojaaGreatDoor.Mod
open Go.RowKit Hp Slot RowL Life R8
structure Pr (W : World) (K : Nat → Prop) (p : Pl) (q : Ql) (m1 m2 : M) : Prop where
 mat : MAt W p m1
 qat : QAt W q m2
 dis : ∀ k, mfp p k → ¬ qfp q k
 kin : ∀ g, K g → g < W.heap.size ∧ ¬ mfp p g ∧ ¬ qfp q g
 q0 : ¬ qfp q 0
section
variable {W W' : World} {K : Nat → Prop} {p : Pl} {q : Ql} {m1 m2 m' : M} {ans : Value} {e : Ending}
theorem Pr.below (h : Pr W K p q m1 m2) (hb : Below W.heap.size W W') : Pr W' K p q m1 m2 :=
 ⟨h.mat.below hb, h.qat.below hb, h.dis, fun g hg => ⟨Nat.lt_of_lt_of_le (h.kin g hg).1 hb.size, (h.kin g hg).2⟩, h.q0⟩
theorem Pr.more (h : Pr W K p q m1 m2) {g : Nat} (hg : W.heap.size ≤ g) (hb : Below W.heap.size W W') (hl : g < W'.heap.size) : Pr W' (fun k => K k ∨ k = g) p q m1 m2:=by
 have h2:=h.below hb
 refine ⟨h2.mat, h2.qat, h2.dis, fun k hk => ?_, h.q0⟩
 rcases hk with hk | rfl
 ·exact h2.kin k hk
 ·exact ⟨hl, fun hk => by have:=h.mat.lt hk; omega, fun hk => by have:=h.qat.lt hk; omega⟩
theorem Pr.box (h : Pr W K p q m1 m2) {g : Nat} (hg : K g) (h0 : g ≠ 0) (hc : Chg (fun k => k = g) W W') : Pr W' K p q m1 m2:=by
 obtain ⟨h1, h2, h3⟩:=h.kin g hg
 exact ⟨h.mat.keep hc.size (fun k hk => hc.block k (h.mat.lt hk) (fun e => h2 (e ▸ hk))) (hc.block 0 h.mat.lt0 (fun e => h0 e.symm)), h.qat.keep hc.size (fun k hk => hc.block k (h.qat.lt hk) (fun e => h3 (e ▸ hk))), h.dis, fun k hk => ⟨Nat.lt_of_lt_of_le (h.kin k hk).1 hc.size, (h.kin k hk).2⟩, h.q0⟩
theorem Pr.mstep (h : Pr W K p q m1 m2) (hp : MPost W p ans m' e W') : e = .returned ans ∧ ∃ p', p'.mb = p.mb ∧ Pr W' K p' q m' m2 ∧ Chg (mfp p) W W':=by
 obtain ⟨h0, lv, rv, h1, h2, h3, h4⟩:=hp
 have hm : ∀ k, mfp { p with lv:=lv, rv:=rv } k → mfp p k ∨ W.heap.size ≤ k:=by
  rintro k (hk | hk | hk | hk | hk | hk)
  ·exact .inl (.inl hk)
  ·exact .inl (.inr (.inl hk))
  ·exact .inl (.inr (.inr (.inl hk)))
  ·exact .inl (.inr (.inr (.inr (.inl hk))))
  ·rcases hk with hk | hk | hk
   ·exact .inl (.inr (.inr (.inr (.inr (.inl (.inl hk))))))
   ·exact .inl (.inr (.inr (.inr (.inr (.inl (.inr (.inl hk)))))))
   ·exact (h3 k hk).imp (fun h => .inr (.inr (.inr (.inr (.inl (.inr (.inr h))))))) id
  ·exact (h2 k hk).imp (fun h => .inr (.inr (.inr (.inr (.inr h))))) id
 refine ⟨h0, _, ?_, ⟨h1, h.qat.keep h4.size (fun k hk => h4.block k (h.qat.lt hk) (fun e => h.dis k e hk)), fun k hk hq => ?_, fun g hg => ⟨Nat.lt_of_lt_of_le (h.kin g hg).1 h4.size, fun hk => ?_, (h.kin g hg).2.2⟩, h.q0⟩, h4⟩
 ·rfl
 ·rcases hm k hk with hk | hk
  ·exact h.dis k hk hq
  ·have:=h.qat.lt hq; omega
 ·rcases hm g hk with hk | hk
  ·exact (h.kin g hg).2.1 hk
  ·have:=(h.kin g hg).1; omega
theorem Pr.qstep (h : Pr W K p q m1 m2) (hp : QPost W q ans m' e W') : e = .returned ans ∧ ∃ q', q'.mb = q.mb ∧ q'.wb = q.wb ∧ Pr W' K p q' m1 m' ∧ Chg (qfp q) W W':=by
 obtain ⟨h0, lv, ov, h1, h2, h3, h4⟩:=hp
 have hm : ∀ k, qfp { q with lv:=lv, ov:=ov } k → qfp q k ∨ W.heap.size ≤ k:=by
  rintro k (hk | hk | hk | hk | hk)
  ·exact .inl (.inl hk)
  ·exact .inl (.inr (.inl hk))
  ·exact .inl (.inr (.inr (.inl hk)))
  ·rcases hk with hk | hk
   ·exact .inl (.inr (.inr (.inr (.inl (.inl hk)))))
   ·exact (h3 k hk).imp (fun h => .inr (.inr (.inr (.inl (.inr h))))) id
  ·exact (h2 k hk).imp (fun h => .inr (.inr (.inr (.inr h)))) id
 refine ⟨h0, _, ?_, ?_, ⟨h.mat.keep h4.size (fun k hk => h4.block k (h.mat.lt hk) (fun e => h.dis k hk e)) (h4.block 0 h.mat.lt0 h.q0), h1, fun k hk hq => ?_, fun g hg => ⟨Nat.lt_of_lt_of_le (h.kin g hg).1 h4.size, (h.kin g hg).2.1, fun hk => ?_⟩, fun hk => ?_⟩, h4⟩
 ·rfl
 ·rfl
 ·rcases hm k hq with hq | hq
  ·exact h.dis k hk hq
  ·have:=h.mat.lt hk; omega
 ·rcases hm g hk with hk | hk
  ·exact (h.kin g hg).2.2 hk
  ·have:=(h.kin g hg).1; omega
 ·rcases hm 0 hk with hk | hk
  ·exact h.q0 hk
  ·have:=h.mat.lt0; omega
theorem Pr.mrow (h : Pr W K p q m1 m2) (hc : Chg (mfp p) W W') {g : Nat} {cs : Array Value} {t : TypeId} (hg : K g) (hr : RowAt W g cs t) : RowAt W' g cs t:=hr.chg hc (h.kin g hg).2.1
theorem Pr.qrow (h : Pr W K p q m1 m2) (hc : Chg (qfp q) W W') {g : Nat} {cs : Array Value} {t : TypeId} (hg : K g) (hr : RowAt W g cs t) : RowAt W' g cs t:=hr.chg hc (h.kin g hg).2.2
end
theorem modelNew_no (W : World) (hL : Laid W) (c : Conf.Cf) (who : Int) (ak : Ask) (hc : c.right = false) :
  Calls Tryz.prog 3 #[c.val, .i who, ak.val] W fun e W' => e = .returned (.bool true) ∧ Below W.heap.size W W':=by
 have hbA : Below W.heap.size W ((W.alloc (.cells c.cells 23)).alloc (.cells ak.cells 25)):=((Below.refl _ _).alloc (Nat.le_refl _) _).alloc (by simp) _
 have haw:=awake_any ((W.alloc (.cells c.cells 23)).alloc (.cells ak.cells 25)) (hL.stable (hbA.block 0 (hL.lt (by decide))))
 have rC : RowAt ((W.alloc (.cells c.cells 23)).alloc (.cells ak.cells 25)) W.heap.size c.cells 23:=heap_alloc2_old W _ _
 have hN:=fun w => m_new_no w c hc
 have hQ:=fun w => q_new_no w c hc
 clear hc hL
 obtain ⟨c1, c2, c3, c4, c5⟩:=c
 obtain ⟨op, dl, wt, fo, sl, ge, st⟩:=ak
 simp only [Conf.Cf.val, Conf.Cf.cells, Ask.val, Ask.cells] at *
 go_enter Tryz.func3, Tryz.ntmps3
 go_wp2_with fail
 refine haw.mono ?_
 rintro e w1 ⟨rfl, hb1⟩
 have r1:=rC.below hb1
 have hB1:=hbA.trans (hb1.mono hbA.size)
 clear haw rC hb1 hbA
 have d0 : w1.cell? ⟨W.heap.size, 0, none⟩ = some (.i c1):=r1.cell 0
 have d1 : w1.cell? ⟨W.heap.size, 1, none⟩ = some (.i c2):=r1.cell 1
 have d2 : w1.cell? ⟨W.heap.size, 2, none⟩ = some (.i c3):=r1.cell 2
 have d3 : w1.cell? ⟨W.heap.size, 3, none⟩ = some (.i c4):=r1.cell 3
 have d4 : w1.cell? ⟨W.heap.size, 4, none⟩ = some (.i c5):=r1.cell 4
 go_wp2_with fail
 refine (hN _).mono ?_
 rintro e w2 ⟨rfl, hb2⟩
 have r2:=r1.below hb2
 have hB2:=hB1.trans (hb2.mono hB1.size)
 clear d0 d1 d2 d3 d4 r1 hb2 hB1 hN
 have d0 : w2.cell? ⟨W.heap.size, 0, none⟩ = some (.i c1):=r2.cell 0
 have d1 : w2.cell? ⟨W.heap.size, 1, none⟩ = some (.i c2):=r2.cell 1
 have d2 : w2.cell? ⟨W.heap.size, 2, none⟩ = some (.i c3):=r2.cell 2
 have d3 : w2.cell? ⟨W.heap.size, 3, none⟩ = some (.i c4):=r2.cell 3
 have d4 : w2.cell? ⟨W.heap.size, 4, none⟩ = some (.i c5):=r2.cell 4
 go_wp2_with fail
 refine (hQ _).mono ?_
 rintro e w3 ⟨rfl, hb3⟩
 have hB3:=hB2.trans (hb3.mono hB2.size)
 clear d0 d1 d2 d3 d4 r2 hb3 hB2 hQ
 go_wp2_with fail
 go_ret
 exact ⟨rfl, hB3⟩
end Go.Proofs.YtpmkgddjgebojaaGreatDoor.Mod
