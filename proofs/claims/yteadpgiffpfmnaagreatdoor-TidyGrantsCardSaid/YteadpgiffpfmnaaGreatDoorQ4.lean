/- Part 4 of the walks and plain laws that the last text joins. -/
import Derived.Test.YteadpgiffpfmnaaGreatDoorQ3
set_option maxRecDepth 100000
set_option maxHeartbeats 16000000
set_option linter.unusedVariables false
set_option linter.unusedSimpArgs false
namespace Go.Proofs.YteadpgiffpfmnaaGreatDoor.Life
open Go.RowKit Hp Slot RowL
theorem right_bounds {s : S} (h : s.right = true) : (0 ≤ s.state ∧ s.state ≤ 6) ∧ (0 ≤ s.uses ∧ s.uses ≤ 63) ∧ (0 ≤ s.gen ∧ s.gen ≤ 4095) ∧ (0 ≤ s.version ∧ s.version ≤ 32767) ∧ (0 ≤ s.own ∧ s.own ≤ 15) ∧ (0 ≤ s.streams ∧ s.streams ≤ 255):=by
 have m3 : (Field.mx 3 : Int) = 7:=rfl
 have m4 : (Field.mx 4 : Int) = 15:=rfl
 have m8 : (Field.mx 8 : Int) = 255:=rfl
 have m6 : (Field.mx 6 : Int) = 63:=rfl
 have m12 : (Field.mx 12 : Int) = 4095:=rfl
 have m15 : (Field.mx 15 : Int) = 32767:=rfl
 simp only [S.right, Field.packOk, fields9, S.nums, Bool.and_eq_true, decide_eq_true_eq, m3, m4, m8, m6, m12, m15] at h
 omega
def nextOf (s : S) (own : Int) (t : S) (b : Bool) : Option S:=if s.right = true ∧ 0 ≤ own ∧ own ≤ 15 ∧ b = true then some { t with version:=(s.version + 1) % 32768 } else none
def S.zero : S:=⟨0, 0, 0, false, false, 0, 0, 0, 0⟩
theorem bel_step {wb W W' : World} (h : Below wb.heap.size wb W) (hb : Below W.heap.size W W') : Below wb.heap.size wb W':=h.trans (hb.mono h.size)
theorem bel_set {wb W : World} (h : Below wb.heap.size wb W) (i : Nat) (v : Value) : Below wb.heap.size wb (W.setCell ⟨wb.heap.size, i, none⟩ v):=h.setCell (Nat.le_refl _) v
theorem bel_alloc {wb W : World} (h : Below wb.heap.size wb W) (o : Obj) : Below wb.heap.size wb (W.alloc o):=h.alloc h.size o
theorem setOther {w : World} {g : Nat} {cs : Array Value} {t : TypeId} (h : RowAt w g cs t) {p : Addr} (v : Value) (hp : g ≠ p.block) : RowAt (w.setCell p v) g cs t:=(heap_setCell_other w p g v hp).trans h
def acts : Array Value:=#[.func (.func 148) #[] #[], .func (.func 149) #[] #[], .func (.func 150) #[] #[], .func (.func 151) #[] #[], .func (.func 152) #[] #[], .func (.func 153) #[] #[], .func (.func 154) #[] #[], .func (.func 155) #[] #[], .func (.func 156) #[] #[], .func (.func 157) #[] #[], .func (.func 158) #[] #[], .func (.func 159) #[] #[], .func (.func 160) #[] #[], .func (.func 161) #[] #[], .func (.func 162) #[] #[], .func (.func 163) #[] #[], .func (.func 164) #[] #[], .func (.func 165) #[] #[]]
theorem changes_any (w : World) : Calls Tryz.prog 136 #[] w fun e w' => e = .returned (.slice (some ⟨w.heap.size, 0, none⟩) 18 18) ∧ w' = w.alloc (.cells acts 148):=by
 go_enter Tryz.func136, Tryz.ntmps136
 go_wp2
 go_ret
 exact ⟨rfl, rfl⟩
theorem next_gen (w : World) (s : S) (own more : Int) (F d : Nat) (t : S) (b : Bool) (hd : d < 18) (hE : ∀ args w, (callFunc F args).run Tryz.prog w = .ok (.enter F args) w) (hF : acts[d]? = some (.func (.func F) #[] #[])) (hL : Laid w) (hw : s.wf)
  (hac : s.right = true → ∀ W, Calls Tryz.prog F #[cval s own more] W fun e W' => e = .returned (.tuple #[t.val, .bool b]) ∧ Below W.heap.size W W') :
  Calls Tryz.prog 121 #[s.val, .i d, .i own, .i more] w fun e w' =>
  e = .returned (.tuple #[((nextOf s own t b).getD S.zero).val, .bool (nextOf s own t b).isSome]) ∧ Below w.heap.size w w':=by
 have hch:=changes_any
 have hri:=fun W h => right_any W s h hw
 have hrb:=@right_bounds s
 have HN : RowKit.Hid (∀ (h : s.right = true ∧ 0 ≤ own ∧ own ≤ 15 ∧ b = true), nextOf s own t b = some { t with version:=(s.version + 1) % 32768 }):=fun h => if_pos h
 have HF : RowKit.Hid (∀ (h : ¬ (s.right = true ∧ 0 ≤ own ∧ own ≤ 15 ∧ b = true)), nextOf s own t b = none):=fun h => if_neg h
 generalize nextOf s own t b = r at *
 generalize s.right = rg at *
 have hd0 : (0 : Int) ≤ (d : Int):=by omega
 have hd1 : (d : Int) < 18:=by omega
 have hd2 : (d : Int) ≤ 17:=by omega
 have HFd:=Lib.hid hF
 clear hF
 obtain ⟨st, ow, sm, br, ma, us, ge, ep, ve⟩:=s
 obtain ⟨st', ow', sm', br', ma', us', ge', ep', ve'⟩:=t
 simp only [S.val, S.cells, cval] at hri hac hrb HN
 have hA : Below w.heap.size w (((w.alloc (.cells (Aa st ow sm br ma us ge ep ve) 41)).alloc (.cells Zs 41)).alloc (.cells acts 148)):=(((Below.refl _ _).alloc (Nat.le_refl _) _).alloc (by simp) _).alloc (by simp; omega) _
 have hLA : Laid (((w.alloc (.cells (Aa st ow sm br ma us ge ep ve) 41)).alloc (.cells Zs 41)).alloc (.cells acts 148)):=hL.stable (hA.block 0 (hL.lt (by decide)))
 have hr1 : RowAt (((w.alloc (.cells (Aa st ow sm br ma us ge ep ve) 41)).alloc (.cells Zs 41)).alloc (.cells acts 148)) w.heap.size (Aa st ow sm br ma us ge ep ve) 41:=by rw [RowAt, Below.heap_alloc _ _ _ (by simp; omega)]; exact heap_alloc2_old w _ _
 have hr2 : RowAt (((w.alloc (.cells (Aa st ow sm br ma us ge ep ve) 41)).alloc (.cells Zs 41)).alloc (.cells acts 148)) (w.heap.size + 1) Zs 41:=heap_alloc3_mid w _ _ _
 have hr3 : RowAt (((w.alloc (.cells (Aa st ow sm br ma us ge ep ve) 41)).alloc (.cells Zs 41)).alloc (.cells acts 148)) (w.heap.size + 1 + 1) acts 148:=by have:=heap_alloc_new ((w.alloc (.cells (Aa st ow sm br ma us ge ep ve) 41)).alloc (.cells Zs 41)) (.cells acts 148); simpa [RowAt] using this
 go_enter Tryz.func121, Tryz.ntmps121
 simp only [S.val, S.cells]
 go_wp2_with fail
 refine (hch _).mono ?_
 rintro e wa ⟨rfl, rfl⟩
 generalize (((w.alloc (.cells (Aa st ow sm br ma us ge ep ve) 41)).alloc (.cells Zs 41)).alloc (.cells acts 148)) = wa at *
 have hx:=hri wa hLA
 have u0 : wa.cell? ⟨w.heap.size, 0, none⟩ = some (.i st):=hr1.cell 0
 have u1 : wa.cell? ⟨w.heap.size, 1, none⟩ = some (.i ow):=hr1.cell 1
 have u2 : wa.cell? ⟨w.heap.size, 2, none⟩ = some (.i sm):=hr1.cell 2
 have u3 : wa.cell? ⟨w.heap.size, 3, none⟩ = some (.bool br):=hr1.cell 3
 have u4 : wa.cell? ⟨w.heap.size, 4, none⟩ = some (.bool ma):=hr1.cell 4
 have u5 : wa.cell? ⟨w.heap.size, 5, none⟩ = some (.i us):=hr1.cell 5
 have u6 : wa.cell? ⟨w.heap.size, 6, none⟩ = some (.i ge):=hr1.cell 6
 have u7 : wa.cell? ⟨w.heap.size, 7, none⟩ = some (.i ep):=hr1.cell 7
 have u8 : wa.cell? ⟨w.heap.size, 8, none⟩ = some (.i ve):=hr1.cell 8
 clear hri hch
 go_wp2_with fail
 refine hx.mono ?_
 rintro e wb ⟨rfl, hb⟩
 have hB:=hA.trans (hb.mono hA.size)
 have r1:=hr1.below hb
 have r2:=hr2.below hb
 have r3:=hr3.below hb
 clear hb hx u0 u1 u2 u3 u4 u5 u6 u7 u8 hr1 hr2 hr3
 have q0 : wb.cell? ⟨w.heap.size + 1, 0, none⟩ = some (.i 0):=r2.cell 0
 have f0 : wb.frozen? ⟨w.heap.size + 1, 0, none⟩ = false:=r2.frozen 0
 have q1 : wb.cell? ⟨w.heap.size + 1, 1, none⟩ = some (.i 0):=r2.cell 1
 have f1 : wb.frozen? ⟨w.heap.size + 1, 1, none⟩ = false:=r2.frozen 1
 have q2 : wb.cell? ⟨w.heap.size + 1, 2, none⟩ = some (.i 0):=r2.cell 2
 have f2 : wb.frozen? ⟨w.heap.size + 1, 2, none⟩ = false:=r2.frozen 2
 have q3 : wb.cell? ⟨w.heap.size + 1, 3, none⟩ = some (.bool false):=r2.cell 3
 have f3 : wb.frozen? ⟨w.heap.size + 1, 3, none⟩ = false:=r2.frozen 3
 have q4 : wb.cell? ⟨w.heap.size + 1, 4, none⟩ = some (.bool false):=r2.cell 4
 have f4 : wb.frozen? ⟨w.heap.size + 1, 4, none⟩ = false:=r2.frozen 4
 have q5 : wb.cell? ⟨w.heap.size + 1, 5, none⟩ = some (.i 0):=r2.cell 5
 have f5 : wb.frozen? ⟨w.heap.size + 1, 5, none⟩ = false:=r2.frozen 5
 have q6 : wb.cell? ⟨w.heap.size + 1, 6, none⟩ = some (.i 0):=r2.cell 6
 have f6 : wb.frozen? ⟨w.heap.size + 1, 6, none⟩ = false:=r2.frozen 6
 have q7 : wb.cell? ⟨w.heap.size + 1, 7, none⟩ = some (.i 0):=r2.cell 7
 have f7 : wb.frozen? ⟨w.heap.size + 1, 7, none⟩ = false:=r2.frozen 7
 have q8 : wb.cell? ⟨w.heap.size + 1, 8, none⟩ = some (.i 0):=r2.cell 8
 have f8 : wb.frozen? ⟨w.heap.size + 1, 8, none⟩ = false:=r2.frozen 8
 have R2:=Lib.hid r2
 clear r2
 cases rg
 ·have hn : RowKit.Hid (r = none):=HF.out (by simp)
  go_wp2_with fail
  refine bR2 (w.heap.size + 1) (((((((((R2.out.setc 0 _).setc 1 _).setc 2 _).setc 3 _).setc 4 _).setc 5 _).setc 6 _).setc 7 _).setc 8 _) Tryz.underlying41 ?_
  refine ⟨by rw [hn.out]; rfl, ?_⟩
  iterate 9 refine Below.setCell ?_ (by simp) _
  exact hB
 by_cases ho1 : own < 0
 ·have hn : RowKit.Hid (r = none):=HF.out (by omega)
  go_wp2_with fail
  refine bR2 (w.heap.size + 1) (((((((((R2.out.setc 0 _).setc 1 _).setc 2 _).setc 3 _).setc 4 _).setc 5 _).setc 6 _).setc 7 _).setc 8 _) Tryz.underlying41 ?_
  refine ⟨by rw [hn.out]; rfl, ?_⟩
  iterate 9 refine Below.setCell ?_ (by simp) _
  exact hB
 by_cases ho2 : 15 < own
 ·have hn : RowKit.Hid (r = none):=HF.out (by omega)
  go_wp2_with fail
  refine bR2 (w.heap.size + 1) (((((((((R2.out.setc 0 _).setc 1 _).setc 2 _).setc 3 _).setc 4 _).setc 5 _).setc 6 _).setc 7 _).setc 8 _) Tryz.underlying41 ?_
  refine ⟨by rw [hn.out]; rfl, ?_⟩
  iterate 9 refine Below.setCell ?_ (by simp) _
  exact hB
 have hac1:=fun W => hac rfl W
 have hrb1:=hrb rfl
 clear hac hrb q0 f0 q1 f1 q2 f2 q3 f3 q4 f4 q5 f5 q6 f6 q7 f7 q8 f8
 have l0 : ∀ w', Below wb.heap.size wb w' → w'.cell? ⟨w.heap.size, 0, none⟩ = some (.i st):=fun w' h => (r1.below h).cell 0
 have l1 : ∀ w', Below wb.heap.size wb w' → w'.cell? ⟨w.heap.size, 1, none⟩ = some (.i ow):=fun w' h => (r1.below h).cell 1
 have l2 : ∀ w', Below wb.heap.size wb w' → w'.cell? ⟨w.heap.size, 2, none⟩ = some (.i sm):=fun w' h => (r1.below h).cell 2
 have l3 : ∀ w', Below wb.heap.size wb w' → w'.cell? ⟨w.heap.size, 3, none⟩ = some (.bool br):=fun w' h => (r1.below h).cell 3
 have l4 : ∀ w', Below wb.heap.size wb w' → w'.cell? ⟨w.heap.size, 4, none⟩ = some (.bool ma):=fun w' h => (r1.below h).cell 4
 have l5 : ∀ w', Below wb.heap.size wb w' → w'.cell? ⟨w.heap.size, 5, none⟩ = some (.i us):=fun w' h => (r1.below h).cell 5
 have l6 : ∀ w', Below wb.heap.size wb w' → w'.cell? ⟨w.heap.size, 6, none⟩ = some (.i ge):=fun w' h => (r1.below h).cell 6
 have l7 : ∀ w', Below wb.heap.size wb w' → w'.cell? ⟨w.heap.size, 7, none⟩ = some (.i ep):=fun w' h => (r1.below h).cell 7
 have l8 : ∀ w', Below wb.heap.size wb w' → w'.cell? ⟨w.heap.size, 8, none⟩ = some (.i ve):=fun w' h => (r1.below h).cell 8
 have lf : ∀ w', Below wb.heap.size wb w' → w'.cell? ⟨w.heap.size + 1 + 1, d, none⟩ = some (.func (.func F) #[] #[]):=fun w' h => ((r3.below h).cell d).trans HFd.out
 have hS0 : Below wb.heap.size wb wb.drew:=(Below.refl _ _).drew
 go_wp2_with fail
 go_region_held3 (fun w' => Below wb.heap.size wb w') (repeat (first | (with_reducible assumption) | (with_reducible exact Below.refl _ _) | (with_reducible refine Below.drew ?_) | (with_reducible refine bel_alloc ?_ _) | (with_reducible refine bel_set ?_ _ _)))
  ((first
  | (refine (hac1 _).mono ?_; rintro e w6 ⟨rfl, hb6⟩; have hzB : RowAt w6 wb.heap.size Zs 41:=RowAt.below (w:=(wb.alloc (.cells Zs 41)).drew) (heap_alloc_new wb _) hb6; have hS6:=bel_step (bel_alloc (Below.refl _ _) _).drew hb6; have zq0 : w6.cell? ⟨wb.heap.size, 0, none⟩ = some (.i 0):=hzB.cell 0; have zf0 : w6.frozen? ⟨wb.heap.size, 0, none⟩ = false:=hzB.frozen 0; have zq1 : w6.cell? ⟨wb.heap.size, 1, none⟩ = some (.i 0):=hzB.cell 1; have zf1 : w6.frozen? ⟨wb.heap.size, 1, none⟩ = false:=hzB.frozen 1; have zq2 : w6.cell? ⟨wb.heap.size, 2, none⟩ = some (.i 0):=hzB.cell 2; have zf2 : w6.frozen? ⟨wb.heap.size, 2, none⟩ = false:=hzB.frozen 2; have zq3 : w6.cell? ⟨wb.heap.size, 3, none⟩ = some (.bool false):=hzB.cell 3; have zf3 : w6.frozen? ⟨wb.heap.size, 3, none⟩ = false:=hzB.frozen 3; have zq4 : w6.cell? ⟨wb.heap.size, 4, none⟩ = some (.bool false):=hzB.cell 4; have zf4 : w6.frozen? ⟨wb.heap.size, 4, none⟩ = false:=hzB.frozen 4; have zq5 : w6.cell? ⟨wb.heap.size, 5, none⟩ = some (.i 0):=hzB.cell 5; have zf5 : w6.frozen? ⟨wb.heap.size, 5, none⟩ = false:=hzB.frozen 5; have zq6 : w6.cell? ⟨wb.heap.size, 6, none⟩ = some (.i 0):=hzB.cell 6; have zf6 : w6.frozen? ⟨wb.heap.size, 6, none⟩ = false:=hzB.frozen 6; have zq7 : w6.cell? ⟨wb.heap.size, 7, none⟩ = some (.i 0):=hzB.cell 7; have zf7 : w6.frozen? ⟨wb.heap.size, 7, none⟩ = false:=hzB.frozen 7; have zq8 : w6.cell? ⟨wb.heap.size, 8, none⟩ = some (.i 0):=hzB.cell 8; have zf8 : w6.frozen? ⟨wb.heap.size, 8, none⟩ = false:=hzB.frozen 8)
  | (refine (hac1 _).mono ?_; rintro e w6 ⟨rfl, hb6⟩; have hS6:=bel_step hS0 hb6)))
 ·have gl:=R2.out.lt
  have gs:=hS6.size
  have gB : Below w.heap.size w (w6.alloc (.cells (Aa st' ow' sm' br' ma' us' ge' ep' ve') 41)):=(hB.trans (hS6.mono (by omega))).alloc (by omega) _
  have hX1 : w.heap.size + 1 ≠ w6.heap.size:=by omega
  have hX2 : w6.heap.size ≠ w.heap.size:=by omega
  have hX3 : w.heap.size ≤ w6.heap.size:=by omega
  have gX : RowAt (w6.alloc (.cells (Aa st' ow' sm' br' ma' us' ge' ep' ve') 41)) w6.heap.size (Aa st' ow' sm' br' ma' us' ge' ep' ve') 41:=heap_alloc_new _ _
  have g2 : RowAt (w6.alloc (.cells (Aa st' ow' sm' br' ma' us' ge' ep' ve') 41)) (w.heap.size + 1) Zs 41:=(R2.out.below hS6).alloc _
  have g1 : (w6.alloc (.cells (Aa st' ow' sm' br' ma' us' ge' ep' ve') 41)).cell? ⟨w.heap.size, 8, none⟩ = some (.i ve):=((r1.below hS6).alloc _).cell 8
  generalize (w6.alloc (.cells (Aa st' ow' sm' br' ma' us' ge' ep' ve') 41)) = W7 at *
  generalize w6.heap.size = X at *
  clear gl gs
  clear l0 l1 l2 l3 l4 l5 l6 l7 l8 lf hac1 r1 r3 hS0 R2 hS6
  have q0 : W7.cell? ⟨w.heap.size + 1, 0, none⟩ = some (.i 0):=g2.cell 0
  have f0 : W7.frozen? ⟨w.heap.size + 1, 0, none⟩ = false:=g2.frozen 0
  have q1 : W7.cell? ⟨w.heap.size + 1, 1, none⟩ = some (.i 0):=g2.cell 1
  have f1 : W7.frozen? ⟨w.heap.size + 1, 1, none⟩ = false:=g2.frozen 1
  have q2 : W7.cell? ⟨w.heap.size + 1, 2, none⟩ = some (.i 0):=g2.cell 2
  have f2 : W7.frozen? ⟨w.heap.size + 1, 2, none⟩ = false:=g2.frozen 2
  have q3 : W7.cell? ⟨w.heap.size + 1, 3, none⟩ = some (.bool false):=g2.cell 3
  have f3 : W7.frozen? ⟨w.heap.size + 1, 3, none⟩ = false:=g2.frozen 3
  have q4 : W7.cell? ⟨w.heap.size + 1, 4, none⟩ = some (.bool false):=g2.cell 4
  have f4 : W7.frozen? ⟨w.heap.size + 1, 4, none⟩ = false:=g2.frozen 4
  have q5 : W7.cell? ⟨w.heap.size + 1, 5, none⟩ = some (.i 0):=g2.cell 5
  have f5 : W7.frozen? ⟨w.heap.size + 1, 5, none⟩ = false:=g2.frozen 5
  have q6 : W7.cell? ⟨w.heap.size + 1, 6, none⟩ = some (.i 0):=g2.cell 6
  have f6 : W7.frozen? ⟨w.heap.size + 1, 6, none⟩ = false:=g2.frozen 6
  have q7 : W7.cell? ⟨w.heap.size + 1, 7, none⟩ = some (.i 0):=g2.cell 7
  have f7 : W7.frozen? ⟨w.heap.size + 1, 7, none⟩ = false:=g2.frozen 7
  have q8 : W7.cell? ⟨w.heap.size + 1, 8, none⟩ = some (.i 0):=g2.cell 8
  have f8 : W7.frozen? ⟨w.heap.size + 1, 8, none⟩ = false:=g2.frozen 8
  have x0 : W7.cell? ⟨X, 0, none⟩ = some (.i st'):=gX.cell 0
  have x1 : W7.cell? ⟨X, 1, none⟩ = some (.i ow'):=gX.cell 1
  have x2 : W7.cell? ⟨X, 2, none⟩ = some (.i sm'):=gX.cell 2
  have x3 : W7.cell? ⟨X, 3, none⟩ = some (.bool br'):=gX.cell 3
  have x4 : W7.cell? ⟨X, 4, none⟩ = some (.bool ma'):=gX.cell 4
  have x5 : W7.cell? ⟨X, 5, none⟩ = some (.i us'):=gX.cell 5
  have x6 : W7.cell? ⟨X, 6, none⟩ = some (.i ge'):=gX.cell 6
  have x7 : W7.cell? ⟨X, 7, none⟩ = some (.i ep'):=gX.cell 7
  have x8 : W7.cell? ⟨X, 8, none⟩ = some (.i ve'):=gX.cell 8
  have xf : W7.frozen? ⟨X, 8, none⟩ = false:=gX.frozen 8
  have G2:=Lib.hid g2
  clear g2 gX
  cases b
  ·have hn : RowKit.Hid (r = none):=HF.out (by simp)
   clear x0 x1 x2 x3 x4 x5 x6 x7 x8 xf
   go_wp2_with fail
   refine bR2 (w.heap.size + 1) (((((((((G2.out.setc 0 _).setc 1 _).setc 2 _).setc 3 _).setc 4 _).setc 5 _).setc 6 _).setc 7 _).setc 8 _) Tryz.underlying41 ?_
   refine ⟨by rw [hn.out]; rfl, ?_⟩
   iterate 9 refine Below.setCell ?_ (by simp) _
   exact gB
  ·have hn:=Lib.hid (HN.out ⟨by simp, by omega, by omega, by simp⟩)
   obtain ⟨_, _, _, ⟨hv0, hv1⟩, _⟩:=hrb1
   have hm : IntKind.i64.wrap ((ve + 1).tmod 32768) = (ve + 1) % 32768:=by rw [Int.tmod_eq_emod_of_nonneg (by omega), IntKind.wrap_i64]; omega
   go_wp2_with fail
   refine bR2 (w.heap.size + 1) ((((((((((setOther G2.out _ (by simpa using hX1)).setc 0 _).setc 1 _).setc 2 _).setc 3 _).setc 4 _).setc 5 _).setc 6 _).setc 7 _).setc 8 _) Tryz.underlying41 ?_
   refine ⟨by rw [hn.out]; rfl, ?_⟩
   iterate 9 refine Below.setCell ?_ (by simp) _
   exact gB.setCell hX3 _
 ·have gl:=R2.out.lt
  have gs:=hS6.size
  have gB : Below w.heap.size w (((((((((w6.setCell ⟨wb.heap.size, 0, none⟩ (.i st')).setCell ⟨wb.heap.size, 1, none⟩ (.i ow')).setCell ⟨wb.heap.size, 2, none⟩ (.i sm')).setCell ⟨wb.heap.size, 3, none⟩ (.bool br')).setCell ⟨wb.heap.size, 4, none⟩ (.bool ma')).setCell ⟨wb.heap.size, 5, none⟩ (.i us')).setCell ⟨wb.heap.size, 6, none⟩ (.i ge')).setCell ⟨wb.heap.size, 7, none⟩ (.i ep')).setCell ⟨wb.heap.size, 8, none⟩ (.i ve')):=((((((((((hB.trans (hS6.mono (by omega))).setCell (by simp; omega) _).setCell (by simp; omega) _).setCell (by simp; omega) _).setCell (by simp; omega) _).setCell (by simp; omega) _).setCell (by simp; omega) _).setCell (by simp; omega) _).setCell (by simp; omega) _).setCell (by simp; omega) _)
  have hX1 : w.heap.size + 1 ≠ wb.heap.size:=by omega
  have hX2 : wb.heap.size ≠ w.heap.size:=by omega
  have hX3 : w.heap.size ≤ wb.heap.size:=by omega
  have gX : RowAt (((((((((w6.setCell ⟨wb.heap.size, 0, none⟩ (.i st')).setCell ⟨wb.heap.size, 1, none⟩ (.i ow')).setCell ⟨wb.heap.size, 2, none⟩ (.i sm')).setCell ⟨wb.heap.size, 3, none⟩ (.bool br')).setCell ⟨wb.heap.size, 4, none⟩ (.bool ma')).setCell ⟨wb.heap.size, 5, none⟩ (.i us')).setCell ⟨wb.heap.size, 6, none⟩ (.i ge')).setCell ⟨wb.heap.size, 7, none⟩ (.i ep')).setCell ⟨wb.heap.size, 8, none⟩ (.i ve')) wb.heap.size (Aa st' ow' sm' br' ma' us' ge' ep' ve') 41:=(((((((((hzB.setc 0 _).setc 1 _).setc 2 _).setc 3 _).setc 4 _).setc 5 _).setc 6 _).setc 7 _).setc 8 _)
  have g2 : RowAt (((((((((w6.setCell ⟨wb.heap.size, 0, none⟩ (.i st')).setCell ⟨wb.heap.size, 1, none⟩ (.i ow')).setCell ⟨wb.heap.size, 2, none⟩ (.i sm')).setCell ⟨wb.heap.size, 3, none⟩ (.bool br')).setCell ⟨wb.heap.size, 4, none⟩ (.bool ma')).setCell ⟨wb.heap.size, 5, none⟩ (.i us')).setCell ⟨wb.heap.size, 6, none⟩ (.i ge')).setCell ⟨wb.heap.size, 7, none⟩ (.i ep')).setCell ⟨wb.heap.size, 8, none⟩ (.i ve')) (w.heap.size + 1) Zs 41:=(setOther (setOther (setOther (setOther (setOther (setOther (setOther (setOther (setOther (R2.out.below hS6) _ (by simp; omega)) _ (by simp; omega)) _ (by simp; omega)) _ (by simp; omega)) _ (by simp; omega)) _ (by simp; omega)) _ (by simp; omega)) _ (by simp; omega)) _ (by simp; omega))
  have g1 : (((((((((w6.setCell ⟨wb.heap.size, 0, none⟩ (.i st')).setCell ⟨wb.heap.size, 1, none⟩ (.i ow')).setCell ⟨wb.heap.size, 2, none⟩ (.i sm')).setCell ⟨wb.heap.size, 3, none⟩ (.bool br')).setCell ⟨wb.heap.size, 4, none⟩ (.bool ma')).setCell ⟨wb.heap.size, 5, none⟩ (.i us')).setCell ⟨wb.heap.size, 6, none⟩ (.i ge')).setCell ⟨wb.heap.size, 7, none⟩ (.i ep')).setCell ⟨wb.heap.size, 8, none⟩ (.i ve')).cell? ⟨w.heap.size, 8, none⟩ = some (.i ve):=(setOther (setOther (setOther (setOther (setOther (setOther (setOther (setOther (setOther (r1.below hS6) _ (by simp; omega)) _ (by simp; omega)) _ (by simp; omega)) _ (by simp; omega)) _ (by simp; omega)) _ (by simp; omega)) _ (by simp; omega)) _ (by simp; omega)) _ (by simp; omega)).cell 8
  generalize (((((((((w6.setCell ⟨wb.heap.size, 0, none⟩ (.i st')).setCell ⟨wb.heap.size, 1, none⟩ (.i ow')).setCell ⟨wb.heap.size, 2, none⟩ (.i sm')).setCell ⟨wb.heap.size, 3, none⟩ (.bool br')).setCell ⟨wb.heap.size, 4, none⟩ (.bool ma')).setCell ⟨wb.heap.size, 5, none⟩ (.i us')).setCell ⟨wb.heap.size, 6, none⟩ (.i ge')).setCell ⟨wb.heap.size, 7, none⟩ (.i ep')).setCell ⟨wb.heap.size, 8, none⟩ (.i ve')) = W7 at *
  generalize wb.heap.size = X at *
  clear gl gs
  clear zq0 zf0 zq1 zf1 zq2 zf2 zq3 zf3 zq4 zf4 zq5 zf5 zq6 zf6 zq7 zf7 zq8 zf8 hzB l0 l1 l2 l3 l4 l5 l6 l7 l8 lf hac1 r1 r3 hS0 R2 hS6
  have q0 : W7.cell? ⟨w.heap.size + 1, 0, none⟩ = some (.i 0):=g2.cell 0
  have f0 : W7.frozen? ⟨w.heap.size + 1, 0, none⟩ = false:=g2.frozen 0
  have q1 : W7.cell? ⟨w.heap.size + 1, 1, none⟩ = some (.i 0):=g2.cell 1
  have f1 : W7.frozen? ⟨w.heap.size + 1, 1, none⟩ = false:=g2.frozen 1
  have q2 : W7.cell? ⟨w.heap.size + 1, 2, none⟩ = some (.i 0):=g2.cell 2
  have f2 : W7.frozen? ⟨w.heap.size + 1, 2, none⟩ = false:=g2.frozen 2
  have q3 : W7.cell? ⟨w.heap.size + 1, 3, none⟩ = some (.bool false):=g2.cell 3
  have f3 : W7.frozen? ⟨w.heap.size + 1, 3, none⟩ = false:=g2.frozen 3
  have q4 : W7.cell? ⟨w.heap.size + 1, 4, none⟩ = some (.bool false):=g2.cell 4
  have f4 : W7.frozen? ⟨w.heap.size + 1, 4, none⟩ = false:=g2.frozen 4
  have q5 : W7.cell? ⟨w.heap.size + 1, 5, none⟩ = some (.i 0):=g2.cell 5
  have f5 : W7.frozen? ⟨w.heap.size + 1, 5, none⟩ = false:=g2.frozen 5
  have q6 : W7.cell? ⟨w.heap.size + 1, 6, none⟩ = some (.i 0):=g2.cell 6
  have f6 : W7.frozen? ⟨w.heap.size + 1, 6, none⟩ = false:=g2.frozen 6
  have q7 : W7.cell? ⟨w.heap.size + 1, 7, none⟩ = some (.i 0):=g2.cell 7
  have f7 : W7.frozen? ⟨w.heap.size + 1, 7, none⟩ = false:=g2.frozen 7
  have q8 : W7.cell? ⟨w.heap.size + 1, 8, none⟩ = some (.i 0):=g2.cell 8
  have f8 : W7.frozen? ⟨w.heap.size + 1, 8, none⟩ = false:=g2.frozen 8
  have x0 : W7.cell? ⟨X, 0, none⟩ = some (.i st'):=gX.cell 0
  have x1 : W7.cell? ⟨X, 1, none⟩ = some (.i ow'):=gX.cell 1
  have x2 : W7.cell? ⟨X, 2, none⟩ = some (.i sm'):=gX.cell 2
  have x3 : W7.cell? ⟨X, 3, none⟩ = some (.bool br'):=gX.cell 3
  have x4 : W7.cell? ⟨X, 4, none⟩ = some (.bool ma'):=gX.cell 4
  have x5 : W7.cell? ⟨X, 5, none⟩ = some (.i us'):=gX.cell 5
  have x6 : W7.cell? ⟨X, 6, none⟩ = some (.i ge'):=gX.cell 6
  have x7 : W7.cell? ⟨X, 7, none⟩ = some (.i ep'):=gX.cell 7
  have x8 : W7.cell? ⟨X, 8, none⟩ = some (.i ve'):=gX.cell 8
  have xf : W7.frozen? ⟨X, 8, none⟩ = false:=gX.frozen 8
  have G2:=Lib.hid g2
  clear g2 gX
  cases b
  ·have hn : RowKit.Hid (r = none):=HF.out (by simp)
   clear x0 x1 x2 x3 x4 x5 x6 x7 x8 xf
   go_wp2_with fail
   refine bR2 (w.heap.size + 1) (((((((((G2.out.setc 0 _).setc 1 _).setc 2 _).setc 3 _).setc 4 _).setc 5 _).setc 6 _).setc 7 _).setc 8 _) Tryz.underlying41 ?_
   refine ⟨by rw [hn.out]; rfl, ?_⟩
   iterate 9 refine Below.setCell ?_ (by simp) _
   exact gB
  ·have hn:=Lib.hid (HN.out ⟨by simp, by omega, by omega, by simp⟩)
   obtain ⟨_, _, _, ⟨hv0, hv1⟩, _⟩:=hrb1
   have hm : IntKind.i64.wrap ((ve + 1).tmod 32768) = (ve + 1) % 32768:=by rw [Int.tmod_eq_emod_of_nonneg (by omega), IntKind.wrap_i64]; omega
   go_wp2_with fail
   refine bR2 (w.heap.size + 1) ((((((((((setOther G2.out _ (by simpa using hX1)).setc 0 _).setc 1 _).setc 2 _).setc 3 _).setc 4 _).setc 5 _).setc 6 _).setc 7 _).setc 8 _) Tryz.underlying41 ?_
   refine ⟨by rw [hn.out]; rfl, ?_⟩
   iterate 9 refine Below.setCell ?_ (by simp) _
   exact gB.setCell hX3 _
end Go.Proofs.YteadpgiffpfmnaaGreatDoor.Life
