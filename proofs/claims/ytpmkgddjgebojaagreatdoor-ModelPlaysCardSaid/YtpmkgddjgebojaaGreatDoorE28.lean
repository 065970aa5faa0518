/- Part 28 of the walks and plain laws that the last text joins. -/
import Derived.Test.YtpmkgddjgebojaaGreatDoorE22
import Derived.Test.YtpmkgddjgebojaaGreatDoorE23
import Derived.Test.YtpmkgddjgebojaaGreatDoorE26
import Derived.Test.YtpmkgddjgebojaaGreatDoorE27
set_option maxRecDepth 100000
set_option maxHeartbeats 16000000
set_option linter.unusedVariables false
set_option linter.unusedSimpArgs false
namespace Go.Proofs.YtpmkgddjgebojaaGreatDoor.Mod
open Go.RowKit Hp Slot RowL Life Find
theorem run_lookup_no {P : Program} (W : World) (r : Nat) (t kt et : TypeId) (es : Array MapEntry) (clock : Nat) (k : Int) (z : Value) (hu : P.underlying t = some (.map kt et)) (hk : P.underlying kt = some (.int .i64))
  (hb : W.heap[r]? = some (.map es clock)) (hf : Instr.findNow (.int .i64) (.i k) es.toList 0 = some none) (hz : ∀ W, (zeroValue et).run P W = .ok z W) :
  (Instr.lookup t (.map (some r)) (.i k) true).run P W = .ok (.tuple #[z, .bool false]) W:=by
 simp [Instr.lookup, run_underlying hu, MapKept.run_getObj_map hb, MapKept.run_checkKey (k:=.i k) hk rfl, MapKept.run_findKey hk hf, Result.andThen, hz]
def ansT (n : Nat) : Array MapEntry:=#[⟨.i 0, .func (.func 66) #[] #[.pointer (some ⟨n, 0, none⟩), .pointer (some ⟨n + 1, 0, none⟩), .pointer (some ⟨n + 2, 0, none⟩)], 0⟩, ⟨.i 1, .func (.func 68) #[] #[.pointer (some ⟨n, 0, none⟩), .pointer (some ⟨n + 1, 0, none⟩), .pointer (some ⟨n + 2, 0, none⟩)], 1⟩, ⟨.i 2, .func (.func 70) #[] #[.pointer (some ⟨n, 0, none⟩), .pointer (some ⟨n + 1, 0, none⟩), .pointer (some ⟨n + 2, 0, none⟩)], 2⟩, ⟨.i 3, .func (.func 71) #[] #[.pointer (some ⟨n, 0, none⟩), .pointer (some ⟨n + 1, 0, none⟩), .pointer (some ⟨n + 2, 0, none⟩)], 3⟩, ⟨.i 4, .func (.func 73) #[] #[.pointer (some ⟨n, 0, none⟩), .pointer (some ⟨n + 1, 0, none⟩), .pointer (some ⟨n + 2, 0, none⟩)], 4⟩, ⟨.i 5, .func (.func 75) #[] #[.pointer (some ⟨n, 0, none⟩), .pointer (some ⟨n + 1, 0, none⟩)], 5⟩, ⟨.i 6, .func (.func 77) #[] #[.pointer (some ⟨n, 0, none⟩), .pointer (some ⟨n + 2, 0, none⟩)], 6⟩, ⟨.i 7, .func (.func 79) #[] #[.pointer (some ⟨n, 0, none⟩)], 7⟩]
def ansW (w : World) (mb : Nat) (who : Int) (a : Ask) : World :=
 (((w.alloc (.cells #[.pointer (some ⟨mb, 0, none⟩)] 27)).alloc (.cells #[.i who] 3)).alloc (.cells a.cells 25)).alloc (.map (ansT w.heap.size) 8)
theorem answers_any (w : World) (mb : Nat) (who : Int) (a : Ask) : Calls Tryz.prog 38 #[.pointer (some ⟨mb, 0, none⟩), .i who, a.val] w fun e w' => e = .returned (.map (some (w.heap.size + 3))) ∧ w' = ansW w mb who a:=by
 have hmk:=fun W => run_makeMap (P:=Tryz.prog) 91 W
 have h1:=run_insert_new (P:=Tryz.prog) (((w.alloc (.cells #[.pointer (some ⟨mb, 0, none⟩)] 27)).alloc (.cells #[.i who] 3)).alloc (.cells a.cells 25)) (w.heap.size + 1 + 1 + 1) 91 3 89 #[] 0 0 (.func (.func 66) #[] #[.pointer (some ⟨w.heap.size, 0, none⟩), .pointer (some ⟨w.heap.size + 1, 0, none⟩), .pointer (some ⟨w.heap.size + 1 + 1, 0, none⟩)]) Tryz.underlying91 Tryz.underlying3 (by simp) rfl
 have h2:=run_insert_new (P:=Tryz.prog) (((w.alloc (.cells #[.pointer (some ⟨mb, 0, none⟩)] 27)).alloc (.cells #[.i who] 3)).alloc (.cells a.cells 25)) (w.heap.size + 1 + 1 + 1) 91 3 89 #[⟨.i 0, .func (.func 66) #[] #[.pointer (some ⟨w.heap.size, 0, none⟩), .pointer (some ⟨w.heap.size + 1, 0, none⟩), .pointer (some ⟨w.heap.size + 1 + 1, 0, none⟩)], 0⟩] 1 1 (.func (.func 68) #[] #[.pointer (some ⟨w.heap.size, 0, none⟩), .pointer (some ⟨w.heap.size + 1, 0, none⟩), .pointer (some ⟨w.heap.size + 1 + 1, 0, none⟩)]) Tryz.underlying91 Tryz.underlying3 (by simp) rfl
 have h3:=run_insert_new (P:=Tryz.prog) (((w.alloc (.cells #[.pointer (some ⟨mb, 0, none⟩)] 27)).alloc (.cells #[.i who] 3)).alloc (.cells a.cells 25)) (w.heap.size + 1 + 1 + 1) 91 3 89 #[⟨.i 0, .func (.func 66) #[] #[.pointer (some ⟨w.heap.size, 0, none⟩), .pointer (some ⟨w.heap.size + 1, 0, none⟩), .pointer (some ⟨w.heap.size + 1 + 1, 0, none⟩)], 0⟩, ⟨.i 1, .func (.func 68) #[] #[.pointer (some ⟨w.heap.size, 0, none⟩), .pointer (some ⟨w.heap.size + 1, 0, none⟩), .pointer (some ⟨w.heap.size + 1 + 1, 0, none⟩)], 1⟩] 2 2 (.func (.func 70) #[] #[.pointer (some ⟨w.heap.size, 0, none⟩), .pointer (some ⟨w.heap.size + 1, 0, none⟩), .pointer (some ⟨w.heap.size + 1 + 1, 0, none⟩)]) Tryz.underlying91 Tryz.underlying3 (by simp) rfl
 have h4:=run_insert_new (P:=Tryz.prog) (((w.alloc (.cells #[.pointer (some ⟨mb, 0, none⟩)] 27)).alloc (.cells #[.i who] 3)).alloc (.cells a.cells 25)) (w.heap.size + 1 + 1 + 1) 91 3 89 #[⟨.i 0, .func (.func 66) #[] #[.pointer (some ⟨w.heap.size, 0, none⟩), .pointer (some ⟨w.heap.size + 1, 0, none⟩), .pointer (some ⟨w.heap.size + 1 + 1, 0, none⟩)], 0⟩, ⟨.i 1, .func (.func 68) #[] #[.pointer (some ⟨w.heap.size, 0, none⟩), .pointer (some ⟨w.heap.size + 1, 0, none⟩), .pointer (some ⟨w.heap.size + 1 + 1, 0, none⟩)], 1⟩, ⟨.i 2, .func (.func 70) #[] #[.pointer (some ⟨w.heap.size, 0, none⟩), .pointer (some ⟨w.heap.size + 1, 0, none⟩), .pointer (some ⟨w.heap.size + 1 + 1, 0, none⟩)], 2⟩] 3 3 (.func (.func 71) #[] #[.pointer (some ⟨w.heap.size, 0, none⟩), .pointer (some ⟨w.heap.size + 1, 0, none⟩), .pointer (some ⟨w.heap.size + 1 + 1, 0, none⟩)]) Tryz.underlying91 Tryz.underlying3 (by simp) rfl
 have h5:=run_insert_new (P:=Tryz.prog) (((w.alloc (.cells #[.pointer (some ⟨mb, 0, none⟩)] 27)).alloc (.cells #[.i who] 3)).alloc (.cells a.cells 25)) (w.heap.size + 1 + 1 + 1) 91 3 89 #[⟨.i 0, .func (.func 66) #[] #[.pointer (some ⟨w.heap.size, 0, none⟩), .pointer (some ⟨w.heap.size + 1, 0, none⟩), .pointer (some ⟨w.heap.size + 1 + 1, 0, none⟩)], 0⟩, ⟨.i 1, .func (.func 68) #[] #[.pointer (some ⟨w.heap.size, 0, none⟩), .pointer (some ⟨w.heap.size + 1, 0, none⟩), .pointer (some ⟨w.heap.size + 1 + 1, 0, none⟩)], 1⟩, ⟨.i 2, .func (.func 70) #[] #[.pointer (some ⟨w.heap.size, 0, none⟩), .pointer (some ⟨w.heap.size + 1, 0, none⟩), .pointer (some ⟨w.heap.size + 1 + 1, 0, none⟩)], 2⟩, ⟨.i 3, .func (.func 71) #[] #[.pointer (some ⟨w.heap.size, 0, none⟩), .pointer (some ⟨w.heap.size + 1, 0, none⟩), .pointer (some ⟨w.heap.size + 1 + 1, 0, none⟩)], 3⟩] 4 4 (.func (.func 73) #[] #[.pointer (some ⟨w.heap.size, 0, none⟩), .pointer (some ⟨w.heap.size + 1, 0, none⟩), .pointer (some ⟨w.heap.size + 1 + 1, 0, none⟩)]) Tryz.underlying91 Tryz.underlying3 (by simp) rfl
 have h6:=run_insert_new (P:=Tryz.prog) (((w.alloc (.cells #[.pointer (some ⟨mb, 0, none⟩)] 27)).alloc (.cells #[.i who] 3)).alloc (.cells a.cells 25)) (w.heap.size + 1 + 1 + 1) 91 3 89 #[⟨.i 0, .func (.func 66) #[] #[.pointer (some ⟨w.heap.size, 0, none⟩), .pointer (some ⟨w.heap.size + 1, 0, none⟩), .pointer (some ⟨w.heap.size + 1 + 1, 0, none⟩)], 0⟩, ⟨.i 1, .func (.func 68) #[] #[.pointer (some ⟨w.heap.size, 0, none⟩), .pointer (some ⟨w.heap.size + 1, 0, none⟩), .pointer (some ⟨w.heap.size + 1 + 1, 0, none⟩)], 1⟩, ⟨.i 2, .func (.func 70) #[] #[.pointer (some ⟨w.heap.size, 0, none⟩), .pointer (some ⟨w.heap.size + 1, 0, none⟩), .pointer (some ⟨w.heap.size + 1 + 1, 0, none⟩)], 2⟩, ⟨.i 3, .func (.func 71) #[] #[.pointer (some ⟨w.heap.size, 0, none⟩), .pointer (some ⟨w.heap.size + 1, 0, none⟩), .pointer (some ⟨w.heap.size + 1 + 1, 0, none⟩)], 3⟩, ⟨.i 4, .func (.func 73) #[] #[.pointer (some ⟨w.heap.size, 0, none⟩), .pointer (some ⟨w.heap.size + 1, 0, none⟩), .pointer (some ⟨w.heap.size + 1 + 1, 0, none⟩)], 4⟩] 5 5 (.func (.func 75) #[] #[.pointer (some ⟨w.heap.size, 0, none⟩), .pointer (some ⟨w.heap.size + 1, 0, none⟩)]) Tryz.underlying91 Tryz.underlying3 (by simp) rfl
 have h7:=run_insert_new (P:=Tryz.prog) (((w.alloc (.cells #[.pointer (some ⟨mb, 0, none⟩)] 27)).alloc (.cells #[.i who] 3)).alloc (.cells a.cells 25)) (w.heap.size + 1 + 1 + 1) 91 3 89 #[⟨.i 0, .func (.func 66) #[] #[.pointer (some ⟨w.heap.size, 0, none⟩), .pointer (some ⟨w.heap.size + 1, 0, none⟩), .pointer (some ⟨w.heap.size + 1 + 1, 0, none⟩)], 0⟩, ⟨.i 1, .func (.func 68) #[] #[.pointer (some ⟨w.heap.size, 0, none⟩), .pointer (some ⟨w.heap.size + 1, 0, none⟩), .pointer (some ⟨w.heap.size + 1 + 1, 0, none⟩)], 1⟩, ⟨.i 2, .func (.func 70) #[] #[.pointer (some ⟨w.heap.size, 0, none⟩), .pointer (some ⟨w.heap.size + 1, 0, none⟩), .pointer (some ⟨w.heap.size + 1 + 1, 0, none⟩)], 2⟩, ⟨.i 3, .func (.func 71) #[] #[.pointer (some ⟨w.heap.size, 0, none⟩), .pointer (some ⟨w.heap.size + 1, 0, none⟩), .pointer (some ⟨w.heap.size + 1 + 1, 0, none⟩)], 3⟩, ⟨.i 4, .func (.func 73) #[] #[.pointer (some ⟨w.heap.size, 0, none⟩), .pointer (some ⟨w.heap.size + 1, 0, none⟩), .pointer (some ⟨w.heap.size + 1 + 1, 0, none⟩)], 4⟩, ⟨.i 5, .func (.func 75) #[] #[.pointer (some ⟨w.heap.size, 0, none⟩), .pointer (some ⟨w.heap.size + 1, 0, none⟩)], 5⟩] 6 6 (.func (.func 77) #[] #[.pointer (some ⟨w.heap.size, 0, none⟩), .pointer (some ⟨w.heap.size + 1 + 1, 0, none⟩)]) Tryz.underlying91 Tryz.underlying3 (by simp) rfl
 have h8:=run_insert_new (P:=Tryz.prog) (((w.alloc (.cells #[.pointer (some ⟨mb, 0, none⟩)] 27)).alloc (.cells #[.i who] 3)).alloc (.cells a.cells 25)) (w.heap.size + 1 + 1 + 1) 91 3 89 #[⟨.i 0, .func (.func 66) #[] #[.pointer (some ⟨w.heap.size, 0, none⟩), .pointer (some ⟨w.heap.size + 1, 0, none⟩), .pointer (some ⟨w.heap.size + 1 + 1, 0, none⟩)], 0⟩, ⟨.i 1, .func (.func 68) #[] #[.pointer (some ⟨w.heap.size, 0, none⟩), .pointer (some ⟨w.heap.size + 1, 0, none⟩), .pointer (some ⟨w.heap.size + 1 + 1, 0, none⟩)], 1⟩, ⟨.i 2, .func (.func 70) #[] #[.pointer (some ⟨w.heap.size, 0, none⟩), .pointer (some ⟨w.heap.size + 1, 0, none⟩), .pointer (some ⟨w.heap.size + 1 + 1, 0, none⟩)], 2⟩, ⟨.i 3, .func (.func 71) #[] #[.pointer (some ⟨w.heap.size, 0, none⟩), .pointer (some ⟨w.heap.size + 1, 0, none⟩), .pointer (some ⟨w.heap.size + 1 + 1, 0, none⟩)], 3⟩, ⟨.i 4, .func (.func 73) #[] #[.pointer (some ⟨w.heap.size, 0, none⟩), .pointer (some ⟨w.heap.size + 1, 0, none⟩), .pointer (some ⟨w.heap.size + 1 + 1, 0, none⟩)], 4⟩, ⟨.i 5, .func (.func 75) #[] #[.pointer (some ⟨w.heap.size, 0, none⟩), .pointer (some ⟨w.heap.size + 1, 0, none⟩)], 5⟩, ⟨.i 6, .func (.func 77) #[] #[.pointer (some ⟨w.heap.size, 0, none⟩), .pointer (some ⟨w.heap.size + 1 + 1, 0, none⟩)], 6⟩] 7 7 (.func (.func 79) #[] #[.pointer (some ⟨w.heap.size, 0, none⟩)]) Tryz.underlying91 Tryz.underlying3 (by simp) rfl
 simp only [List.push_toArray, List.nil_append, List.cons_append, Nat.zero_add, Nat.reduceAdd, Ask.cells] at hmk h1 h2 h3 h4 h5 h6 h7 h8
 obtain ⟨op, dl, wt, fo, sl, ge, st⟩:=a
 simp only [Ask.val, Ask.cells] at *
 go_enter Tryz.func38, Tryz.ntmps38
 go_wp2
 go_ret
 exact ⟨rfl, rfl⟩
structure Capt (W : World) (n mb : Nat) (who : Int) (a : Ask) : Prop where
 c0 : W.cell? ⟨n, 0, none⟩ = some (.pointer (some ⟨mb, 0, none⟩))
 c1 : W.cell? ⟨n + 1, 0, none⟩ = some (.i who)
 c2 : RowAt W (n + 2) a.cells 25
theorem capt (w : World) (mb : Nat) (who : Int) (a : Ask) : Capt (ansW w mb who a) w.heap.size mb who a ∧ (ansW w mb who a).heap[w.heap.size + 3]? = some (.map (ansT w.heap.size) 8) ∧ Below w.heap.size w (ansW w mb who a):=by
 unfold ansW
 refine ⟨⟨by go_simp, by go_simp, ?_⟩, ?_, ((((Below.refl _ _).alloc (Nat.le_refl _) _).alloc (by simp) _).alloc (by simp; omega) _).alloc (by simp; omega) _⟩
 ·rw [RowAt, Below.heap_alloc _ _ _ (by simp)]
  have h:=World.alloc_heap_new ((w.alloc (.cells #[.pointer (some ⟨mb, 0, none⟩)] 27)).alloc (.cells #[.i who] 3)) (.cells a.cells 25)
  simpa using h
 ·have h:=World.alloc_heap_new (((w.alloc (.cells #[.pointer (some ⟨mb, 0, none⟩)] 27)).alloc (.cells #[.i who] 3)).alloc (.cells a.cells 25)) (.map (ansT w.heap.size) 8)
  simpa using h
theorem Capt.below {W W' : World} {n mb : Nat} {who : Int} {a : Ask} (h : Capt W n mb who a) (hb : Below W.heap.size W W') : Capt W' n mb who a:=⟨Field.bkeep hb h.c0, Field.bkeep hb h.c1, h.c2.below hb⟩
theorem ans1 {W : World} {p : Pl} {m : M} (h : MAt W p m) {n : Nat} {who : Int} {a : Ask} (hc : Capt W n p.mb who a) (hw : m.has who = true) :
  Calls Tryz.prog 66 #[.pointer (some ⟨n, 0, none⟩), .pointer (some ⟨n + 1, 0, none⟩), .pointer (some ⟨n + 2, 0, none⟩)] W (MPost W p (.tuple #[(m.get who a).1.1.val, .bool (m.get who a).1.2]) (m.get who a).2):=by
 have hB : Below W.heap.size W (W.alloc (.cells ev0 36)):=(Below.refl _ _).alloc (Nat.le_refl _) _
 have r0 : Re W.heap.size (W.alloc (.cells ev0 36)) p (W.alloc (.cells ev0 36)) p m:=Re.begin h hB
 have e0 : ERow (W.alloc (.cells ev0 36)) W.heap.size:=⟨ev0, rfl, RowAt.new _ _ _⟩
 have hg1 : W.heap.size < (W.alloc (.cells ev0 36)).heap.size:=by simp
 have c0:=hc.c0
 have c1:=hc.c1
 have r2:=hc.c2
 have n0 : n < W.heap.size:=World.block_lt_of_cell? _ _ c0
 have n1 : n + 1 < W.heap.size:=World.block_lt_of_cell? _ _ c1
 have n2 : n + 2 < W.heap.size:=(Array.getElem?_eq_some_iff.1 r2).1
 have hx:=m_get r0.at' who a hw
 rw [r0.mb] at hx
 obtain ⟨op, dl, wt, fo, sl, ge, st⟩:=a
 simp only [Ask.val, Ask.cells] at *
 have a0 : W.cell? ⟨n + 2, 0, none⟩ = some (.i op):=r2.cell 0
 have a1 : W.cell? ⟨n + 2, 1, none⟩ = some (.i dl):=r2.cell 1
 have a2 : W.cell? ⟨n + 2, 2, none⟩ = some (.bool wt):=r2.cell 2
 have a3 : W.cell? ⟨n + 2, 3, none⟩ = some (.bool fo):=r2.cell 3
 have a4 : W.cell? ⟨n + 2, 4, none⟩ = some (.i sl):=r2.cell 4
 have a5 : W.cell? ⟨n + 2, 5, none⟩ = some (.i ge):=r2.cell 5
 have a6 : W.cell? ⟨n + 2, 6, none⟩ = some (.i st):=r2.cell 6
 generalize m.get who ⟨op, dl, wt, fo, sl, ge, st⟩ = R at *
 obtain ⟨⟨x, b⟩, m2⟩:=R
 simp only at *
 clear hc r2 h
 go_enter Tryz.func66, Tryz.ntmps66
 go_wp2_with fail
 refine hx.mono ?_
 rintro e w1 hp
 obtain ⟨rfl, p1, r1, hc1⟩:=r0.post hp
 have e1:=e0.chg hc1 (r0.not (Nat.le_refl _) hg1)
 have hst:=e1.store x
 have hsz:=ev_size x
 clear hx c0 c1 r0 e0 hp hc1 a0 a1 a2 a3 a4 a5 a6
 go_wp2_with fail
 refine bR2 W.heap.size (e1.set x) Tryz.underlying36 ?_
 exact (r1.row (Nat.le_refl _) hg1 x.cells).fin hB _
theorem ans2 {W : World} {p : Pl} {m : M} (h : MAt W p m) {n : Nat} {who : Int} {a : Ask} (hc : Capt W n p.mb who a) :
  Calls Tryz.prog 68 #[.pointer (some ⟨n, 0, none⟩), .pointer (some ⟨n + 1, 0, none⟩), .pointer (some ⟨n + 2, 0, none⟩)] W (MPost W p (.tuple #[(m.give who a false).1.val, .bool true]) (m.give who a false).2):=by
 have hB : Below W.heap.size W (W.alloc (.cells ev0 36)):=(Below.refl _ _).alloc (Nat.le_refl _) _
 have r0 : Re W.heap.size (W.alloc (.cells ev0 36)) p (W.alloc (.cells ev0 36)) p m:=Re.begin h hB
 have e0 : ERow (W.alloc (.cells ev0 36)) W.heap.size:=⟨ev0, rfl, RowAt.new _ _ _⟩
 have hg1 : W.heap.size < (W.alloc (.cells ev0 36)).heap.size:=by simp
 have c0:=hc.c0
 have c1:=hc.c1
 have r2:=hc.c2
 have n0 : n < W.heap.size:=World.block_lt_of_cell? _ _ c0
 have n1 : n + 1 < W.heap.size:=World.block_lt_of_cell? _ _ c1
 have n2 : n + 2 < W.heap.size:=(Array.getElem?_eq_some_iff.1 r2).1
 have hx:=m_give r0.at' who a false
 rw [r0.mb] at hx
 obtain ⟨op, dl, wt, fo, sl, ge, st⟩:=a
 simp only [Ask.val, Ask.cells] at *
 have a0 : W.cell? ⟨n + 2, 0, none⟩ = some (.i op):=r2.cell 0
 have a1 : W.cell? ⟨n + 2, 1, none⟩ = some (.i dl):=r2.cell 1
 have a2 : W.cell? ⟨n + 2, 2, none⟩ = some (.bool wt):=r2.cell 2
 have a3 : W.cell? ⟨n + 2, 3, none⟩ = some (.bool fo):=r2.cell 3
 have a4 : W.cell? ⟨n + 2, 4, none⟩ = some (.i sl):=r2.cell 4
 have a5 : W.cell? ⟨n + 2, 5, none⟩ = some (.i ge):=r2.cell 5
 have a6 : W.cell? ⟨n + 2, 6, none⟩ = some (.i st):=r2.cell 6
 generalize m.give who ⟨op, dl, wt, fo, sl, ge, st⟩ false = R at *
 obtain ⟨x, m2⟩:=R
 simp only at *
 clear hc r2 h
 go_enter Tryz.func68, Tryz.ntmps68
 go_wp2_with fail
 refine hx.mono ?_
 rintro e w1 hp
 obtain ⟨rfl, p1, r1, hc1⟩:=r0.post hp
 have e1:=e0.chg hc1 (r0.not (Nat.le_refl _) hg1)
 have hst:=e1.store x
 have hsz:=ev_size x
 clear hx c0 c1 r0 e0 hp hc1 a0 a1 a2 a3 a4 a5 a6
 go_wp2_with fail
 refine bR2 W.heap.size (e1.set x) Tryz.underlying36 ?_
 exact (r1.row (Nat.le_refl _) hg1 x.cells).fin hB _
theorem ans3 {W : World} {p : Pl} {m : M} (h : MAt W p m) {n : Nat} {who : Int} {a : Ask} (hc : Capt W n p.mb who a) :
  Calls Tryz.prog 70 #[.pointer (some ⟨n, 0, none⟩), .pointer (some ⟨n + 1, 0, none⟩), .pointer (some ⟨n + 2, 0, none⟩)] W (MPost W p (.tuple #[(m.give who a true).1.val, .bool true]) (m.give who a true).2):=by
 have hB : Below W.heap.size W (W.alloc (.cells ev0 36)):=(Below.refl _ _).alloc (Nat.le_refl _) _
 have r0 : Re W.heap.size (W.alloc (.cells ev0 36)) p (W.alloc (.cells ev0 36)) p m:=Re.begin h hB
 have e0 : ERow (W.alloc (.cells ev0 36)) W.heap.size:=⟨ev0, rfl, RowAt.new _ _ _⟩
 have hg1 : W.heap.size < (W.alloc (.cells ev0 36)).heap.size:=by simp
 have c0:=hc.c0
 have c1:=hc.c1
 have r2:=hc.c2
 have n0 : n < W.heap.size:=World.block_lt_of_cell? _ _ c0
 have n1 : n + 1 < W.heap.size:=World.block_lt_of_cell? _ _ c1
 have n2 : n + 2 < W.heap.size:=(Array.getElem?_eq_some_iff.1 r2).1
 have hx:=m_give r0.at' who a true
 rw [r0.mb] at hx
 obtain ⟨op, dl, wt, fo, sl, ge, st⟩:=a
 simp only [Ask.val, Ask.cells] at *
 have a0 : W.cell? ⟨n + 2, 0, none⟩ = some (.i op):=r2.cell 0
 have a1 : W.cell? ⟨n + 2, 1, none⟩ = some (.i dl):=r2.cell 1
 have a2 : W.cell? ⟨n + 2, 2, none⟩ = some (.bool wt):=r2.cell 2
 have a3 : W.cell? ⟨n + 2, 3, none⟩ = some (.bool fo):=r2.cell 3
 have a4 : W.cell? ⟨n + 2, 4, none⟩ = some (.i sl):=r2.cell 4
 have a5 : W.cell? ⟨n + 2, 5, none⟩ = some (.i ge):=r2.cell 5
 have a6 : W.cell? ⟨n + 2, 6, none⟩ = some (.i st):=r2.cell 6
 generalize m.give who ⟨op, dl, wt, fo, sl, ge, st⟩ true = R at *
 obtain ⟨x, m2⟩:=R
 simp only at *
 clear hc r2 h
 go_enter Tryz.func70, Tryz.ntmps70
 go_wp2_with fail
 refine hx.mono ?_
 rintro e w1 hp
 obtain ⟨rfl, p1, r1, hc1⟩:=r0.post hp
 have e1:=e0.chg hc1 (r0.not (Nat.le_refl _) hg1)
 have hst:=e1.store x
 have hsz:=ev_size x
 clear hx c0 c1 r0 e0 hp hc1 a0 a1 a2 a3 a4 a5 a6
 go_wp2_with fail
 refine bR2 W.heap.size (e1.set x) Tryz.underlying36 ?_
 exact (r1.row (Nat.le_refl _) hg1 x.cells).fin hB _
theorem ans4 {W : World} {p : Pl} {m : M} (h : MAt W p m) {n : Nat} {who : Int} {a : Ask} (hc : Capt W n p.mb who a) :
  Calls Tryz.prog 71 #[.pointer (some ⟨n, 0, none⟩), .pointer (some ⟨n + 1, 0, none⟩), .pointer (some ⟨n + 2, 0, none⟩)] W (MPost W p (.tuple #[(m.openS who a).1.val, .bool true]) (m.openS who a).2):=by
 have hB : Below W.heap.size W (W.alloc (.cells ev0 36)):=(Below.refl _ _).alloc (Nat.le_refl _) _
 have r0 : Re W.heap.size (W.alloc (.cells ev0 36)) p (W.alloc (.cells ev0 36)) p m:=Re.begin h hB
 have e0 : ERow (W.alloc (.cells ev0 36)) W.heap.size:=⟨ev0, rfl, RowAt.new _ _ _⟩
 have hg1 : W.heap.size < (W.alloc (.cells ev0 36)).heap.size:=by simp
 have c0:=hc.c0
 have c1:=hc.c1
 have r2:=hc.c2
 have n0 : n < W.heap.size:=World.block_lt_of_cell? _ _ c0
 have n1 : n + 1 < W.heap.size:=World.block_lt_of_cell? _ _ c1
 have n2 : n + 2 < W.heap.size:=(Array.getElem?_eq_some_iff.1 r2).1
 have hx:=m_open r0.at' who a
 rw [r0.mb] at hx
 obtain ⟨op, dl, wt, fo, sl, ge, st⟩:=a
 simp only [Ask.val, Ask.cells] at *
 have a0 : W.cell? ⟨n + 2, 0, none⟩ = some (.i op):=r2.cell 0
 have a1 : W.cell? ⟨n + 2, 1, none⟩ = some (.i dl):=r2.cell 1
 have a2 : W.cell? ⟨n + 2, 2, none⟩ = some (.bool wt):=r2.cell 2
 have a3 : W.cell? ⟨n + 2, 3, none⟩ = some (.bool fo):=r2.cell 3
 have a4 : W.cell? ⟨n + 2, 4, none⟩ = some (.i sl):=r2.cell 4
 have a5 : W.cell? ⟨n + 2, 5, none⟩ = some (.i ge):=r2.cell 5
 have a6 : W.cell? ⟨n + 2, 6, none⟩ = some (.i st):=r2.cell 6
 generalize m.openS who ⟨op, dl, wt, fo, sl, ge, st⟩ = R at *
 obtain ⟨x, m2⟩:=R
 simp only at *
 clear hc r2 h
 go_enter Tryz.func71, Tryz.ntmps71
 go_wp2_with fail
 refine hx.mono ?_
 rintro e w1 hp
 obtain ⟨rfl, p1, r1, hc1⟩:=r0.post hp
 have e1:=e0.chg hc1 (r0.not (Nat.le_refl _) hg1)
 have hst:=e1.store x
 have hsz:=ev_size x
 clear hx c0 c1 r0 e0 hp hc1 a0 a1 a2 a3 a4 a5 a6
 go_wp2_with fail
 refine bR2 W.heap.size (e1.set x) Tryz.underlying36 ?_
 exact (r1.row (Nat.le_refl _) hg1 x.cells).fin hB _
theorem ans5 {W : World} {p : Pl} {m : M} (h : MAt W p m) {n : Nat} {who : Int} {a : Ask} (hc : Capt W n p.mb who a) :
  Calls Tryz.prog 73 #[.pointer (some ⟨n, 0, none⟩), .pointer (some ⟨n + 1, 0, none⟩), .pointer (some ⟨n + 2, 0, none⟩)] W (MPost W p (.tuple #[(m.shutS who a).1.val, .bool true]) (m.shutS who a).2):=by
 have hB : Below W.heap.size W (W.alloc (.cells ev0 36)):=(Below.refl _ _).alloc (Nat.le_refl _) _
 have r0 : Re W.heap.size (W.alloc (.cells ev0 36)) p (W.alloc (.cells ev0 36)) p m:=Re.begin h hB
 have e0 : ERow (W.alloc (.cells ev0 36)) W.heap.size:=⟨ev0, rfl, RowAt.new _ _ _⟩
 have hg1 : W.heap.size < (W.alloc (.cells ev0 36)).heap.size:=by simp
 have c0:=hc.c0
 have c1:=hc.c1
 have r2:=hc.c2
 have n0 : n < W.heap.size:=World.block_lt_of_cell? _ _ c0
 have n1 : n + 1 < W.heap.size:=World.block_lt_of_cell? _ _ c1
 have n2 : n + 2 < W.heap.size:=(Array.getElem?_eq_some_iff.1 r2).1
 have hx:=m_shut r0.at' who a
 rw [r0.mb] at hx
 obtain ⟨op, dl, wt, fo, sl, ge, st⟩:=a
 simp only [Ask.val, Ask.cells] at *
 have a0 : W.cell? ⟨n + 2, 0, none⟩ = some (.i op):=r2.cell 0
 have a1 : W.cell? ⟨n + 2, 1, none⟩ = some (.i dl):=r2.cell 1
 have a2 : W.cell? ⟨n + 2, 2, none⟩ = some (.bool wt):=r2.cell 2
 have a3 : W.cell? ⟨n + 2, 3, none⟩ = some (.bool fo):=r2.cell 3
 have a4 : W.cell? ⟨n + 2, 4, none⟩ = some (.i sl):=r2.cell 4
 have a5 : W.cell? ⟨n + 2, 5, none⟩ = some (.i ge):=r2.cell 5
 have a6 : W.cell? ⟨n + 2, 6, none⟩ = some (.i st):=r2.cell 6
 generalize m.shutS who ⟨op, dl, wt, fo, sl, ge, st⟩ = R at *
 obtain ⟨x, m2⟩:=R
 simp only at *
 clear hc r2 h
 go_enter Tryz.func73, Tryz.ntmps73
 go_wp2_with fail
 refine hx.mono ?_
 rintro e w1 hp
 obtain ⟨rfl, p1, r1, hc1⟩:=r0.post hp
 have e1:=e0.chg hc1 (r0.not (Nat.le_refl _) hg1)
 have hst:=e1.store x
 have hsz:=ev_size x
 clear hx c0 c1 r0 e0 hp hc1 a0 a1 a2 a3 a4 a5 a6
 go_wp2_with fail
 refine bR2 W.heap.size (e1.set x) Tryz.underlying36 ?_
 exact (r1.row (Nat.le_refl _) hg1 x.cells).fin hB _
theorem ans6 {W : World} {p : Pl} {m : M} (h : MAt W p m) {n : Nat} {who : Int} {a : Ask} (hc : Capt W n p.mb who a) :
  Calls Tryz.prog 75 #[.pointer (some ⟨n, 0, none⟩), .pointer (some ⟨n + 1, 0, none⟩)] W (MPost W p (.tuple #[(m.reap who).1.val, .bool true]) (m.reap who).2):=by
 have hB : Below W.heap.size W (W.alloc (.cells ev0 36)):=(Below.refl _ _).alloc (Nat.le_refl _) _
 have r0 : Re W.heap.size (W.alloc (.cells ev0 36)) p (W.alloc (.cells ev0 36)) p m:=Re.begin h hB
 have e0 : ERow (W.alloc (.cells ev0 36)) W.heap.size:=⟨ev0, rfl, RowAt.new _ _ _⟩
 have hg1 : W.heap.size < (W.alloc (.cells ev0 36)).heap.size:=by simp
 have c0:=hc.c0
 have c1:=hc.c1
 have r2:=hc.c2
 have n0 : n < W.heap.size:=World.block_lt_of_cell? _ _ c0
 have n1 : n + 1 < W.heap.size:=World.block_lt_of_cell? _ _ c1
 have n2 : n + 2 < W.heap.size:=(Array.getElem?_eq_some_iff.1 r2).1
 have hx:=m_reap r0.at' who
 rw [r0.mb] at hx
 generalize m.reap who = R at *
 obtain ⟨x, m2⟩:=R
 simp only at *
 clear hc r2 h
 go_enter Tryz.func75, Tryz.ntmps75
 go_wp2_with fail
 refine hx.mono ?_
 rintro e w1 hp
 obtain ⟨rfl, p1, r1, hc1⟩:=r0.post hp
 have e1:=e0.chg hc1 (r0.not (Nat.le_refl _) hg1)
 have hst:=e1.store x
 have hsz:=ev_size x
 clear hx c0 c1 r0 e0 hp hc1
 go_wp2_with fail
 refine bR2 W.heap.size (e1.set x) Tryz.underlying36 ?_
 exact (r1.row (Nat.le_refl _) hg1 x.cells).fin hB _
theorem ans7 {W : World} {p : Pl} {m : M} (h : MAt W p m) {n : Nat} {who : Int} {a : Ask} (hc : Capt W n p.mb who a) :
  Calls Tryz.prog 77 #[.pointer (some ⟨n, 0, none⟩), .pointer (some ⟨n + 2, 0, none⟩)] W (MPost W p (.tuple #[Ev.zero.val, .bool true]) (m.close a.force)):=by
 have hB : Below W.heap.size W (W.alloc (.cells ev0 36)):=(Below.refl _ _).alloc (Nat.le_refl _) _
 have r0 : Re W.heap.size (W.alloc (.cells ev0 36)) p (W.alloc (.cells ev0 36)) p m:=Re.begin h hB
 have e0 : ERow (W.alloc (.cells ev0 36)) W.heap.size:=⟨ev0, rfl, RowAt.new _ _ _⟩
 have hg1 : W.heap.size < (W.alloc (.cells ev0 36)).heap.size:=by simp
 have c0:=hc.c0
 have c1:=hc.c1
 have r2:=hc.c2
 have n0 : n < W.heap.size:=World.block_lt_of_cell? _ _ c0
 have n1 : n + 1 < W.heap.size:=World.block_lt_of_cell? _ _ c1
 have n2 : n + 2 < W.heap.size:=(Array.getElem?_eq_some_iff.1 r2).1
 have hx:=m_close r0.at' a.force
 rw [r0.mb] at hx
 obtain ⟨op, dl, wt, fo, sl, ge, st⟩:=a
 simp only [Ask.val, Ask.cells] at *
 have a0 : W.cell? ⟨n + 2, 0, none⟩ = some (.i op):=r2.cell 0
 have a1 : W.cell? ⟨n + 2, 1, none⟩ = some (.i dl):=r2.cell 1
 have a2 : W.cell? ⟨n + 2, 2, none⟩ = some (.bool wt):=r2.cell 2
 have a3 : W.cell? ⟨n + 2, 3, none⟩ = some (.bool fo):=r2.cell 3
 have a4 : W.cell? ⟨n + 2, 4, none⟩ = some (.i sl):=r2.cell 4
 have a5 : W.cell? ⟨n + 2, 5, none⟩ = some (.i ge):=r2.cell 5
 have a6 : W.cell? ⟨n + 2, 6, none⟩ = some (.i st):=r2.cell 6
 generalize Ev.zero = x at *
 generalize m.close fo = m2 at *
 clear hc r2 h
 go_enter Tryz.func77, Tryz.ntmps77
 go_wp2_with fail
 refine hx.mono ?_
 rintro e w1 hp
 obtain ⟨rfl, p1, r1, hc1⟩:=r0.post hp
 have e1:=e0.chg hc1 (r0.not (Nat.le_refl _) hg1)
 have hst:=e1.store x
 have hsz:=ev_size x
 clear hx c0 c1 r0 e0 hp hc1 a0 a1 a2 a3 a4 a5 a6
 go_wp2_with fail
 refine bR2 W.heap.size (e1.set x) Tryz.underlying36 ?_
 exact (r1.row (Nat.le_refl _) hg1 x.cells).fin hB _
theorem ans8 {W : World} {p : Pl} {m : M} (h : MAt W p m) {n : Nat} {who : Int} {a : Ask} (hc : Capt W n p.mb who a) :
  Calls Tryz.prog 79 #[.pointer (some ⟨n, 0, none⟩)] W (MPost W p (.tuple #[m.stats.val, .bool true]) m):=by
 have hB : Below W.heap.size W (W.alloc (.cells ev0 36)):=(Below.refl _ _).alloc (Nat.le_refl _) _
 have r0 : Re W.heap.size (W.alloc (.cells ev0 36)) p (W.alloc (.cells ev0 36)) p m:=Re.begin h hB
 have e0 : ERow (W.alloc (.cells ev0 36)) W.heap.size:=⟨ev0, rfl, RowAt.new _ _ _⟩
 have hg1 : W.heap.size < (W.alloc (.cells ev0 36)).heap.size:=by simp
 have c0:=hc.c0
 have c1:=hc.c1
 have r2:=hc.c2
 have n0 : n < W.heap.size:=World.block_lt_of_cell? _ _ c0
 have n1 : n + 1 < W.heap.size:=World.block_lt_of_cell? _ _ c1
 have n2 : n + 2 < W.heap.size:=(Array.getElem?_eq_some_iff.1 r2).1
 have hx:=m_stats r0.at'
 rw [r0.mb] at hx
 generalize m.stats = x at *
 clear hc r2 h
 go_enter Tryz.func79, Tryz.ntmps79
 go_wp2_with fail
 refine hx.mono ?_
 rintro e w1 ⟨rfl, hb1⟩
 have r1:=r0.below hb1
 have e1:=e0.below hb1
 have hst:=e1.store x
 have hsz:=ev_size x
 clear hx c0 c1 r0 e0 hb1
 go_wp2_with fail
 refine bR2 W.heap.size (e1.set x) Tryz.underlying36 ?_
 exact (r1.row (Nat.le_refl _) hg1 x.cells).fin hB _
end Go.Proofs.YtpmkgddjgebojaaGreatDoor.Mod
namespace Go.Proofs.YtpmkgddjgebojaaGreatDoor.Mod
open Go.RowKit Hp Slot RowL Life R8
theorem q_dialed {W : World} {p : Ql} {m : M} (h : QAt W p m) (i : Nat) (iz who : Int) (s : S) (hi : m.ss[i]? = some s) (hiz : iz = i) :
  Calls Tryz.prog 55 #[.pointer (some ⟨p.mb, 0, none⟩), .i who, .i iz] W (QPost W p (m.dial i who).1.val (m.dial i who).2):=by
 have hlt : p.mb < W.heap.size:=h.lt (.inl rfl)
 have c10:=h.hd.c10
 have hB : Below W.heap.size W (W.alloc (.cells ev0 36)):=(Below.refl _ _).alloc (Nat.le_refl _) _
 have r0 : Rq W.heap.size (W.alloc (.cells ev0 36)) p (W.alloc (.cells ev0 36)) p m:=Rq.begin h hB
 have e0 : ERow (W.alloc (.cells ev0 36)) W.heap.size:=⟨ev0, rfl, RowAt.new _ _ _⟩
 have hg1 : W.heap.size < (W.alloc (.cells ev0 36)).heap.size:=by simp
 have HS : RowKit.Hid (m.next.ss[i]? = some s):=Lib.hid hi
 have HIZ:=Lib.hid hiz
 have hn:=q_wnext (h.alloc (.cells ev0 36))
 unfold M.dial
 cases hg : m.good
 ·rw [hg] at hn
  simp only [Bool.false_eq_true, if_false]
  clear hg hi hiz
  go_enter Tryz.func55, Tryz.ntmps55
  go_wp2_with fail
  refine hn.mono ?_
  rintro e w1 hp
  obtain ⟨rfl, p1, r1, hc1⟩:=r0.post hp
  have e1:=e0.chg hc1 (r0.not (Nat.le_refl _) hg1)
  clear hp hn hc1 c10
  have ht:=q_do r1.at' i 2 iz 2 who 0 s HS.out HIZ.out rfl (by simp [Done])
  rw [r1.mb] at ht
  go_wp2_with fail
  refine ht.mono ?_
  rintro e w2 ⟨rfl, h2, hc2⟩
  have r2:=r1.slots h2 hc2
  have e2:=e1.chg hc2 (fun e => r1.not (Nat.le_refl _) hg1 (.inr (.inl e)))
  clear ht h2 hc2 r1 e1
  go_upto_region 6 with (fail)
  obtain ⟨Z, z1, z2⟩:=e2
  refine wp_region_lit ?_
  refine RowL.gl ((M.failed 6)).val ?_ (by go_simp; try rfl)
  refine RowL.gSt z2 ((M.failed 6)).cells 36 (.tmp 6) (.tmp 25) ?_ (hsz:=z1) (h1:=ev_one _)
  go_wp2_with fail
  refine bR1 W.heap.size (z2.set _) Tryz.underlying36 ?_
  exact (r2.row (Nat.le_refl _) hg1 _).fin hB _
 ·rw [hg] at hn
  simp only [if_true]
  clear hg hi hiz
  go_enter Tryz.func55, Tryz.ntmps55
  go_wp2_with fail
  refine hn.mono ?_
  rintro e w1 hp
  obtain ⟨rfl, p1, r1, hc1⟩:=r0.post hp
  have e1:=e0.chg hc1 (r0.not (Nat.le_refl _) hg1)
  clear hp hn hc1 c10
  have ht:=q_do r1.at' i 1 iz 1 who 0 s HS.out HIZ.out rfl (by simp [Done])
  rw [r1.mb] at ht
  go_wp2_with fail
  refine ht.mono ?_
  rintro e w2 ⟨rfl, h2, hc2⟩
  have r2:=r1.slots h2 hc2
  have e2:=e1.chg hc2 (fun e => r1.not (Nat.le_refl _) hg1 (.inr (.inl e)))
  have hle:=q_leased h2 i iz (step s 1 who 0) (turnL_get HS.out) HIZ.out
  rw [r1.mb] at hle
  clear ht h2 hc2 r1 e1
  generalize (m.next.turn i 1 who 0).leased i = x6 at *
  go_wp2_with fail
  refine hle.mono ?_
  rintro e w3 ⟨rfl, hb3⟩
  have r3:=r2.below hb3
  have e3:=e2.below hb3
  have hst:=e3.store x6
  have hsz:=ev_size x6
  clear hle hb3 r2 e2
  go_wp2_with fail
  refine bR1 W.heap.size (e3.set x6) Tryz.underlying36 ?_
  exact (r3.row (Nat.le_refl _) hg1 x6.cells).fin hB _
end Go.Proofs.YtpmkgddjgebojaaGreatDoor.Mod
