/- Part 5 of the walks over the program's functions, and of the plain laws, that the claim's last text joins: ModAnswers ModAns ModAsk ModDel ModTake ModWake LawPlayed LawAwake LawState LawDrop Pool3. -/
import Derived.Test.YtpmkgddjgebojaaGreatDoorA1
import Derived.Test.YtpmkgddjgebojaaGreatDoorA3
import Derived.Test.YtpmkgddjgebojaaGreatDoorA4
import Derived.Deep.DeepCutAuto
import Derived.Lib.SliceRun
import Derived.LoopTactic
import Derived.Deep.RegionHeld3
import Derived.IntWalk

namespace Go.Proofs.YtpmkgddjgebojaaGreatDoor.Mod
set_option linter.unusedVariables false
set_option linter.unusedSimpArgs false
open Go.RowKit Hp Slot RowL Life Find

/-- A key that is not there. -/
theorem run_lookup_no {P : Program} (W : World) (r : Nat) (t kt et : TypeId) (es : Array MapEntry) (clock : Nat) (k : Int) (z : Value) (hu : P.underlying t = some (.map kt et)) (hk : P.underlying kt = some (.int .i64))
    (hb : W.heap[r]? = some (.map es clock)) (hf : Instr.findNow (.int .i64) (.int .i64 k) es.toList 0 = some none) (hz : ∀ W, (zeroValue et).run P W = .ok z W) :
    (Instr.lookup t (.map (some r)) (.int .i64 k) true).run P W = .ok (.tuple #[z, .bool false]) W := by
  simp [Instr.lookup, run_underlying hu, MapKept.run_getObj_map hb, MapKept.run_checkKey (k := .int .i64 k) hk rfl, MapKept.run_findKey hk hf, Result.andThen, hz]

/-- The table, its closures' variables laid from n on. -/
def ansT (n : Nat) : Array MapEntry := #[⟨.int .i64 0, .func (.func 66) #[] #[.pointer (some ⟨n, 0, none⟩), .pointer (some ⟨n + 1, 0, none⟩), .pointer (some ⟨n + 2, 0, none⟩)], 0⟩, ⟨.int .i64 1, .func (.func 68) #[] #[.pointer (some ⟨n, 0, none⟩), .pointer (some ⟨n + 1, 0, none⟩), .pointer (some ⟨n + 2, 0, none⟩)], 1⟩, ⟨.int .i64 2, .func (.func 70) #[] #[.pointer (some ⟨n, 0, none⟩), .pointer (some ⟨n + 1, 0, none⟩), .pointer (some ⟨n + 2, 0, none⟩)], 2⟩, ⟨.int .i64 3, .func (.func 71) #[] #[.pointer (some ⟨n, 0, none⟩), .pointer (some ⟨n + 1, 0, none⟩), .pointer (some ⟨n + 2, 0, none⟩)], 3⟩, ⟨.int .i64 4, .func (.func 73) #[] #[.pointer (some ⟨n, 0, none⟩), .pointer (some ⟨n + 1, 0, none⟩), .pointer (some ⟨n + 2, 0, none⟩)], 4⟩, ⟨.int .i64 5, .func (.func 75) #[] #[.pointer (some ⟨n, 0, none⟩), .pointer (some ⟨n + 1, 0, none⟩)], 5⟩, ⟨.int .i64 6, .func (.func 77) #[] #[.pointer (some ⟨n, 0, none⟩), .pointer (some ⟨n + 2, 0, none⟩)], 6⟩, ⟨.int .i64 7, .func (.func 79) #[] #[.pointer (some ⟨n, 0, none⟩)], 7⟩]
def ansW (w : World) (mb : Nat) (who : Int) (a : Ask) : World :=
  (((w.alloc (.cells #[.pointer (some ⟨mb, 0, none⟩)] 27)).alloc (.cells #[.int .i64 who] 3)).alloc (.cells a.cells 25)).alloc (.map (ansT w.heap.size) 8)

set_option maxRecDepth 100000 in
set_option maxHeartbeats 4000000 in
theorem answers_any (w : World) (mb : Nat) (who : Int) (a : Ask) : Calls Tryz.prog 38 #[.pointer (some ⟨mb, 0, none⟩), .int .i64 who, a.val] w fun e w' => e = .returned (.map (some (w.heap.size + 3))) ∧ w' = ansW w mb who a := by
  have hmk := fun W => run_makeMap (P := Tryz.prog) 91 W
  have h1 := run_insert_new (P := Tryz.prog) (((w.alloc (.cells #[.pointer (some ⟨mb, 0, none⟩)] 27)).alloc (.cells #[.int .i64 who] 3)).alloc (.cells a.cells 25)) (w.heap.size + 1 + 1 + 1) 91 3 89 #[] 0 0 (.func (.func 66) #[] #[.pointer (some ⟨w.heap.size, 0, none⟩), .pointer (some ⟨w.heap.size + 1, 0, none⟩), .pointer (some ⟨w.heap.size + 1 + 1, 0, none⟩)]) Tryz.underlying91 Tryz.underlying3 (by simp) rfl
  have h2 := run_insert_new (P := Tryz.prog) (((w.alloc (.cells #[.pointer (some ⟨mb, 0, none⟩)] 27)).alloc (.cells #[.int .i64 who] 3)).alloc (.cells a.cells 25)) (w.heap.size + 1 + 1 + 1) 91 3 89 #[⟨.int .i64 0, .func (.func 66) #[] #[.pointer (some ⟨w.heap.size, 0, none⟩), .pointer (some ⟨w.heap.size + 1, 0, none⟩), .pointer (some ⟨w.heap.size + 1 + 1, 0, none⟩)], 0⟩] 1 1 (.func (.func 68) #[] #[.pointer (some ⟨w.heap.size, 0, none⟩), .pointer (some ⟨w.heap.size + 1, 0, none⟩), .pointer (some ⟨w.heap.size + 1 + 1, 0, none⟩)]) Tryz.underlying91 Tryz.underlying3 (by simp) rfl
  have h3 := run_insert_new (P := Tryz.prog) (((w.alloc (.cells #[.pointer (some ⟨mb, 0, none⟩)] 27)).alloc (.cells #[.int .i64 who] 3)).alloc (.cells a.cells 25)) (w.heap.size + 1 + 1 + 1) 91 3 89 #[⟨.int .i64 0, .func (.func 66) #[] #[.pointer (some ⟨w.heap.size, 0, none⟩), .pointer (some ⟨w.heap.size + 1, 0, none⟩), .pointer (some ⟨w.heap.size + 1 + 1, 0, none⟩)], 0⟩, ⟨.int .i64 1, .func (.func 68) #[] #[.pointer (some ⟨w.heap.size, 0, none⟩), .pointer (some ⟨w.heap.size + 1, 0, none⟩), .pointer (some ⟨w.heap.size + 1 + 1, 0, none⟩)], 1⟩] 2 2 (.func (.func 70) #[] #[.pointer (some ⟨w.heap.size, 0, none⟩), .pointer (some ⟨w.heap.size + 1, 0, none⟩), .pointer (some ⟨w.heap.size + 1 + 1, 0, none⟩)]) Tryz.underlying91 Tryz.underlying3 (by simp) rfl
  have h4 := run_insert_new (P := Tryz.prog) (((w.alloc (.cells #[.pointer (some ⟨mb, 0, none⟩)] 27)).alloc (.cells #[.int .i64 who] 3)).alloc (.cells a.cells 25)) (w.heap.size + 1 + 1 + 1) 91 3 89 #[⟨.int .i64 0, .func (.func 66) #[] #[.pointer (some ⟨w.heap.size, 0, none⟩), .pointer (some ⟨w.heap.size + 1, 0, none⟩), .pointer (some ⟨w.heap.size + 1 + 1, 0, none⟩)], 0⟩, ⟨.int .i64 1, .func (.func 68) #[] #[.pointer (some ⟨w.heap.size, 0, none⟩), .pointer (some ⟨w.heap.size + 1, 0, none⟩), .pointer (some ⟨w.heap.size + 1 + 1, 0, none⟩)], 1⟩, ⟨.int .i64 2, .func (.func 70) #[] #[.pointer (some ⟨w.heap.size, 0, none⟩), .pointer (some ⟨w.heap.size + 1, 0, none⟩), .pointer (some ⟨w.heap.size + 1 + 1, 0, none⟩)], 2⟩] 3 3 (.func (.func 71) #[] #[.pointer (some ⟨w.heap.size, 0, none⟩), .pointer (some ⟨w.heap.size + 1, 0, none⟩), .pointer (some ⟨w.heap.size + 1 + 1, 0, none⟩)]) Tryz.underlying91 Tryz.underlying3 (by simp) rfl
  have h5 := run_insert_new (P := Tryz.prog) (((w.alloc (.cells #[.pointer (some ⟨mb, 0, none⟩)] 27)).alloc (.cells #[.int .i64 who] 3)).alloc (.cells a.cells 25)) (w.heap.size + 1 + 1 + 1) 91 3 89 #[⟨.int .i64 0, .func (.func 66) #[] #[.pointer (some ⟨w.heap.size, 0, none⟩), .pointer (some ⟨w.heap.size + 1, 0, none⟩), .pointer (some ⟨w.heap.size + 1 + 1, 0, none⟩)], 0⟩, ⟨.int .i64 1, .func (.func 68) #[] #[.pointer (some ⟨w.heap.size, 0, none⟩), .pointer (some ⟨w.heap.size + 1, 0, none⟩), .pointer (some ⟨w.heap.size + 1 + 1, 0, none⟩)], 1⟩, ⟨.int .i64 2, .func (.func 70) #[] #[.pointer (some ⟨w.heap.size, 0, none⟩), .pointer (some ⟨w.heap.size + 1, 0, none⟩), .pointer (some ⟨w.heap.size + 1 + 1, 0, none⟩)], 2⟩, ⟨.int .i64 3, .func (.func 71) #[] #[.pointer (some ⟨w.heap.size, 0, none⟩), .pointer (some ⟨w.heap.size + 1, 0, none⟩), .pointer (some ⟨w.heap.size + 1 + 1, 0, none⟩)], 3⟩] 4 4 (.func (.func 73) #[] #[.pointer (some ⟨w.heap.size, 0, none⟩), .pointer (some ⟨w.heap.size + 1, 0, none⟩), .pointer (some ⟨w.heap.size + 1 + 1, 0, none⟩)]) Tryz.underlying91 Tryz.underlying3 (by simp) rfl
  have h6 := run_insert_new (P := Tryz.prog) (((w.alloc (.cells #[.pointer (some ⟨mb, 0, none⟩)] 27)).alloc (.cells #[.int .i64 who] 3)).alloc (.cells a.cells 25)) (w.heap.size + 1 + 1 + 1) 91 3 89 #[⟨.int .i64 0, .func (.func 66) #[] #[.pointer (some ⟨w.heap.size, 0, none⟩), .pointer (some ⟨w.heap.size + 1, 0, none⟩), .pointer (some ⟨w.heap.size + 1 + 1, 0, none⟩)], 0⟩, ⟨.int .i64 1, .func (.func 68) #[] #[.pointer (some ⟨w.heap.size, 0, none⟩), .pointer (some ⟨w.heap.size + 1, 0, none⟩), .pointer (some ⟨w.heap.size + 1 + 1, 0, none⟩)], 1⟩, ⟨.int .i64 2, .func (.func 70) #[] #[.pointer (some ⟨w.heap.size, 0, none⟩), .pointer (some ⟨w.heap.size + 1, 0, none⟩), .pointer (some ⟨w.heap.size + 1 + 1, 0, none⟩)], 2⟩, ⟨.int .i64 3, .func (.func 71) #[] #[.pointer (some ⟨w.heap.size, 0, none⟩), .pointer (some ⟨w.heap.size + 1, 0, none⟩), .pointer (some ⟨w.heap.size + 1 + 1, 0, none⟩)], 3⟩, ⟨.int .i64 4, .func (.func 73) #[] #[.pointer (some ⟨w.heap.size, 0, none⟩), .pointer (some ⟨w.heap.size + 1, 0, none⟩), .pointer (some ⟨w.heap.size + 1 + 1, 0, none⟩)], 4⟩] 5 5 (.func (.func 75) #[] #[.pointer (some ⟨w.heap.size, 0, none⟩), .pointer (some ⟨w.heap.size + 1, 0, none⟩)]) Tryz.underlying91 Tryz.underlying3 (by simp) rfl
  have h7 := run_insert_new (P := Tryz.prog) (((w.alloc (.cells #[.pointer (some ⟨mb, 0, none⟩)] 27)).alloc (.cells #[.int .i64 who] 3)).alloc (.cells a.cells 25)) (w.heap.size + 1 + 1 + 1) 91 3 89 #[⟨.int .i64 0, .func (.func 66) #[] #[.pointer (some ⟨w.heap.size, 0, none⟩), .pointer (some ⟨w.heap.size + 1, 0, none⟩), .pointer (some ⟨w.heap.size + 1 + 1, 0, none⟩)], 0⟩, ⟨.int .i64 1, .func (.func 68) #[] #[.pointer (some ⟨w.heap.size, 0, none⟩), .pointer (some ⟨w.heap.size + 1, 0, none⟩), .pointer (some ⟨w.heap.size + 1 + 1, 0, none⟩)], 1⟩, ⟨.int .i64 2, .func (.func 70) #[] #[.pointer (some ⟨w.heap.size, 0, none⟩), .pointer (some ⟨w.heap.size + 1, 0, none⟩), .pointer (some ⟨w.heap.size + 1 + 1, 0, none⟩)], 2⟩, ⟨.int .i64 3, .func (.func 71) #[] #[.pointer (some ⟨w.heap.size, 0, none⟩), .pointer (some ⟨w.heap.size + 1, 0, none⟩), .pointer (some ⟨w.heap.size + 1 + 1, 0, none⟩)], 3⟩, ⟨.int .i64 4, .func (.func 73) #[] #[.pointer (some ⟨w.heap.size, 0, none⟩), .pointer (some ⟨w.heap.size + 1, 0, none⟩), .pointer (some ⟨w.heap.size + 1 + 1, 0, none⟩)], 4⟩, ⟨.int .i64 5, .func (.func 75) #[] #[.pointer (some ⟨w.heap.size, 0, none⟩), .pointer (some ⟨w.heap.size + 1, 0, none⟩)], 5⟩] 6 6 (.func (.func 77) #[] #[.pointer (some ⟨w.heap.size, 0, none⟩), .pointer (some ⟨w.heap.size + 1 + 1, 0, none⟩)]) Tryz.underlying91 Tryz.underlying3 (by simp) rfl
  have h8 := run_insert_new (P := Tryz.prog) (((w.alloc (.cells #[.pointer (some ⟨mb, 0, none⟩)] 27)).alloc (.cells #[.int .i64 who] 3)).alloc (.cells a.cells 25)) (w.heap.size + 1 + 1 + 1) 91 3 89 #[⟨.int .i64 0, .func (.func 66) #[] #[.pointer (some ⟨w.heap.size, 0, none⟩), .pointer (some ⟨w.heap.size + 1, 0, none⟩), .pointer (some ⟨w.heap.size + 1 + 1, 0, none⟩)], 0⟩, ⟨.int .i64 1, .func (.func 68) #[] #[.pointer (some ⟨w.heap.size, 0, none⟩), .pointer (some ⟨w.heap.size + 1, 0, none⟩), .pointer (some ⟨w.heap.size + 1 + 1, 0, none⟩)], 1⟩, ⟨.int .i64 2, .func (.func 70) #[] #[.pointer (some ⟨w.heap.size, 0, none⟩), .pointer (some ⟨w.heap.size + 1, 0, none⟩), .pointer (some ⟨w.heap.size + 1 + 1, 0, none⟩)], 2⟩, ⟨.int .i64 3, .func (.func 71) #[] #[.pointer (some ⟨w.heap.size, 0, none⟩), .pointer (some ⟨w.heap.size + 1, 0, none⟩), .pointer (some ⟨w.heap.size + 1 + 1, 0, none⟩)], 3⟩, ⟨.int .i64 4, .func (.func 73) #[] #[.pointer (some ⟨w.heap.size, 0, none⟩), .pointer (some ⟨w.heap.size + 1, 0, none⟩), .pointer (some ⟨w.heap.size + 1 + 1, 0, none⟩)], 4⟩, ⟨.int .i64 5, .func (.func 75) #[] #[.pointer (some ⟨w.heap.size, 0, none⟩), .pointer (some ⟨w.heap.size + 1, 0, none⟩)], 5⟩, ⟨.int .i64 6, .func (.func 77) #[] #[.pointer (some ⟨w.heap.size, 0, none⟩), .pointer (some ⟨w.heap.size + 1 + 1, 0, none⟩)], 6⟩] 7 7 (.func (.func 79) #[] #[.pointer (some ⟨w.heap.size, 0, none⟩)]) Tryz.underlying91 Tryz.underlying3 (by simp) rfl
  simp only [List.push_toArray, List.nil_append, List.cons_append, Nat.zero_add, Nat.reduceAdd, Ask.cells] at hmk h1 h2 h3 h4 h5 h6 h7 h8
  obtain ⟨op, dl, wt, fo, sl, ge, st⟩ := a
  simp only [Ask.val, Ask.cells] at *
  go_enter Tryz.func38, Tryz.ntmps38
  go_wp2
  go_ret
  exact ⟨rfl, rfl⟩

/-- What the closures have captured. -/
structure Capt (W : World) (n mb : Nat) (who : Int) (a : Ask) : Prop where
  c0 : W.cell? ⟨n, 0, none⟩ = some (.pointer (some ⟨mb, 0, none⟩))
  c1 : W.cell? ⟨n + 1, 0, none⟩ = some (.int .i64 who)
  c2 : RowAt W (n + 2) a.cells 25
theorem capt (w : World) (mb : Nat) (who : Int) (a : Ask) : Capt (ansW w mb who a) w.heap.size mb who a ∧ (ansW w mb who a).heap[w.heap.size + 3]? = some (.map (ansT w.heap.size) 8) ∧ Below w.heap.size w (ansW w mb who a) := by
  unfold ansW
  refine ⟨⟨by go_simp, by go_simp, ?_⟩, ?_, ((((Below.refl _ _).alloc (Nat.le_refl _) _).alloc (by simp) _).alloc (by simp; omega) _).alloc (by simp; omega) _⟩
  · rw [RowAt, Below.heap_alloc _ _ _ (by simp)]
    have h := World.alloc_heap_new ((w.alloc (.cells #[.pointer (some ⟨mb, 0, none⟩)] 27)).alloc (.cells #[.int .i64 who] 3)) (.cells a.cells 25)
    simpa using h
  · have h := World.alloc_heap_new (((w.alloc (.cells #[.pointer (some ⟨mb, 0, none⟩)] 27)).alloc (.cells #[.int .i64 who] 3)).alloc (.cells a.cells 25)) (.map (ansT w.heap.size) 8)
    simpa using h
theorem Capt.below {W W' : World} {n mb : Nat} {who : Int} {a : Ask} (h : Capt W n mb who a) (hb : Below W.heap.size W W') : Capt W' n mb who a := ⟨Field.bkeep hb h.c0, Field.bkeep hb h.c1, h.c2.below hb⟩
theorem all_has (m : M) : True := trivial

set_option maxRecDepth 100000 in
set_option maxHeartbeats 4000000 in
theorem ans1 {W : World} {p : Pl} {m : M} (h : MAt W p m) {n : Nat} {who : Int} {a : Ask} (hc : Capt W n p.mb who a) (hw : m.has who = true) :
    Calls Tryz.prog 66 #[.pointer (some ⟨n, 0, none⟩), .pointer (some ⟨n + 1, 0, none⟩), .pointer (some ⟨n + 2, 0, none⟩)] W (MPost W p (.tuple #[(m.get who a).1.1.val, .bool (m.get who a).1.2]) (m.get who a).2) := by
  have hB : Below W.heap.size W (W.alloc (.cells ev0 36)) := (Below.refl _ _).alloc (Nat.le_refl _) _
  have r0 : Re W.heap.size (W.alloc (.cells ev0 36)) p (W.alloc (.cells ev0 36)) p m := Re.begin h hB
  have e0 : ERow (W.alloc (.cells ev0 36)) W.heap.size := ⟨ev0, rfl, RowAt.new _ _ _⟩
  have hg1 : W.heap.size < (W.alloc (.cells ev0 36)).heap.size := by simp
  have c0 := hc.c0
  have c1 := hc.c1
  have r2 := hc.c2
  have n0 : n < W.heap.size := World.block_lt_of_cell? _ _ c0
  have n1 : n + 1 < W.heap.size := World.block_lt_of_cell? _ _ c1
  have n2 : n + 2 < W.heap.size := (Array.getElem?_eq_some_iff.1 r2).1
  have hx := m_get r0.at' who a hw
  rw [r0.mb] at hx
  obtain ⟨op, dl, wt, fo, sl, ge, st⟩ := a
  simp only [Ask.val, Ask.cells] at *
  have a0 : W.cell? ⟨n + 2, 0, none⟩ = some (.int .i64 op) := r2.cell 0
  have a1 : W.cell? ⟨n + 2, 1, none⟩ = some (.int .i64 dl) := r2.cell 1
  have a2 : W.cell? ⟨n + 2, 2, none⟩ = some (.bool wt) := r2.cell 2
  have a3 : W.cell? ⟨n + 2, 3, none⟩ = some (.bool fo) := r2.cell 3
  have a4 : W.cell? ⟨n + 2, 4, none⟩ = some (.int .i64 sl) := r2.cell 4
  have a5 : W.cell? ⟨n + 2, 5, none⟩ = some (.int .i64 ge) := r2.cell 5
  have a6 : W.cell? ⟨n + 2, 6, none⟩ = some (.int .i64 st) := r2.cell 6
  generalize m.get who ⟨op, dl, wt, fo, sl, ge, st⟩ = R at *
  obtain ⟨⟨x, b⟩, m2⟩ := R
  simp only at *
  clear hc r2 h
  go_enter Tryz.func66, Tryz.ntmps66
  go_wp2_with fail
  refine hx.mono ?_
  rintro e w1 hp
  obtain ⟨rfl, p1, r1, hc1⟩ := r0.post hp
  have e1 := e0.chg hc1 (r0.not (Nat.le_refl _) hg1)
  have hst := e1.store x
  have hsz := ev_size x
  clear hx c0 c1 r0 e0 hp hc1 a0 a1 a2 a3 a4 a5 a6
  go_wp2_with fail
  refine bodyPost_ret (results_row2 rfl _ _ W.heap.size _ _ _ rfl (e1.set x) Tryz.underlying36 rfl (by kernel_rfl)) rfl ?_
  exact (r1.row (Nat.le_refl _) hg1 x.cells).fin hB _
set_option maxRecDepth 100000 in
set_option maxHeartbeats 4000000 in
theorem ans2 {W : World} {p : Pl} {m : M} (h : MAt W p m) {n : Nat} {who : Int} {a : Ask} (hc : Capt W n p.mb who a) :
    Calls Tryz.prog 68 #[.pointer (some ⟨n, 0, none⟩), .pointer (some ⟨n + 1, 0, none⟩), .pointer (some ⟨n + 2, 0, none⟩)] W (MPost W p (.tuple #[(m.give who a false).1.val, .bool true]) (m.give who a false).2) := by
  have hB : Below W.heap.size W (W.alloc (.cells ev0 36)) := (Below.refl _ _).alloc (Nat.le_refl _) _
  have r0 : Re W.heap.size (W.alloc (.cells ev0 36)) p (W.alloc (.cells ev0 36)) p m := Re.begin h hB
  have e0 : ERow (W.alloc (.cells ev0 36)) W.heap.size := ⟨ev0, rfl, RowAt.new _ _ _⟩
  have hg1 : W.heap.size < (W.alloc (.cells ev0 36)).heap.size := by simp
  have c0 := hc.c0
  have c1 := hc.c1
  have r2 := hc.c2
  have n0 : n < W.heap.size := World.block_lt_of_cell? _ _ c0
  have n1 : n + 1 < W.heap.size := World.block_lt_of_cell? _ _ c1
  have n2 : n + 2 < W.heap.size := (Array.getElem?_eq_some_iff.1 r2).1
  have hx := m_give r0.at' who a false
  rw [r0.mb] at hx
  obtain ⟨op, dl, wt, fo, sl, ge, st⟩ := a
  simp only [Ask.val, Ask.cells] at *
  have a0 : W.cell? ⟨n + 2, 0, none⟩ = some (.int .i64 op) := r2.cell 0
  have a1 : W.cell? ⟨n + 2, 1, none⟩ = some (.int .i64 dl) := r2.cell 1
  have a2 : W.cell? ⟨n + 2, 2, none⟩ = some (.bool wt) := r2.cell 2
  have a3 : W.cell? ⟨n + 2, 3, none⟩ = some (.bool fo) := r2.cell 3
  have a4 : W.cell? ⟨n + 2, 4, none⟩ = some (.int .i64 sl) := r2.cell 4
  have a5 : W.cell? ⟨n + 2, 5, none⟩ = some (.int .i64 ge) := r2.cell 5
  have a6 : W.cell? ⟨n + 2, 6, none⟩ = some (.int .i64 st) := r2.cell 6
  generalize m.give who ⟨op, dl, wt, fo, sl, ge, st⟩ false = R at *
  obtain ⟨x, m2⟩ := R
  simp only at *
  clear hc r2 h
  go_enter Tryz.func68, Tryz.ntmps68
  go_wp2_with fail
  refine hx.mono ?_
  rintro e w1 hp
  obtain ⟨rfl, p1, r1, hc1⟩ := r0.post hp
  have e1 := e0.chg hc1 (r0.not (Nat.le_refl _) hg1)
  have hst := e1.store x
  have hsz := ev_size x
  clear hx c0 c1 r0 e0 hp hc1 a0 a1 a2 a3 a4 a5 a6
  go_wp2_with fail
  refine bodyPost_ret (results_row2 rfl _ _ W.heap.size _ _ _ rfl (e1.set x) Tryz.underlying36 rfl (by kernel_rfl)) rfl ?_
  exact (r1.row (Nat.le_refl _) hg1 x.cells).fin hB _
set_option maxRecDepth 100000 in
set_option maxHeartbeats 4000000 in
theorem ans3 {W : World} {p : Pl} {m : M} (h : MAt W p m) {n : Nat} {who : Int} {a : Ask} (hc : Capt W n p.mb who a) :
    Calls Tryz.prog 70 #[.pointer (some ⟨n, 0, none⟩), .pointer (some ⟨n + 1, 0, none⟩), .pointer (some ⟨n + 2, 0, none⟩)] W (MPost W p (.tuple #[(m.give who a true).1.val, .bool true]) (m.give who a true).2) := by
  have hB : Below W.heap.size W (W.alloc (.cells ev0 36)) := (Below.refl _ _).alloc (Nat.le_refl _) _
  have r0 : Re W.heap.size (W.alloc (.cells ev0 36)) p (W.alloc (.cells ev0 36)) p m := Re.begin h hB
  have e0 : ERow (W.alloc (.cells ev0 36)) W.heap.size := ⟨ev0, rfl, RowAt.new _ _ _⟩
  have hg1 : W.heap.size < (W.alloc (.cells ev0 36)).heap.size := by simp
  have c0 := hc.c0
  have c1 := hc.c1
  have r2 := hc.c2
  have n0 : n < W.heap.size := World.block_lt_of_cell? _ _ c0
  have n1 : n + 1 < W.heap.size := World.block_lt_of_cell? _ _ c1
  have n2 : n + 2 < W.heap.size := (Array.getElem?_eq_some_iff.1 r2).1
  have hx := m_give r0.at' who a true
  rw [r0.mb] at hx
  obtain ⟨op, dl, wt, fo, sl, ge, st⟩ := a
  simp only [Ask.val, Ask.cells] at *
  have a0 : W.cell? ⟨n + 2, 0, none⟩ = some (.int .i64 op) := r2.cell 0
  have a1 : W.cell? ⟨n + 2, 1, none⟩ = some (.int .i64 dl) := r2.cell 1
  have a2 : W.cell? ⟨n + 2, 2, none⟩ = some (.bool wt) := r2.cell 2
  have a3 : W.cell? ⟨n + 2, 3, none⟩ = some (.bool fo) := r2.cell 3
  have a4 : W.cell? ⟨n + 2, 4, none⟩ = some (.int .i64 sl) := r2.cell 4
  have a5 : W.cell? ⟨n + 2, 5, none⟩ = some (.int .i64 ge) := r2.cell 5
  have a6 : W.cell? ⟨n + 2, 6, none⟩ = some (.int .i64 st) := r2.cell 6
  generalize m.give who ⟨op, dl, wt, fo, sl, ge, st⟩ true = R at *
  obtain ⟨x, m2⟩ := R
  simp only at *
  clear hc r2 h
  go_enter Tryz.func70, Tryz.ntmps70
  go_wp2_with fail
  refine hx.mono ?_
  rintro e w1 hp
  obtain ⟨rfl, p1, r1, hc1⟩ := r0.post hp
  have e1 := e0.chg hc1 (r0.not (Nat.le_refl _) hg1)
  have hst := e1.store x
  have hsz := ev_size x
  clear hx c0 c1 r0 e0 hp hc1 a0 a1 a2 a3 a4 a5 a6
  go_wp2_with fail
  refine bodyPost_ret (results_row2 rfl _ _ W.heap.size _ _ _ rfl (e1.set x) Tryz.underlying36 rfl (by kernel_rfl)) rfl ?_
  exact (r1.row (Nat.le_refl _) hg1 x.cells).fin hB _
set_option maxRecDepth 100000 in
set_option maxHeartbeats 4000000 in
theorem ans4 {W : World} {p : Pl} {m : M} (h : MAt W p m) {n : Nat} {who : Int} {a : Ask} (hc : Capt W n p.mb who a) :
    Calls Tryz.prog 71 #[.pointer (some ⟨n, 0, none⟩), .pointer (some ⟨n + 1, 0, none⟩), .pointer (some ⟨n + 2, 0, none⟩)] W (MPost W p (.tuple #[(m.openS who a).1.val, .bool true]) (m.openS who a).2) := by
  have hB : Below W.heap.size W (W.alloc (.cells ev0 36)) := (Below.refl _ _).alloc (Nat.le_refl _) _
  have r0 : Re W.heap.size (W.alloc (.cells ev0 36)) p (W.alloc (.cells ev0 36)) p m := Re.begin h hB
  have e0 : ERow (W.alloc (.cells ev0 36)) W.heap.size := ⟨ev0, rfl, RowAt.new _ _ _⟩
  have hg1 : W.heap.size < (W.alloc (.cells ev0 36)).heap.size := by simp
  have c0 := hc.c0
  have c1 := hc.c1
  have r2 := hc.c2
  have n0 : n < W.heap.size := World.block_lt_of_cell? _ _ c0
  have n1 : n + 1 < W.heap.size := World.block_lt_of_cell? _ _ c1
  have n2 : n + 2 < W.heap.size := (Array.getElem?_eq_some_iff.1 r2).1
  have hx := m_open r0.at' who a
  rw [r0.mb] at hx
  obtain ⟨op, dl, wt, fo, sl, ge, st⟩ := a
  simp only [Ask.val, Ask.cells] at *
  have a0 : W.cell? ⟨n + 2, 0, none⟩ = some (.int .i64 op) := r2.cell 0
  have a1 : W.cell? ⟨n + 2, 1, none⟩ = some (.int .i64 dl) := r2.cell 1
  have a2 : W.cell? ⟨n + 2, 2, none⟩ = some (.bool wt) := r2.cell 2
  have a3 : W.cell? ⟨n + 2, 3, none⟩ = some (.bool fo) := r2.cell 3
  have a4 : W.cell? ⟨n + 2, 4, none⟩ = some (.int .i64 sl) := r2.cell 4
  have a5 : W.cell? ⟨n + 2, 5, none⟩ = some (.int .i64 ge) := r2.cell 5
  have a6 : W.cell? ⟨n + 2, 6, none⟩ = some (.int .i64 st) := r2.cell 6
  generalize m.openS who ⟨op, dl, wt, fo, sl, ge, st⟩ = R at *
  obtain ⟨x, m2⟩ := R
  simp only at *
  clear hc r2 h
  go_enter Tryz.func71, Tryz.ntmps71
  go_wp2_with fail
  refine hx.mono ?_
  rintro e w1 hp
  obtain ⟨rfl, p1, r1, hc1⟩ := r0.post hp
  have e1 := e0.chg hc1 (r0.not (Nat.le_refl _) hg1)
  have hst := e1.store x
  have hsz := ev_size x
  clear hx c0 c1 r0 e0 hp hc1 a0 a1 a2 a3 a4 a5 a6
  go_wp2_with fail
  refine bodyPost_ret (results_row2 rfl _ _ W.heap.size _ _ _ rfl (e1.set x) Tryz.underlying36 rfl (by kernel_rfl)) rfl ?_
  exact (r1.row (Nat.le_refl _) hg1 x.cells).fin hB _
set_option maxRecDepth 100000 in
set_option maxHeartbeats 4000000 in
theorem ans5 {W : World} {p : Pl} {m : M} (h : MAt W p m) {n : Nat} {who : Int} {a : Ask} (hc : Capt W n p.mb who a) :
    Calls Tryz.prog 73 #[.pointer (some ⟨n, 0, none⟩), .pointer (some ⟨n + 1, 0, none⟩), .pointer (some ⟨n + 2, 0, none⟩)] W (MPost W p (.tuple #[(m.shutS who a).1.val, .bool true]) (m.shutS who a).2) := by
  have hB : Below W.heap.size W (W.alloc (.cells ev0 36)) := (Below.refl _ _).alloc (Nat.le_refl _) _
  have r0 : Re W.heap.size (W.alloc (.cells ev0 36)) p (W.alloc (.cells ev0 36)) p m := Re.begin h hB
  have e0 : ERow (W.alloc (.cells ev0 36)) W.heap.size := ⟨ev0, rfl, RowAt.new _ _ _⟩
  have hg1 : W.heap.size < (W.alloc (.cells ev0 36)).heap.size := by simp
  have c0 := hc.c0
  have c1 := hc.c1
  have r2 := hc.c2
  have n0 : n < W.heap.size := World.block_lt_of_cell? _ _ c0
  have n1 : n + 1 < W.heap.size := World.block_lt_of_cell? _ _ c1
  have n2 : n + 2 < W.heap.size := (Array.getElem?_eq_some_iff.1 r2).1
  have hx := m_shut r0.at' who a
  rw [r0.mb] at hx
  obtain ⟨op, dl, wt, fo, sl, ge, st⟩ := a
  simp only [Ask.val, Ask.cells] at *
  have a0 : W.cell? ⟨n + 2, 0, none⟩ = some (.int .i64 op) := r2.cell 0
  have a1 : W.cell? ⟨n + 2, 1, none⟩ = some (.int .i64 dl) := r2.cell 1
  have a2 : W.cell? ⟨n + 2, 2, none⟩ = some (.bool wt) := r2.cell 2
  have a3 : W.cell? ⟨n + 2, 3, none⟩ = some (.bool fo) := r2.cell 3
  have a4 : W.cell? ⟨n + 2, 4, none⟩ = some (.int .i64 sl) := r2.cell 4
  have a5 : W.cell? ⟨n + 2, 5, none⟩ = some (.int .i64 ge) := r2.cell 5
  have a6 : W.cell? ⟨n + 2, 6, none⟩ = some (.int .i64 st) := r2.cell 6
  generalize m.shutS who ⟨op, dl, wt, fo, sl, ge, st⟩ = R at *
  obtain ⟨x, m2⟩ := R
  simp only at *
  clear hc r2 h
  go_enter Tryz.func73, Tryz.ntmps73
  go_wp2_with fail
  refine hx.mono ?_
  rintro e w1 hp
  obtain ⟨rfl, p1, r1, hc1⟩ := r0.post hp
  have e1 := e0.chg hc1 (r0.not (Nat.le_refl _) hg1)
  have hst := e1.store x
  have hsz := ev_size x
  clear hx c0 c1 r0 e0 hp hc1 a0 a1 a2 a3 a4 a5 a6
  go_wp2_with fail
  refine bodyPost_ret (results_row2 rfl _ _ W.heap.size _ _ _ rfl (e1.set x) Tryz.underlying36 rfl (by kernel_rfl)) rfl ?_
  exact (r1.row (Nat.le_refl _) hg1 x.cells).fin hB _
set_option maxRecDepth 100000 in
set_option maxHeartbeats 4000000 in
theorem ans6 {W : World} {p : Pl} {m : M} (h : MAt W p m) {n : Nat} {who : Int} {a : Ask} (hc : Capt W n p.mb who a) :
    Calls Tryz.prog 75 #[.pointer (some ⟨n, 0, none⟩), .pointer (some ⟨n + 1, 0, none⟩)] W (MPost W p (.tuple #[(m.reap who).1.val, .bool true]) (m.reap who).2) := by
  have hB : Below W.heap.size W (W.alloc (.cells ev0 36)) := (Below.refl _ _).alloc (Nat.le_refl _) _
  have r0 : Re W.heap.size (W.alloc (.cells ev0 36)) p (W.alloc (.cells ev0 36)) p m := Re.begin h hB
  have e0 : ERow (W.alloc (.cells ev0 36)) W.heap.size := ⟨ev0, rfl, RowAt.new _ _ _⟩
  have hg1 : W.heap.size < (W.alloc (.cells ev0 36)).heap.size := by simp
  have c0 := hc.c0
  have c1 := hc.c1
  have r2 := hc.c2
  have n0 : n < W.heap.size := World.block_lt_of_cell? _ _ c0
  have n1 : n + 1 < W.heap.size := World.block_lt_of_cell? _ _ c1
  have n2 : n + 2 < W.heap.size := (Array.getElem?_eq_some_iff.1 r2).1
  have hx := m_reap r0.at' who
  rw [r0.mb] at hx
  generalize m.reap who = R at *
  obtain ⟨x, m2⟩ := R
  simp only at *
  clear hc r2 h
  go_enter Tryz.func75, Tryz.ntmps75
  go_wp2_with fail
  refine hx.mono ?_
  rintro e w1 hp
  obtain ⟨rfl, p1, r1, hc1⟩ := r0.post hp
  have e1 := e0.chg hc1 (r0.not (Nat.le_refl _) hg1)
  have hst := e1.store x
  have hsz := ev_size x
  clear hx c0 c1 r0 e0 hp hc1
  go_wp2_with fail
  refine bodyPost_ret (results_row2 rfl _ _ W.heap.size _ _ _ rfl (e1.set x) Tryz.underlying36 rfl (by kernel_rfl)) rfl ?_
  exact (r1.row (Nat.le_refl _) hg1 x.cells).fin hB _
set_option maxRecDepth 100000 in
set_option maxHeartbeats 4000000 in
theorem ans7 {W : World} {p : Pl} {m : M} (h : MAt W p m) {n : Nat} {who : Int} {a : Ask} (hc : Capt W n p.mb who a) :
    Calls Tryz.prog 77 #[.pointer (some ⟨n, 0, none⟩), .pointer (some ⟨n + 2, 0, none⟩)] W (MPost W p (.tuple #[Ev.zero.val, .bool true]) (m.close a.force)) := by
  have hB : Below W.heap.size W (W.alloc (.cells ev0 36)) := (Below.refl _ _).alloc (Nat.le_refl _) _
  have r0 : Re W.heap.size (W.alloc (.cells ev0 36)) p (W.alloc (.cells ev0 36)) p m := Re.begin h hB
  have e0 : ERow (W.alloc (.cells ev0 36)) W.heap.size := ⟨ev0, rfl, RowAt.new _ _ _⟩
  have hg1 : W.heap.size < (W.alloc (.cells ev0 36)).heap.size := by simp
  have c0 := hc.c0
  have c1 := hc.c1
  have r2 := hc.c2
  have n0 : n < W.heap.size := World.block_lt_of_cell? _ _ c0
  have n1 : n + 1 < W.heap.size := World.block_lt_of_cell? _ _ c1
  have n2 : n + 2 < W.heap.size := (Array.getElem?_eq_some_iff.1 r2).1
  have hx := m_close r0.at' a.force
  rw [r0.mb] at hx
  obtain ⟨op, dl, wt, fo, sl, ge, st⟩ := a
  simp only [Ask.val, Ask.cells] at *
  have a0 : W.cell? ⟨n + 2, 0, none⟩ = some (.int .i64 op) := r2.cell 0
  have a1 : W.cell? ⟨n + 2, 1, none⟩ = some (.int .i64 dl) := r2.cell 1
  have a2 : W.cell? ⟨n + 2, 2, none⟩ = some (.bool wt) := r2.cell 2
  have a3 : W.cell? ⟨n + 2, 3, none⟩ = some (.bool fo) := r2.cell 3
  have a4 : W.cell? ⟨n + 2, 4, none⟩ = some (.int .i64 sl) := r2.cell 4
  have a5 : W.cell? ⟨n + 2, 5, none⟩ = some (.int .i64 ge) := r2.cell 5
  have a6 : W.cell? ⟨n + 2, 6, none⟩ = some (.int .i64 st) := r2.cell 6
  generalize Ev.zero = x at *
  generalize m.close fo = m2 at *
  clear hc r2 h
  go_enter Tryz.func77, Tryz.ntmps77
  go_wp2_with fail
  refine hx.mono ?_
  rintro e w1 hp
  obtain ⟨rfl, p1, r1, hc1⟩ := r0.post hp
  have e1 := e0.chg hc1 (r0.not (Nat.le_refl _) hg1)
  have hst := e1.store x
  have hsz := ev_size x
  clear hx c0 c1 r0 e0 hp hc1 a0 a1 a2 a3 a4 a5 a6
  go_wp2_with fail
  refine bodyPost_ret (results_row2 rfl _ _ W.heap.size _ _ _ rfl (e1.set x) Tryz.underlying36 rfl (by kernel_rfl)) rfl ?_
  exact (r1.row (Nat.le_refl _) hg1 x.cells).fin hB _
set_option maxRecDepth 100000 in
set_option maxHeartbeats 4000000 in
theorem ans8 {W : World} {p : Pl} {m : M} (h : MAt W p m) {n : Nat} {who : Int} {a : Ask} (hc : Capt W n p.mb who a) :
    Calls Tryz.prog 79 #[.pointer (some ⟨n, 0, none⟩)] W (MPost W p (.tuple #[m.stats.val, .bool true]) m) := by
  have hB : Below W.heap.size W (W.alloc (.cells ev0 36)) := (Below.refl _ _).alloc (Nat.le_refl _) _
  have r0 : Re W.heap.size (W.alloc (.cells ev0 36)) p (W.alloc (.cells ev0 36)) p m := Re.begin h hB
  have e0 : ERow (W.alloc (.cells ev0 36)) W.heap.size := ⟨ev0, rfl, RowAt.new _ _ _⟩
  have hg1 : W.heap.size < (W.alloc (.cells ev0 36)).heap.size := by simp
  have c0 := hc.c0
  have c1 := hc.c1
  have r2 := hc.c2
  have n0 : n < W.heap.size := World.block_lt_of_cell? _ _ c0
  have n1 : n + 1 < W.heap.size := World.block_lt_of_cell? _ _ c1
  have n2 : n + 2 < W.heap.size := (Array.getElem?_eq_some_iff.1 r2).1
  have hx := m_stats r0.at'
  rw [r0.mb] at hx
  generalize m.stats = x at *
  clear hc r2 h
  go_enter Tryz.func79, Tryz.ntmps79
  go_wp2_with fail
  refine hx.mono ?_
  rintro e w1 ⟨rfl, hb1⟩
  have r1 := r0.below hb1
  have e1 := e0.below hb1
  have hst := e1.store x
  have hsz := ev_size x
  clear hx c0 c1 r0 e0 hb1
  go_wp2_with fail
  refine bodyPost_ret (results_row2 rfl _ _ W.heap.size _ _ _ rfl (e1.set x) Tryz.underlying36 rfl (by kernel_rfl)) rfl ?_
  exact (r1.row (Nat.le_refl _) hg1 x.cells).fin hB _
end Go.Proofs.YtpmkgddjgebojaaGreatDoor.Mod

namespace Go.Proofs.YtpmkgddjgebojaaGreatDoor.Mod
set_option linter.unusedVariables false
set_option linter.unusedSimpArgs false
open Go.RowKit Hp Slot RowL Life

theorem st_bool {w : World} {g off : Nat} {Z : Array Value} {t : TypeId} {b : Bool} (h : RowAt w g Z t) (ho : off < Z.size) : (Instr.storeAt 4 (.pointer (some ⟨g, off, none⟩)) (.bool b)).run Tryz.prog w = .ok () (w.setCell ⟨g, off, none⟩ (.bool b)) := by
  have hc := h.cell off
  rw [Array.getElem?_eq_getElem ho] at hc
  have hf := h.frozen off
  generalize Z[off] = z at hc
  clear h ho
  go_simp
theorem st_int {w : World} {g off : Nat} {Z : Array Value} {t : TypeId} {b : Int} (h : RowAt w g Z t) (ho : off < Z.size) : (Instr.storeAt 3 (.pointer (some ⟨g, off, none⟩)) (.int .i64 b)).run Tryz.prog w = .ok () (w.setCell ⟨g, off, none⟩ (.int .i64 b)) := by
  have hc := h.cell off
  rw [Array.getElem?_eq_getElem ho] at hc
  have hf := h.frozen off
  generalize Z[off] = z at hc
  clear h ho
  go_simp

set_option maxRecDepth 100000 in
set_option maxHeartbeats 8000000 in
theorem answered_any (W : World) (x : Ev) (who : Int) (a : Ask) :
    Calls Tryz.prog 41 #[x.val, .int .i64 who, a.val] W fun e W' => e = .returned (M.answered x who a).val ∧ Below W.heap.size W W' := by
  obtain ⟨en, wh, at', ⟨o1, d1, ww1, ff1, s1, g1, t1⟩, er, sl, ge, st, c1, c2, c3, c4⟩ := x
  obtain ⟨op, dl, wt, fo, asl, ag, at2⟩ := a
  have hB : Below W.heap.size W (((W.alloc (.cells #[.bool en, .int .i64 wh, .int .i64 at', .int .i64 o1, .int .i64 d1, .bool ww1, .bool ff1, .int .i64 s1, .int .i64 g1, .int .i64 t1, .int .i64 er, .int .i64 sl, .int .i64 ge, .int .i64 st, .int .i64 c1, .int .i64 c2, .int .i64 c3, .int .i64 c4] 36)).alloc (.cells #[.int .i64 op, .int .i64 dl, .bool wt, .bool fo, .int .i64 asl, .int .i64 ag, .int .i64 at2] 25)).alloc (.cells #[.bool false, .int .i64 0, .int .i64 0, .int .i64 0, .int .i64 0, .bool false, .bool false, .int .i64 0, .int .i64 0, .int .i64 0, .int .i64 0, .int .i64 0, .int .i64 0, .int .i64 0, .int .i64 0, .int .i64 0, .int .i64 0, .int .i64 0] 36)) := (((Below.refl _ _).alloc (Nat.le_refl _) _).alloc (by simp) _).alloc (by simp; omega) _
  have r0 : RowAt (((W.alloc (.cells #[.bool en, .int .i64 wh, .int .i64 at', .int .i64 o1, .int .i64 d1, .bool ww1, .bool ff1, .int .i64 s1, .int .i64 g1, .int .i64 t1, .int .i64 er, .int .i64 sl, .int .i64 ge, .int .i64 st, .int .i64 c1, .int .i64 c2, .int .i64 c3, .int .i64 c4] 36)).alloc (.cells #[.int .i64 op, .int .i64 dl, .bool wt, .bool fo, .int .i64 asl, .int .i64 ag, .int .i64 at2] 25)).alloc (.cells #[.bool false, .int .i64 0, .int .i64 0, .int .i64 0, .int .i64 0, .bool false, .bool false, .int .i64 0, .int .i64 0, .int .i64 0, .int .i64 0, .int .i64 0, .int .i64 0, .int .i64 0, .int .i64 0, .int .i64 0, .int .i64 0, .int .i64 0] 36)) W.heap.size #[.bool en, .int .i64 wh, .int .i64 at', .int .i64 o1, .int .i64 d1, .bool ww1, .bool ff1, .int .i64 s1, .int .i64 g1, .int .i64 t1, .int .i64 er, .int .i64 sl, .int .i64 ge, .int .i64 st, .int .i64 c1, .int .i64 c2, .int .i64 c3, .int .i64 c4] 36 := by rw [RowAt, Below.heap_alloc _ _ _ (by simp; omega)]; exact heap_alloc2_old W _ _
  have ra : RowAt (((W.alloc (.cells #[.bool en, .int .i64 wh, .int .i64 at', .int .i64 o1, .int .i64 d1, .bool ww1, .bool ff1, .int .i64 s1, .int .i64 g1, .int .i64 t1, .int .i64 er, .int .i64 sl, .int .i64 ge, .int .i64 st, .int .i64 c1, .int .i64 c2, .int .i64 c3, .int .i64 c4] 36)).alloc (.cells #[.int .i64 op, .int .i64 dl, .bool wt, .bool fo, .int .i64 asl, .int .i64 ag, .int .i64 at2] 25)).alloc (.cells #[.bool false, .int .i64 0, .int .i64 0, .int .i64 0, .int .i64 0, .bool false, .bool false, .int .i64 0, .int .i64 0, .int .i64 0, .int .i64 0, .int .i64 0, .int .i64 0, .int .i64 0, .int .i64 0, .int .i64 0, .int .i64 0, .int .i64 0] 36)) (W.heap.size + 1) #[.int .i64 op, .int .i64 dl, .bool wt, .bool fo, .int .i64 asl, .int .i64 ag, .int .i64 at2] 25 := heap_alloc3_mid W _ _ _
  have e0 : ERow (((W.alloc (.cells #[.bool en, .int .i64 wh, .int .i64 at', .int .i64 o1, .int .i64 d1, .bool ww1, .bool ff1, .int .i64 s1, .int .i64 g1, .int .i64 t1, .int .i64 er, .int .i64 sl, .int .i64 ge, .int .i64 st, .int .i64 c1, .int .i64 c2, .int .i64 c3, .int .i64 c4] 36)).alloc (.cells #[.int .i64 op, .int .i64 dl, .bool wt, .bool fo, .int .i64 asl, .int .i64 ag, .int .i64 at2] 25)).alloc (.cells #[.bool false, .int .i64 0, .int .i64 0, .int .i64 0, .int .i64 0, .bool false, .bool false, .int .i64 0, .int .i64 0, .int .i64 0, .int .i64 0, .int .i64 0, .int .i64 0, .int .i64 0, .int .i64 0, .int .i64 0, .int .i64 0, .int .i64 0] 36)) (W.heap.size + 1 + 1) := ⟨#[.bool false, .int .i64 0, .int .i64 0, .int .i64 0, .int .i64 0, .bool false, .bool false, .int .i64 0, .int .i64 0, .int .i64 0, .int .i64 0, .int .i64 0, .int .i64 0, .int .i64 0, .int .i64 0, .int .i64 0, .int .i64 0, .int .i64 0], rfl, by have := RowAt.new ((W.alloc (.cells #[.bool en, .int .i64 wh, .int .i64 at', .int .i64 o1, .int .i64 d1, .bool ww1, .bool ff1, .int .i64 s1, .int .i64 g1, .int .i64 t1, .int .i64 er, .int .i64 sl, .int .i64 ge, .int .i64 st, .int .i64 c1, .int .i64 c2, .int .i64 c3, .int .i64 c4] 36)).alloc (.cells #[.int .i64 op, .int .i64 dl, .bool wt, .bool fo, .int .i64 asl, .int .i64 ag, .int .i64 at2] 25)) #[.bool false, .int .i64 0, .int .i64 0, .int .i64 0, .int .i64 0, .bool false, .bool false, .int .i64 0, .int .i64 0, .int .i64 0, .int .i64 0, .int .i64 0, .int .i64 0, .int .i64 0, .int .i64 0, .int .i64 0, .int .i64 0, .int .i64 0] 36; simpa using this⟩
  simp only [Ev.val, Ask.val, Ev.cells, Ask.cells]
  go_enter Tryz.func41, Tryz.ntmps41
  go_upto_region 1 with (fail)
  refine Code.wp_mono (Q := fun e a' w' => e = .normal ∧ a' = { tmps := #[.agg #[.bool en, .int .i64 wh, .int .i64 at', .int .i64 o1, .int .i64 d1, .bool ww1, .bool ff1, .int .i64 s1, .int .i64 g1, .int .i64 t1, .int .i64 er, .int .i64 sl, .int .i64 ge, .int .i64 st, .int .i64 c1, .int .i64 c2, .int .i64 c3, .int .i64 c4], .int .i64 who, .agg #[.int .i64 op, .int .i64 dl, .bool wt, .bool fo, .int .i64 asl, .int .i64 ag, .int .i64 at2], .pointer (some ⟨W.heap.size, 0, none⟩), undef, .pointer (some ⟨W.heap.size + 1, 0, none⟩), .pointer (some ⟨W.heap.size + 1 + 1, 0, none⟩), .int .i64 who, .agg #[.int .i64 op, .int .i64 dl, .bool wt, .bool fo, .int .i64 asl, .int .i64 ag, .int .i64 at2], .pointer (some ⟨W.heap.size, 0, none⟩), .pointer (some ⟨W.heap.size, 1, none⟩), .pointer (some ⟨W.heap.size, 2, none⟩), .pointer (some ⟨W.heap.size, 3, none⟩), undef], defers := [] } ∧ RowAt w' W.heap.size #[.bool true, .int .i64 who, .int .i64 0, .int .i64 op, .int .i64 dl, .bool wt, .bool fo, .int .i64 asl, .int .i64 ag, .int .i64 at2, .int .i64 er, .int .i64 sl, .int .i64 ge, .int .i64 st, .int .i64 c1, .int .i64 c2, .int .i64 c3, .int .i64 c4] 36 ∧ Chg (fun k => k = W.heap.size) (((W.alloc (.cells #[.bool en, .int .i64 wh, .int .i64 at', .int .i64 o1, .int .i64 d1, .bool ww1, .bool ff1, .int .i64 s1, .int .i64 g1, .int .i64 t1, .int .i64 er, .int .i64 sl, .int .i64 ge, .int .i64 st, .int .i64 c1, .int .i64 c2, .int .i64 c3, .int .i64 c4] 36)).alloc (.cells #[.int .i64 op, .int .i64 dl, .bool wt, .bool fo, .int .i64 asl, .int .i64 ag, .int .i64 at2] 25)).alloc (.cells #[.bool false, .int .i64 0, .int .i64 0, .int .i64 0, .int .i64 0, .bool false, .bool false, .int .i64 0, .int .i64 0, .int .i64 0, .int .i64 0, .int .i64 0, .int .i64 0, .int .i64 0, .int .i64 0, .int .i64 0, .int .i64 0, .int .i64 0] 36)) w') ?rest ?first
  case first =>
    have hKd : Chg (fun k => k = W.heap.size) (((W.alloc (.cells #[.bool en, .int .i64 wh, .int .i64 at', .int .i64 o1, .int .i64 d1, .bool ww1, .bool ff1, .int .i64 s1, .int .i64 g1, .int .i64 t1, .int .i64 er, .int .i64 sl, .int .i64 ge, .int .i64 st, .int .i64 c1, .int .i64 c2, .int .i64 c3, .int .i64 c4] 36)).alloc (.cells #[.int .i64 op, .int .i64 dl, .bool wt, .bool fo, .int .i64 asl, .int .i64 ag, .int .i64 at2] 25)).alloc (.cells #[.bool false, .int .i64 0, .int .i64 0, .int .i64 0, .int .i64 0, .bool false, .bool false, .int .i64 0, .int .i64 0, .int .i64 0, .int .i64 0, .int .i64 0, .int .i64 0, .int .i64 0, .int .i64 0, .int .i64 0, .int .i64 0, .int .i64 0] 36)) ((((W.alloc (.cells #[.bool en, .int .i64 wh, .int .i64 at', .int .i64 o1, .int .i64 d1, .bool ww1, .bool ff1, .int .i64 s1, .int .i64 g1, .int .i64 t1, .int .i64 er, .int .i64 sl, .int .i64 ge, .int .i64 st, .int .i64 c1, .int .i64 c2, .int .i64 c3, .int .i64 c4] 36)).alloc (.cells #[.int .i64 op, .int .i64 dl, .bool wt, .bool fo, .int .i64 asl, .int .i64 ag, .int .i64 at2] 25)).alloc (.cells #[.bool false, .int .i64 0, .int .i64 0, .int .i64 0, .int .i64 0, .bool false, .bool false, .int .i64 0, .int .i64 0, .int .i64 0, .int .i64 0, .int .i64 0, .int .i64 0, .int .i64 0, .int .i64 0, .int .i64 0, .int .i64 0, .int .i64 0] 36))).drew := (Chg.refl _ _).drew
    have rA : ∀ w', Chg (fun k => k = W.heap.size) (((W.alloc (.cells #[.bool en, .int .i64 wh, .int .i64 at', .int .i64 o1, .int .i64 d1, .bool ww1, .bool ff1, .int .i64 s1, .int .i64 g1, .int .i64 t1, .int .i64 er, .int .i64 sl, .int .i64 ge, .int .i64 st, .int .i64 c1, .int .i64 c2, .int .i64 c3, .int .i64 c4] 36)).alloc (.cells #[.int .i64 op, .int .i64 dl, .bool wt, .bool fo, .int .i64 asl, .int .i64 ag, .int .i64 at2] 25)).alloc (.cells #[.bool false, .int .i64 0, .int .i64 0, .int .i64 0, .int .i64 0, .bool false, .bool false, .int .i64 0, .int .i64 0, .int .i64 0, .int .i64 0, .int .i64 0, .int .i64 0, .int .i64 0, .int .i64 0, .int .i64 0, .int .i64 0, .int .i64 0] 36)) w' → RowAt w' (W.heap.size + 1) #[.int .i64 op, .int .i64 dl, .bool wt, .bool fo, .int .i64 asl, .int .i64 ag, .int .i64 at2] 25 := fun w' h => ra.chg h (by simp)
    have r1 : RowAt ((((W.alloc (.cells #[.bool en, .int .i64 wh, .int .i64 at', .int .i64 o1, .int .i64 d1, .bool ww1, .bool ff1, .int .i64 s1, .int .i64 g1, .int .i64 t1, .int .i64 er, .int .i64 sl, .int .i64 ge, .int .i64 st, .int .i64 c1, .int .i64 c2, .int .i64 c3, .int .i64 c4] 36)).alloc (.cells #[.int .i64 op, .int .i64 dl, .bool wt, .bool fo, .int .i64 asl, .int .i64 ag, .int .i64 at2] 25)).alloc (.cells #[.bool false, .int .i64 0, .int .i64 0, .int .i64 0, .int .i64 0, .bool false, .bool false, .int .i64 0, .int .i64 0, .int .i64 0, .int .i64 0, .int .i64 0, .int .i64 0, .int .i64 0, .int .i64 0, .int .i64 0, .int .i64 0, .int .i64 0] 36))).drew W.heap.size #[.bool en, .int .i64 wh, .int .i64 at', .int .i64 o1, .int .i64 d1, .bool ww1, .bool ff1, .int .i64 s1, .int .i64 g1, .int .i64 t1, .int .i64 er, .int .i64 sl, .int .i64 ge, .int .i64 st, .int .i64 c1, .int .i64 c2, .int .i64 c3, .int .i64 c4] 36 := r0
    clear ra e0 hB r0
    generalize hwz : (((W.alloc (.cells #[.bool en, .int .i64 wh, .int .i64 at', .int .i64 o1, .int .i64 d1, .bool ww1, .bool ff1, .int .i64 s1, .int .i64 g1, .int .i64 t1, .int .i64 er, .int .i64 sl, .int .i64 ge, .int .i64 st, .int .i64 c1, .int .i64 c2, .int .i64 c3, .int .i64 c4] 36)).alloc (.cells #[.int .i64 op, .int .i64 dl, .bool wt, .bool fo, .int .i64 asl, .int .i64 ag, .int .i64 at2] 25)).alloc (.cells #[.bool false, .int .i64 0, .int .i64 0, .int .i64 0, .int .i64 0, .bool false, .bool false, .int .i64 0, .int .i64 0, .int .i64 0, .int .i64 0, .int .i64 0, .int .i64 0, .int .i64 0, .int .i64 0, .int .i64 0, .int .i64 0, .int .i64 0] 36)) = w1 at *
    clear hwz
    have hk5 : True := trivial
    have hk25 : True := trivial
    refine wp_region_held_drew (S := fun w' => Chg (fun k => k = W.heap.size) w1 w') (by kernel_rfl) (by exact hKd) (fun hHeld => ?_)
    refine take_of (i := 0) (d := some 7) (op := .move (.tmp 1)) (gd := none) (v := (.int .i64 who)) (by kernel_rfl) (by kernel_rfl) (by kernel_rfl) (by kernel_rfl) (fun _ _ _ h => nomatch h.1) (by kernel_rfl) (run_move_of (.tmp 1) (.int .i64 who) (by kernel_rfl)) hHeld ?_
    try simp only [Act.put, List.setIfInBounds_toArray, List.set_cons_zero, List.set_cons_succ]
    refine take_of (i := 1) (d := some 8) (op := .load 25 (.tmp 5)) (gd := none) (v := .agg #[.int .i64 op, .int .i64 dl, .bool wt, .bool fo, .int .i64 asl, .int .i64 ag, .int .i64 at2]) (by kernel_rfl) (by kernel_rfl) (by kernel_rfl) (by kernel_rfl) (fun _ _ _ h => nomatch h.1) (by kernel_rfl) (run_load_row 25 (.tmp 5) (W.heap.size + 1) 25 #[.int .i64 op, .int .i64 dl, .bool wt, .bool fo, .int .i64 asl, .int .i64 ag, .int .i64 at2] _ (by kernel_rfl) Tryz.underlying25 rfl (by kernel_rfl) rA) hHeld ?_
    try simp only [Act.put, List.setIfInBounds_toArray, List.set_cons_zero, List.set_cons_succ]
    refine takeg (i := 2) (d := some 9) (v := ?_) (by kernel_rfl) (by kernel_rfl) (by kernel_rfl) (by kernel_rfl) (fun _ _ _ h => nomatch h.1) (by kernel_rfl) ?_ hHeld ?_
    rotate_left
    · intro w hSw
      try dsimp only at hSw
      go_simp
      try with_reducible rfl
    try simp only [Act.put, List.setIfInBounds_toArray, List.set_cons_zero, List.set_cons_succ]
    have hC0 := hHeld
    have row0 := r1
    generalize w1.drew = v0 at row0 hC0 ⊢
    have row1 : RowAt (v0.setCell ⟨W.heap.size, 0, none⟩ (.bool true)) W.heap.size #[.bool true, .int .i64 wh, .int .i64 at', .int .i64 o1, .int .i64 d1, .bool ww1, .bool ff1, .int .i64 s1, .int .i64 g1, .int .i64 t1, .int .i64 er, .int .i64 sl, .int .i64 ge, .int .i64 st, .int .i64 c1, .int .i64 c2, .int .i64 c3, .int .i64 c4] 36 := row0.setc 0 (.bool true)
    have hC1 : Chg (fun k => k = W.heap.size) w1 (v0.setCell ⟨W.heap.size, 0, none⟩ (.bool true)) := hC0.setCell _ _ (fun _ => rfl)
    refine ready1 (i := 3) (by kernel_rfl) (step_store_cell 4 (.tmp 9) (.const (.bool true)) (by kernel_rfl) W.heap.size 0 (.bool true) (by kernel_rfl) (by kernel_rfl) (fun _ => st_bool row0 (by simp)) hC1 (fun _ => ?_))
    generalize (v0.setCell ⟨W.heap.size, 0, none⟩ (.bool true)) = v1 at row1 hC1 ⊢
    refine takeg (i := 4) (d := some 10) (v := ?_) (by kernel_rfl) (by kernel_rfl) (by kernel_rfl) (by kernel_rfl) (fun _ _ _ h => nomatch h.1) (by kernel_rfl) ?_ hC1 ?_
    rotate_left
    · intro w hSw
      try dsimp only at hSw
      go_simp
      try with_reducible rfl
    try simp only [Act.put, List.setIfInBounds_toArray, List.set_cons_zero, List.set_cons_succ]
    have row2 : RowAt (v1.setCell ⟨W.heap.size, 1, none⟩ (.int .i64 who)) W.heap.size #[.bool true, .int .i64 who, .int .i64 at', .int .i64 o1, .int .i64 d1, .bool ww1, .bool ff1, .int .i64 s1, .int .i64 g1, .int .i64 t1, .int .i64 er, .int .i64 sl, .int .i64 ge, .int .i64 st, .int .i64 c1, .int .i64 c2, .int .i64 c3, .int .i64 c4] 36 := row1.setc 1 (.int .i64 who)
    have hC2 : Chg (fun k => k = W.heap.size) w1 (v1.setCell ⟨W.heap.size, 1, none⟩ (.int .i64 who)) := hC1.setCell _ _ (fun _ => rfl)
    refine ready1 (i := 5) (by kernel_rfl) (step_store_cell 3 (.tmp 10) (.tmp 7) (by kernel_rfl) W.heap.size 1 (.int .i64 who) (by kernel_rfl) (by kernel_rfl) (fun _ => st_int row1 (by simp)) hC2 (fun _ => ?_))
    generalize (v1.setCell ⟨W.heap.size, 1, none⟩ (.int .i64 who)) = v2 at row2 hC2 ⊢
    refine takeg (i := 6) (d := some 11) (v := ?_) (by kernel_rfl) (by kernel_rfl) (by kernel_rfl) (by kernel_rfl) (fun _ _ _ h => nomatch h.1) (by kernel_rfl) ?_ hC2 ?_
    rotate_left
    · intro w hSw
      try dsimp only at hSw
      go_simp
      try with_reducible rfl
    try simp only [Act.put, List.setIfInBounds_toArray, List.set_cons_zero, List.set_cons_succ]
    have row3 : RowAt (v2.setCell ⟨W.heap.size, 2, none⟩ (.int .i64 0)) W.heap.size #[.bool true, .int .i64 who, .int .i64 0, .int .i64 o1, .int .i64 d1, .bool ww1, .bool ff1, .int .i64 s1, .int .i64 g1, .int .i64 t1, .int .i64 er, .int .i64 sl, .int .i64 ge, .int .i64 st, .int .i64 c1, .int .i64 c2, .int .i64 c3, .int .i64 c4] 36 := row2.setc 2 (.int .i64 0)
    have hC3 : Chg (fun k => k = W.heap.size) w1 (v2.setCell ⟨W.heap.size, 2, none⟩ (.int .i64 0)) := hC2.setCell _ _ (fun _ => rfl)
    refine ready1 (i := 7) (by kernel_rfl) (step_store_cell 3 (.tmp 11) (.const (.int .i64 0)) (by kernel_rfl) W.heap.size 2 (.int .i64 0) (by kernel_rfl) (by kernel_rfl) (fun _ => st_int row2 (by simp)) hC3 (fun _ => ?_))
    generalize (v2.setCell ⟨W.heap.size, 2, none⟩ (.int .i64 0)) = v3 at row3 hC3 ⊢
    refine takeg (i := 8) (d := some 12) (v := ?_) (by kernel_rfl) (by kernel_rfl) (by kernel_rfl) (by kernel_rfl) (fun _ _ _ h => nomatch h.1) (by kernel_rfl) ?_ hC3 ?_
    rotate_left
    · intro w hSw
      try dsimp only at hSw
      go_simp
      try with_reducible rfl
    try simp only [Act.put, List.setIfInBounds_toArray, List.set_cons_zero, List.set_cons_succ]
    have row4 : RowAt (v3.setCells W.heap.size 3 #[.int .i64 op, .int .i64 dl, .bool wt, .bool fo, .int .i64 asl, .int .i64 ag, .int .i64 at2].toList) W.heap.size #[.bool true, .int .i64 who, .int .i64 0, .int .i64 op, .int .i64 dl, .bool wt, .bool fo, .int .i64 asl, .int .i64 ag, .int .i64 at2, .int .i64 er, .int .i64 sl, .int .i64 ge, .int .i64 st, .int .i64 c1, .int .i64 c2, .int .i64 c3, .int .i64 c4] 36 := (((((((row3.setc 3 (.int .i64 op)).setc 4 (.int .i64 dl)).setc 5 (.bool wt)).setc 6 (.bool fo)).setc 7 (.int .i64 asl)).setc 8 (.int .i64 ag)).setc 9 (.int .i64 at2))
    have hC4 : Chg (fun k => k = W.heap.size) w1 (v3.setCells W.heap.size 3 #[.int .i64 op, .int .i64 dl, .bool wt, .bool fo, .int .i64 asl, .int .i64 ag, .int .i64 at2].toList) := hC3.trans (chg_setCells _ _ _ _) (fun _ _ h => h)
    refine ready1 (i := 9) (by kernel_rfl) (step_store_mid 25 (.tmp 12) (.tmp 8) (by kernel_rfl) W.heap.size 3 #[.int .i64 op, .int .i64 dl, .bool wt, .bool fo, .int .i64 asl, .int .i64 ag, .int .i64 at2] (by kernel_rfl) (by kernel_rfl) (there_row row3 (by simp)) (by kernel_rfl) (by kernel_rfl) hC4 (fun _ => ?_))
    generalize (v3.setCells W.heap.size 3 #[.int .i64 op, .int .i64 dl, .bool wt, .bool fo, .int .i64 asl, .int .i64 ag, .int .i64 at2].toList) = v4 at row4 hC4 ⊢
    refine wpAnyH_done (by kernel_rfl) ?_ _
    exact ⟨rfl, rfl, row4, hC4⟩
  case rest =>
    rintro e a' wx ⟨rfl, rfl, r9, hC⟩
    have e9 := e0.chg hC (by omega)
    have hBx := hB.trans (hC.below (by simp; omega) (fun k e => by omega))
    clear hC e0 hB ra r0
    obtain ⟨Z, z1, z2⟩ := e9
    go_upto_region 2 with (fail)
    refine wp_region_lit ?_
    refine RowL.wpList_load_row rfl 36 (.tmp 3) rfl W.heap.size _ #[.bool true, .int .i64 who, .int .i64 0, .int .i64 op, .int .i64 dl, .bool wt, .bool fo, .int .i64 asl, .int .i64 ag, .int .i64 at2, .int .i64 er, .int .i64 sl, .int .i64 ge, .int .i64 st, .int .i64 c1, .int .i64 c2, .int .i64 c3, .int .i64 c4] _ rfl r9 Tryz.underlying36 rfl (by kernel_rfl) ?_
    refine RowL.wpList_store_row rfl 36 (.tmp 6) (.tmp 13) rfl (W.heap.size + 1 + 1) _ Z #[.bool true, .int .i64 who, .int .i64 0, .int .i64 op, .int .i64 dl, .bool wt, .bool fo, .int .i64 asl, .int .i64 ag, .int .i64 at2, .int .i64 er, .int .i64 sl, .int .i64 ge, .int .i64 st, .int .i64 c1, .int .i64 c2, .int .i64 c3, .int .i64 c4] rfl rfl z2 z1 (by kernel_rfl) (by simp [Value.oneCell']) ?_
    go_wp2_with fail
    refine bodyPost_ret (results_row rfl _ _ (W.heap.size + 1 + 1) _ _ _ rfl (z2.set _) Tryz.underlying36 rfl (by kernel_rfl)) rfl ?_
    exact ⟨rfl, hBx.trans ((chg_setRow (F := fun k => k = W.heap.size + 1 + 1) (Chg.refl _ _) _ _ (fun _ => rfl)).below hBx.size (fun k e => by omega))⟩
end Go.Proofs.YtpmkgddjgebojaaGreatDoor.Mod

namespace Go.Proofs.YtpmkgddjgebojaaGreatDoor.RowL
open Go.RowKit Hp
theorem results_row3 {P : Program} {fn : Func} {p u v : Tmp} {ty : TypeId} (h : fn.results = #[.cell p ty, .tmp u, .tmp v]) (tmps : Array Value) (w : World) (g : Nat) (t : TypeId) (cs : Array Value) (d : TypeDesc)
    (hp : tmps.getD p undef = .pointer (some ⟨g, 0, none⟩)) (hg : RowAt w g cs t)
    (hu : P.underlying ty = some d) (hd : (match d with | .struct _ | .array _ _ => true | _ => false) = true) (hi : (P.info? ty).map (·.size) = some cs.size) :
    (results fn tmps).run P w = .ok (.tuple #[.agg cs, tmps.getD u undef, tmps.getD v undef]) w := by
  have hp' : tmps[p]?.getD undef = .pointer (some ⟨g, 0, none⟩) := by simpa using hp
  simp only [results, h]
  simp [Result.andThen, hp', asAddr, run_loadVar_row w g t ty cs (0, 0) d hg hu hd hi]
end Go.Proofs.YtpmkgddjgebojaaGreatDoor.RowL
namespace Go.Proofs.YtpmkgddjgebojaaGreatDoor.Mod
set_option linter.unusedVariables false
set_option linter.unusedSimpArgs false
open Go.RowKit Hp Slot RowL Life Find

/-- What is done of what is asked. -/
theorem op_any (a : Ask) (h0 : 0 ≤ a.op) (h7 : a.op ≤ 7) : ∃ (F i : Nat) (lb : Nat → Array Value), (∀ args w, (callFunc F args).run Tryz.prog w = .ok (.enter F args) w) ∧ (∀ n, Instr.findNow (.int .i64) (.int .i64 a.op) (ansT n).toList 0 = some (some (i, .func (.func F) #[] (lb n)))) ∧
    ∀ (W : World) (p : Pl) (m : M) (n : Nat) (who : Int), MAt W p m → Capt W n p.mb who a → m.has who = true → Calls Tryz.prog F (lb n) W (MPost W p (.tuple #[(m.does who a).1.1.val, .bool (m.does who a).1.2]) (m.does who a).2) := by
  have h : a.op = 0 ∨ a.op = 1 ∨ a.op = 2 ∨ a.op = 3 ∨ a.op = 4 ∨ a.op = 5 ∨ a.op = 6 ∨ a.op = 7 := by omega
  rcases h with h | h | h | h | h | h | h | h
  · refine ⟨_, 0, fun n => #[.pointer (some ⟨n, 0, none⟩), .pointer (some ⟨n + 1, 0, none⟩), .pointer (some ⟨n + 2, 0, none⟩)], enters_of Tryz.func66 (by kernel_rfl) rfl, fun n => by rw [h]; rfl, fun W p m n who hA hc hw => ?_⟩
    have e : m.does who a = (m.get who a) := by unfold M.does; simp [h]
    rw [e]
    exact ans1 hA hc hw
  · refine ⟨_, 1, fun n => #[.pointer (some ⟨n, 0, none⟩), .pointer (some ⟨n + 1, 0, none⟩), .pointer (some ⟨n + 2, 0, none⟩)], enters_of Tryz.func68 (by kernel_rfl) rfl, fun n => by rw [h]; rfl, fun W p m n who hA hc hw => ?_⟩
    have e : m.does who a = (((m.give who a false).1, true), (m.give who a false).2) := by unfold M.does; simp [h]
    rw [e]
    exact ans2 hA hc
  · refine ⟨_, 2, fun n => #[.pointer (some ⟨n, 0, none⟩), .pointer (some ⟨n + 1, 0, none⟩), .pointer (some ⟨n + 2, 0, none⟩)], enters_of Tryz.func70 (by kernel_rfl) rfl, fun n => by rw [h]; rfl, fun W p m n who hA hc hw => ?_⟩
    have e : m.does who a = (((m.give who a true).1, true), (m.give who a true).2) := by unfold M.does; simp [h]
    rw [e]
    exact ans3 hA hc
  · refine ⟨_, 3, fun n => #[.pointer (some ⟨n, 0, none⟩), .pointer (some ⟨n + 1, 0, none⟩), .pointer (some ⟨n + 2, 0, none⟩)], enters_of Tryz.func71 (by kernel_rfl) rfl, fun n => by rw [h]; rfl, fun W p m n who hA hc hw => ?_⟩
    have e : m.does who a = (((m.openS who a).1, true), (m.openS who a).2) := by unfold M.does; simp [h]
    rw [e]
    exact ans4 hA hc
  · refine ⟨_, 4, fun n => #[.pointer (some ⟨n, 0, none⟩), .pointer (some ⟨n + 1, 0, none⟩), .pointer (some ⟨n + 2, 0, none⟩)], enters_of Tryz.func73 (by kernel_rfl) rfl, fun n => by rw [h]; rfl, fun W p m n who hA hc hw => ?_⟩
    have e : m.does who a = (((m.shutS who a).1, true), (m.shutS who a).2) := by unfold M.does; simp [h]
    rw [e]
    exact ans5 hA hc
  · refine ⟨_, 5, fun n => #[.pointer (some ⟨n, 0, none⟩), .pointer (some ⟨n + 1, 0, none⟩)], enters_of Tryz.func75 (by kernel_rfl) rfl, fun n => by rw [h]; rfl, fun W p m n who hA hc hw => ?_⟩
    have e : m.does who a = (((m.reap who).1, true), (m.reap who).2) := by unfold M.does; simp [h]
    rw [e]
    exact ans6 hA hc
  · refine ⟨_, 6, fun n => #[.pointer (some ⟨n, 0, none⟩), .pointer (some ⟨n + 2, 0, none⟩)], enters_of Tryz.func77 (by kernel_rfl) rfl, fun n => by rw [h]; rfl, fun W p m n who hA hc hw => ?_⟩
    have e : m.does who a = ((Ev.zero, true), m.close a.force) := by unfold M.does; simp [h]
    rw [e]
    exact ans7 hA hc
  · refine ⟨_, 7, fun n => #[.pointer (some ⟨n, 0, none⟩)], enters_of Tryz.func79 (by kernel_rfl) rfl, fun n => by rw [h]; rfl, fun W p m n who hA hc hw => ?_⟩
    have e : m.does who a = ((m.stats, true), m) := by unfold M.does; simp [h]
    rw [e]
    exact ans8 hA hc

theorem find_no (n : Nat) (k : Int) (h : ¬ (0 ≤ k ∧ k ≤ 7)) : Instr.findNow (.int .i64) (.int .i64 k) (ansT n).toList 0 = some none := by
  have h0 : (k == 0) = false := by simp; omega
  have h1 : (k == 1) = false := by simp; omega
  have h2 : (k == 2) = false := by simp; omega
  have h3 : (k == 3) = false := by simp; omega
  have h4 : (k == 4) = false := by simp; omega
  have h5 : (k == 5) = false := by simp; omega
  have h6 : (k == 6) = false := by simp; omega
  have h7 : (k == 7) = false := by simp; omega
  simp [ansT, Instr.findNow, Instr.sameNow, h0, h1, h2, h3, h4, h5, h6, h7]
theorem zero_fn (W : World) : (zeroValue 89).run Tryz.prog W = .ok .nilFunc W := by kernel_rfl

set_option maxRecDepth 100000 in
set_option maxHeartbeats 8000000 in
theorem m_ask_op {W : World} {p : Pl} {m : M} (h : MAt W p m) (who : Int) (a : Ask) (hop : ¬ (0 ≤ a.op ∧ a.op ≤ 7)) :
    Calls Tryz.prog 14 #[.pointer (some ⟨p.mb, 0, none⟩), .int .i64 who, a.val] W (MPost W p (.tuple #[(m.ask who a).1.1.val, .bool (m.ask who a).1.2.1, .bool (m.ask who a).1.2.2]) (m.ask who a).2) := by
  have hR : RowKit.Hid (m.ask who a = ((Ev.zero, false, false), m)) := Lib.hid (by unfold M.ask M.can; rw [if_neg]; simp; intro h1 h2; exact absurd ⟨h1, h2⟩ hop)
  have HR := Lib.hid hR.out
  generalize m.ask who a = R at *
  clear hR
  obtain ⟨op, dl, wt, fo, sl, ge, st⟩ := a
  simp only at hop
  have HF := Lib.hid (fun n => find_no n op hop)
  clear hop
  have hB : Below W.heap.size W ((W.alloc (.cells #[.int .i64 op, .int .i64 dl, .bool wt, .bool fo, .int .i64 sl, .int .i64 ge, .int .i64 st] 25)).alloc (.cells #[.bool false, .int .i64 0, .int .i64 0, .int .i64 0, .int .i64 0, .bool false, .bool false, .int .i64 0, .int .i64 0, .int .i64 0, .int .i64 0, .int .i64 0, .int .i64 0, .int .i64 0, .int .i64 0, .int .i64 0, .int .i64 0, .int .i64 0] 36)) := ((Below.refl _ _).alloc (Nat.le_refl _) _).alloc (by simp) _
  have r0 : Re W.heap.size ((W.alloc (.cells #[.int .i64 op, .int .i64 dl, .bool wt, .bool fo, .int .i64 sl, .int .i64 ge, .int .i64 st] 25)).alloc (.cells #[.bool false, .int .i64 0, .int .i64 0, .int .i64 0, .int .i64 0, .bool false, .bool false, .int .i64 0, .int .i64 0, .int .i64 0, .int .i64 0, .int .i64 0, .int .i64 0, .int .i64 0, .int .i64 0, .int .i64 0, .int .i64 0, .int .i64 0] 36)) p ((W.alloc (.cells #[.int .i64 op, .int .i64 dl, .bool wt, .bool fo, .int .i64 sl, .int .i64 ge, .int .i64 st] 25)).alloc (.cells #[.bool false, .int .i64 0, .int .i64 0, .int .i64 0, .int .i64 0, .bool false, .bool false, .int .i64 0, .int .i64 0, .int .i64 0, .int .i64 0, .int .i64 0, .int .i64 0, .int .i64 0, .int .i64 0, .int .i64 0, .int .i64 0, .int .i64 0] 36)) p m := Re.begin h hB
  have e0 : ERow ((W.alloc (.cells #[.int .i64 op, .int .i64 dl, .bool wt, .bool fo, .int .i64 sl, .int .i64 ge, .int .i64 st] 25)).alloc (.cells #[.bool false, .int .i64 0, .int .i64 0, .int .i64 0, .int .i64 0, .bool false, .bool false, .int .i64 0, .int .i64 0, .int .i64 0, .int .i64 0, .int .i64 0, .int .i64 0, .int .i64 0, .int .i64 0, .int .i64 0, .int .i64 0, .int .i64 0] 36)) (W.heap.size + 1) := ⟨#[.bool false, .int .i64 0, .int .i64 0, .int .i64 0, .int .i64 0, .bool false, .bool false, .int .i64 0, .int .i64 0, .int .i64 0, .int .i64 0, .int .i64 0, .int .i64 0, .int .i64 0, .int .i64 0, .int .i64 0, .int .i64 0, .int .i64 0], rfl, by have := RowAt.new (W.alloc (.cells #[.int .i64 op, .int .i64 dl, .bool wt, .bool fo, .int .i64 sl, .int .i64 ge, .int .i64 st] 25)) #[.bool false, .int .i64 0, .int .i64 0, .int .i64 0, .int .i64 0, .bool false, .bool false, .int .i64 0, .int .i64 0, .int .i64 0, .int .i64 0, .int .i64 0, .int .i64 0, .int .i64 0, .int .i64 0, .int .i64 0, .int .i64 0, .int .i64 0] 36; simpa using this⟩
  have hg1 : W.heap.size + 1 < ((W.alloc (.cells #[.int .i64 op, .int .i64 dl, .bool wt, .bool fo, .int .i64 sl, .int .i64 ge, .int .i64 st] 25)).alloc (.cells #[.bool false, .int .i64 0, .int .i64 0, .int .i64 0, .int .i64 0, .bool false, .bool false, .int .i64 0, .int .i64 0, .int .i64 0, .int .i64 0, .int .i64 0, .int .i64 0, .int .i64 0, .int .i64 0, .int .i64 0, .int .i64 0, .int .i64 0] 36)).heap.size := by simp
  have hg0 : W.heap.size ≤ W.heap.size + 1 := by omega
  have a0 : RowAt ((W.alloc (.cells #[.int .i64 op, .int .i64 dl, .bool wt, .bool fo, .int .i64 sl, .int .i64 ge, .int .i64 st] 25)).alloc (.cells #[.bool false, .int .i64 0, .int .i64 0, .int .i64 0, .int .i64 0, .bool false, .bool false, .int .i64 0, .int .i64 0, .int .i64 0, .int .i64 0, .int .i64 0, .int .i64 0, .int .i64 0, .int .i64 0, .int .i64 0, .int .i64 0, .int .i64 0] 36)) W.heap.size #[.int .i64 op, .int .i64 dl, .bool wt, .bool fo, .int .i64 sl, .int .i64 ge, .int .i64 st] 25 := heap_alloc2_old W _ _
  clear h
  simp only [Ask.val, Ask.cells]
  go_enter Tryz.func14, Tryz.ntmps14
  go_wp2_with fail
  generalize hwz : ((W.alloc (.cells #[.int .i64 op, .int .i64 dl, .bool wt, .bool fo, .int .i64 sl, .int .i64 ge, .int .i64 st] 25)).alloc (.cells #[.bool false, .int .i64 0, .int .i64 0, .int .i64 0, .int .i64 0, .bool false, .bool false, .int .i64 0, .int .i64 0, .int .i64 0, .int .i64 0, .int .i64 0, .int .i64 0, .int .i64 0, .int .i64 0, .int .i64 0, .int .i64 0, .int .i64 0] 36)) = w1 at *
  clear hwz
  have hKd : Below w1.heap.size w1 w1.drew := (Below.refl _ _).drew
  have LA : ∀ w', Below w1.heap.size w1 w' → RowAt w' W.heap.size #[.int .i64 op, .int .i64 dl, .bool wt, .bool fo, .int .i64 sl, .int .i64 ge, .int .i64 st] 25 := fun w' hb => a0.below hb
  have LA0 : ∀ w', Below w1.heap.size w1 w' → w'.cell? ⟨W.heap.size, 0, none⟩ = some (.int .i64 op) := fun w' hb => (LA w' hb).cell 0
  have hcp := capt w1.drew p.mb who ⟨op, dl, wt, fo, sl, ge, st⟩
  refine wp_region_held_drew (S := fun w' => Below w1.heap.size w1 w') (by kernel_rfl) (by exact hKd) (fun hHeld => ?_)
  refine take_of (i := 0) (d := some 11) (op := .move (.tmp 0)) (gd := none) (v := (.pointer (some ⟨p.mb, 0, none⟩))) (by kernel_rfl) (by kernel_rfl) (by kernel_rfl) (by kernel_rfl) (fun _ _ _ h => h) (by kernel_rfl) (run_move_of (.tmp 0) (.pointer (some ⟨p.mb, 0, none⟩)) (by kernel_rfl)) hHeld ?_
  try simp only [Act.put, List.setIfInBounds_toArray, List.set_cons_zero, List.set_cons_succ]
  refine take_of (i := 1) (d := some 12) (op := .move (.tmp 1)) (gd := none) (v := (.int .i64 who)) (by kernel_rfl) (by kernel_rfl) (by kernel_rfl) (by kernel_rfl) (fun _ _ _ h => h) (by kernel_rfl) (run_move_of (.tmp 1) (.int .i64 who) (by kernel_rfl)) hHeld ?_
  try simp only [Act.put, List.setIfInBounds_toArray, List.set_cons_zero, List.set_cons_succ]
  refine take_of (i := 2) (d := some 13) (op := .load 25 (.tmp 5)) (gd := none) (v := .agg #[.int .i64 op, .int .i64 dl, .bool wt, .bool fo, .int .i64 sl, .int .i64 ge, .int .i64 st]) (by kernel_rfl) (by kernel_rfl) (by kernel_rfl) (by kernel_rfl) (fun _ _ _ h => h) (by kernel_rfl) (run_load_row 25 (.tmp 5) (W.heap.size) 25 #[.int .i64 op, .int .i64 dl, .bool wt, .bool fo, .int .i64 sl, .int .i64 ge, .int .i64 st] _ (by kernel_rfl) Tryz.underlying25 rfl (by kernel_rfl) LA) hHeld ?_
  try simp only [Act.put, List.setIfInBounds_toArray, List.set_cons_zero, List.set_cons_succ]
  refine takeg (i := 4) (d := some 15) (v := ?_) (by kernel_rfl) (by kernel_rfl) (by kernel_rfl) (by kernel_rfl) (fun _ _ _ h => h) (by kernel_rfl) ?_ hHeld ?_
  rotate_left
  · intro w hSw
    try dsimp only at hSw
    go_simp
    try with_reducible rfl
  try simp only [Act.put, List.setIfInBounds_toArray, List.set_cons_zero, List.set_cons_succ]
  refine takeg (i := 5) (d := some 16) (v := ?_) (by kernel_rfl) (by kernel_rfl) (by kernel_rfl) (by kernel_rfl) (fun _ _ _ h => h) (by kernel_rfl) ?_ hHeld ?_
  rotate_left
  · intro w hSw
    try dsimp only at hSw
    go_simp
    try with_reducible rfl
  try simp only [Act.put, List.setIfInBounds_toArray, List.set_cons_zero, List.set_cons_succ]
  refine ready_call (i := 3) (by kernel_rfl) 38 #[.tmp 11, .tmp 12, .tmp 13] #[27, 3, 25] (some 14) none (by kernel_rfl) (by kernel_rfl) #[.pointer (some ⟨p.mb, 0, none⟩), .int .i64 who, .agg #[.int .i64 op, .int .i64 dl, .bool wt, .bool fo, .int .i64 sl, .int .i64 ge, .int .i64 st]] (by kernel_rfl) (enters_of Tryz.func38 (by kernel_rfl) rfl) ?_
  refine (answers_any w1.drew p.mb who ⟨op, dl, wt, fo, sl, ge, st⟩).mono ?_
  rintro e wq' ⟨rfl, rfl⟩
  refine ⟨_, rfl, hKd.trans hcp.2.2, fun hHeld2 => ?_⟩
  try simp only [Act.put, List.setIfInBounds_toArray, List.set_cons_zero, List.set_cons_succ]
  have hHa : Below w1.heap.size w1 (ansW w1.drew p.mb who ⟨op, dl, wt, fo, sl, ge, st⟩) := hKd.trans hcp.2.2
  generalize hwz : ansW w1.drew p.mb who ⟨op, dl, wt, fo, sl, ge, st⟩ = wa at *
  clear hwz hHeld hHeld2 hKd
  have hlk : (Instr.lookup 91 (.map (some (w1.heap.size + 3))) (.int .i64 op) true).run Tryz.prog wa = .ok (.tuple #[.nilFunc, .bool false]) wa := run_lookup_no (P := Tryz.prog) wa _ 91 3 89 _ 8 op .nilFunc Tryz.underlying91 Tryz.underlying3 hcp.2.1 (HF.out _) zero_fn
  have ea := e0.below hHa
  have ra := r0.below hHa
  clear hcp LA LA0 r0 e0 a0
  refine ready1 (i := 6) (by kernel_rfl) (step_run (some 17) (.tuple #[.nilFunc, .bool false]) (by kernel_rfl) (by kernel_rfl) (by go_simp; try rfl) hHa (fun hHeld => ?_))
  try simp only [Act.put, List.setIfInBounds_toArray, List.set_cons_zero, List.set_cons_succ]
  refine takeg (i := 7) (d := some 10) (v := ?_) (by kernel_rfl) (by kernel_rfl) (by kernel_rfl) (by kernel_rfl) (fun _ _ _ h => h) (by kernel_rfl) ?_ hHeld ?_
  rotate_left
  · intro w hSw
    try dsimp only at hSw
    go_simp
    try with_reducible rfl
  try simp only [Act.put, List.setIfInBounds_toArray, List.set_cons_zero, List.set_cons_succ]
  refine takeg (i := 8) (d := some 18) (v := ?_) (by kernel_rfl) (by kernel_rfl) (by kernel_rfl) (by kernel_rfl) (fun _ _ _ h => h) (by kernel_rfl) ?_ hHeld ?_
  rotate_left
  · intro w hSw
    try dsimp only at hSw
    go_simp
    try with_reducible rfl
  try simp only [Act.put, List.setIfInBounds_toArray, List.set_cons_zero, List.set_cons_succ]
  refine takeg (i := 9) (d := some 19) (v := ?_) (by kernel_rfl) (by kernel_rfl) (by kernel_rfl) (by kernel_rfl) (fun _ _ _ h => h) (by kernel_rfl) ?_ hHeld ?_
  rotate_left
  · intro w hSw
    try dsimp only at hSw
    go_simp
    try with_reducible rfl
  try simp only [Act.put, List.setIfInBounds_toArray, List.set_cons_zero, List.set_cons_succ]
  refine takeg (i := 10) (d := some 9) (v := ?_) (by kernel_rfl) (by kernel_rfl) (by kernel_rfl) (by kernel_rfl) (fun _ _ _ h => h) (by kernel_rfl) ?_ hHeld ?_
  rotate_left
  · intro w hSw
    try dsimp only at hSw
    go_simp
    try with_reducible rfl
  try simp only [Act.put, List.setIfInBounds_toArray, List.set_cons_zero, List.set_cons_succ]
  refine takeg (i := 11) (d := some 8) (v := ?_) (by kernel_rfl) (by kernel_rfl) (by kernel_rfl) (by kernel_rfl) (fun _ _ _ h => h) (by kernel_rfl) ?_ hHeld ?_
  rotate_left
  · intro w hSw
    try dsimp only at hSw
    go_simp
    try with_reducible rfl
  try simp only [Act.put, List.setIfInBounds_toArray, List.set_cons_zero, List.set_cons_succ]
  refine wpAnyH_done (by kernel_rfl) ?_ _
  go_upto_region 3 with (fail)
  obtain ⟨Z, z1, z2⟩ := ea
  refine wp_region_lit ?_
  refine RowL.wpList_run rfl Ev.zero.val (by go_simp; try rfl) ?_
  refine RowL.wpList_store_row rfl 36 (.tmp 6) (.tmp 39) rfl (W.heap.size + 1) _ Z Ev.zero.cells rfl rfl z2 z1 (by kernel_rfl) (ev_one _) ?_
  go_wp2_with fail
  refine bodyPost_ret (results_row3 rfl _ _ (W.heap.size + 1) _ _ _ rfl (z2.set _) Tryz.underlying36 rfl (by kernel_rfl)) rfl ?_
  rw [HR.out]
  exact (ra.row hg0 hg1 _).fin hB _


set_option maxRecDepth 100000 in
set_option maxHeartbeats 8000000 in
theorem m_ask_no {W : World} {p : Pl} {m : M} (h : MAt W p m) (who : Int) (a : Ask) (hop : 0 ≤ a.op ∧ a.op ≤ 7) (hw : m.has who = false) :
    Calls Tryz.prog 14 #[.pointer (some ⟨p.mb, 0, none⟩), .int .i64 who, a.val] W (MPost W p (.tuple #[(m.ask who a).1.1.val, .bool (m.ask who a).1.2.1, .bool (m.ask who a).1.2.2]) (m.ask who a).2) := by
  have HR : RowKit.Hid (m.ask who a = ((Ev.zero, false, false), m)) := Lib.hid (by unfold M.ask M.can; rw [if_neg]; simp [hw])
  obtain ⟨F, i, lb, hE, hfind, hcall⟩ := op_any a hop.1 hop.2
  generalize m.ask who a = R at *
  obtain ⟨op, dl, wt, fo, sl, ge, st⟩ := a
  simp only at hop
  have HFI := Lib.hid hfind
  have HCA := Lib.hid hcall
  clear hop hfind hcall
  have hB : Below W.heap.size W ((W.alloc (.cells #[.int .i64 op, .int .i64 dl, .bool wt, .bool fo, .int .i64 sl, .int .i64 ge, .int .i64 st] 25)).alloc (.cells #[.bool false, .int .i64 0, .int .i64 0, .int .i64 0, .int .i64 0, .bool false, .bool false, .int .i64 0, .int .i64 0, .int .i64 0, .int .i64 0, .int .i64 0, .int .i64 0, .int .i64 0, .int .i64 0, .int .i64 0, .int .i64 0, .int .i64 0] 36)) := ((Below.refl _ _).alloc (Nat.le_refl _) _).alloc (by simp) _
  have r0 : Re W.heap.size ((W.alloc (.cells #[.int .i64 op, .int .i64 dl, .bool wt, .bool fo, .int .i64 sl, .int .i64 ge, .int .i64 st] 25)).alloc (.cells #[.bool false, .int .i64 0, .int .i64 0, .int .i64 0, .int .i64 0, .bool false, .bool false, .int .i64 0, .int .i64 0, .int .i64 0, .int .i64 0, .int .i64 0, .int .i64 0, .int .i64 0, .int .i64 0, .int .i64 0, .int .i64 0, .int .i64 0] 36)) p ((W.alloc (.cells #[.int .i64 op, .int .i64 dl, .bool wt, .bool fo, .int .i64 sl, .int .i64 ge, .int .i64 st] 25)).alloc (.cells #[.bool false, .int .i64 0, .int .i64 0, .int .i64 0, .int .i64 0, .bool false, .bool false, .int .i64 0, .int .i64 0, .int .i64 0, .int .i64 0, .int .i64 0, .int .i64 0, .int .i64 0, .int .i64 0, .int .i64 0, .int .i64 0, .int .i64 0] 36)) p m := Re.begin h hB
  have e0 : ERow ((W.alloc (.cells #[.int .i64 op, .int .i64 dl, .bool wt, .bool fo, .int .i64 sl, .int .i64 ge, .int .i64 st] 25)).alloc (.cells #[.bool false, .int .i64 0, .int .i64 0, .int .i64 0, .int .i64 0, .bool false, .bool false, .int .i64 0, .int .i64 0, .int .i64 0, .int .i64 0, .int .i64 0, .int .i64 0, .int .i64 0, .int .i64 0, .int .i64 0, .int .i64 0, .int .i64 0] 36)) (W.heap.size + 1) := ⟨#[.bool false, .int .i64 0, .int .i64 0, .int .i64 0, .int .i64 0, .bool false, .bool false, .int .i64 0, .int .i64 0, .int .i64 0, .int .i64 0, .int .i64 0, .int .i64 0, .int .i64 0, .int .i64 0, .int .i64 0, .int .i64 0, .int .i64 0], rfl, by have := RowAt.new (W.alloc (.cells #[.int .i64 op, .int .i64 dl, .bool wt, .bool fo, .int .i64 sl, .int .i64 ge, .int .i64 st] 25)) #[.bool false, .int .i64 0, .int .i64 0, .int .i64 0, .int .i64 0, .bool false, .bool false, .int .i64 0, .int .i64 0, .int .i64 0, .int .i64 0, .int .i64 0, .int .i64 0, .int .i64 0, .int .i64 0, .int .i64 0, .int .i64 0, .int .i64 0] 36; simpa using this⟩
  have hg1 : W.heap.size + 1 < ((W.alloc (.cells #[.int .i64 op, .int .i64 dl, .bool wt, .bool fo, .int .i64 sl, .int .i64 ge, .int .i64 st] 25)).alloc (.cells #[.bool false, .int .i64 0, .int .i64 0, .int .i64 0, .int .i64 0, .bool false, .bool false, .int .i64 0, .int .i64 0, .int .i64 0, .int .i64 0, .int .i64 0, .int .i64 0, .int .i64 0, .int .i64 0, .int .i64 0, .int .i64 0, .int .i64 0] 36)).heap.size := by simp
  have hg0 : W.heap.size ≤ W.heap.size + 1 := by omega
  have a0 : RowAt ((W.alloc (.cells #[.int .i64 op, .int .i64 dl, .bool wt, .bool fo, .int .i64 sl, .int .i64 ge, .int .i64 st] 25)).alloc (.cells #[.bool false, .int .i64 0, .int .i64 0, .int .i64 0, .int .i64 0, .bool false, .bool false, .int .i64 0, .int .i64 0, .int .i64 0, .int .i64 0, .int .i64 0, .int .i64 0, .int .i64 0, .int .i64 0, .int .i64 0, .int .i64 0, .int .i64 0] 36)) W.heap.size #[.int .i64 op, .int .i64 dl, .bool wt, .bool fo, .int .i64 sl, .int .i64 ge, .int .i64 st] 25 := heap_alloc2_old W _ _
  clear h
  simp only [Ask.val, Ask.cells]
  go_enter Tryz.func14, Tryz.ntmps14
  go_wp2_with fail
  generalize hwz : ((W.alloc (.cells #[.int .i64 op, .int .i64 dl, .bool wt, .bool fo, .int .i64 sl, .int .i64 ge, .int .i64 st] 25)).alloc (.cells #[.bool false, .int .i64 0, .int .i64 0, .int .i64 0, .int .i64 0, .bool false, .bool false, .int .i64 0, .int .i64 0, .int .i64 0, .int .i64 0, .int .i64 0, .int .i64 0, .int .i64 0, .int .i64 0, .int .i64 0, .int .i64 0, .int .i64 0] 36)) = w1 at *
  clear hwz
  have hKd : Below w1.heap.size w1 w1.drew := (Below.refl _ _).drew
  have LA : ∀ w', Below w1.heap.size w1 w' → RowAt w' W.heap.size #[.int .i64 op, .int .i64 dl, .bool wt, .bool fo, .int .i64 sl, .int .i64 ge, .int .i64 st] 25 := fun w' hb => a0.below hb
  have LA0 : ∀ w', Below w1.heap.size w1 w' → w'.cell? ⟨W.heap.size, 0, none⟩ = some (.int .i64 op) := fun w' hb => (LA w' hb).cell 0
  have hcp := capt w1.drew p.mb who ⟨op, dl, wt, fo, sl, ge, st⟩
  refine wp_region_held_drew (S := fun w' => Below w1.heap.size w1 w') (by kernel_rfl) (by exact hKd) (fun hHeld => ?_)
  refine take_of (i := 0) (d := some 11) (op := .move (.tmp 0)) (gd := none) (v := (.pointer (some ⟨p.mb, 0, none⟩))) (by kernel_rfl) (by kernel_rfl) (by kernel_rfl) (by kernel_rfl) (fun _ _ _ h => h) (by kernel_rfl) (run_move_of (.tmp 0) (.pointer (some ⟨p.mb, 0, none⟩)) (by kernel_rfl)) hHeld ?_
  try simp only [Act.put, List.setIfInBounds_toArray, List.set_cons_zero, List.set_cons_succ]
  refine take_of (i := 1) (d := some 12) (op := .move (.tmp 1)) (gd := none) (v := (.int .i64 who)) (by kernel_rfl) (by kernel_rfl) (by kernel_rfl) (by kernel_rfl) (fun _ _ _ h => h) (by kernel_rfl) (run_move_of (.tmp 1) (.int .i64 who) (by kernel_rfl)) hHeld ?_
  try simp only [Act.put, List.setIfInBounds_toArray, List.set_cons_zero, List.set_cons_succ]
  refine take_of (i := 2) (d := some 13) (op := .load 25 (.tmp 5)) (gd := none) (v := .agg #[.int .i64 op, .int .i64 dl, .bool wt, .bool fo, .int .i64 sl, .int .i64 ge, .int .i64 st]) (by kernel_rfl) (by kernel_rfl) (by kernel_rfl) (by kernel_rfl) (fun _ _ _ h => h) (by kernel_rfl) (run_load_row 25 (.tmp 5) (W.heap.size) 25 #[.int .i64 op, .int .i64 dl, .bool wt, .bool fo, .int .i64 sl, .int .i64 ge, .int .i64 st] _ (by kernel_rfl) Tryz.underlying25 rfl (by kernel_rfl) LA) hHeld ?_
  try simp only [Act.put, List.setIfInBounds_toArray, List.set_cons_zero, List.set_cons_succ]
  refine takeg (i := 4) (d := some 15) (v := ?_) (by kernel_rfl) (by kernel_rfl) (by kernel_rfl) (by kernel_rfl) (fun _ _ _ h => h) (by kernel_rfl) ?_ hHeld ?_
  rotate_left
  · intro w hSw
    try dsimp only at hSw
    go_simp
    try with_reducible rfl
  try simp only [Act.put, List.setIfInBounds_toArray, List.set_cons_zero, List.set_cons_succ]
  refine takeg (i := 5) (d := some 16) (v := ?_) (by kernel_rfl) (by kernel_rfl) (by kernel_rfl) (by kernel_rfl) (fun _ _ _ h => h) (by kernel_rfl) ?_ hHeld ?_
  rotate_left
  · intro w hSw
    try dsimp only at hSw
    go_simp
    try with_reducible rfl
  try simp only [Act.put, List.setIfInBounds_toArray, List.set_cons_zero, List.set_cons_succ]
  refine ready_call (i := 3) (by kernel_rfl) 38 #[.tmp 11, .tmp 12, .tmp 13] #[27, 3, 25] (some 14) none (by kernel_rfl) (by kernel_rfl) #[.pointer (some ⟨p.mb, 0, none⟩), .int .i64 who, .agg #[.int .i64 op, .int .i64 dl, .bool wt, .bool fo, .int .i64 sl, .int .i64 ge, .int .i64 st]] (by kernel_rfl) (enters_of Tryz.func38 (by kernel_rfl) rfl) ?_
  refine (answers_any w1.drew p.mb who ⟨op, dl, wt, fo, sl, ge, st⟩).mono ?_
  rintro e wq' ⟨rfl, rfl⟩
  refine ⟨_, rfl, hKd.trans hcp.2.2, fun hHeld2 => ?_⟩
  try simp only [Act.put, List.setIfInBounds_toArray, List.set_cons_zero, List.set_cons_succ]
  have hHa : Below w1.heap.size w1 (ansW w1.drew p.mb who ⟨op, dl, wt, fo, sl, ge, st⟩) := hKd.trans hcp.2.2
  generalize hwz : ansW w1.drew p.mb who ⟨op, dl, wt, fo, sl, ge, st⟩ = wa at *
  clear hwz hHeld hHeld2 hKd
  have hlk : (Instr.lookup 91 (.map (some (w1.heap.size + 3))) (.int .i64 op) true).run Tryz.prog wa = .ok (.tuple #[.func (.func F) #[] (lb w1.heap.size), .bool true]) wa := run_lookup_is (P := Tryz.prog) wa _ 91 3 89 _ 8 op i _ Tryz.underlying91 Tryz.underlying3 hcp.2.1 (HFI.out _)
  have ea := e0.below hHa
  have ra := r0.below hHa
  have aa := a0.below hHa
  have hcap : Capt wa w1.heap.size p.mb who ⟨op, dl, wt, fo, sl, ge, st⟩ := hcp.1
  have hhas := m_has ra.at' who
  clear hcp LA LA0 r0 e0 a0
  refine ready1 (i := 6) (by kernel_rfl) (step_run (some 17) (.tuple #[.func (.func F) #[] (lb w1.heap.size), .bool true]) (by kernel_rfl) (by kernel_rfl) (by go_simp; try rfl) hHa (fun hHeld => ?_))
  try simp only [Act.put, List.setIfInBounds_toArray, List.set_cons_zero, List.set_cons_succ]
  refine takeg (i := 7) (d := some 10) (v := ?_) (by kernel_rfl) (by kernel_rfl) (by kernel_rfl) (by kernel_rfl) (fun _ _ _ h => h) (by kernel_rfl) ?_ hHeld ?_
  rotate_left
  · intro w hSw
    try dsimp only at hSw
    go_simp
    try with_reducible rfl
  try simp only [Act.put, List.setIfInBounds_toArray, List.set_cons_zero, List.set_cons_succ]
  refine takeg (i := 8) (d := some 18) (v := ?_) (by kernel_rfl) (by kernel_rfl) (by kernel_rfl) (by kernel_rfl) (fun _ _ _ h => h) (by kernel_rfl) ?_ hHeld ?_
  rotate_left
  · intro w hSw
    try dsimp only at hSw
    go_simp
    try with_reducible rfl
  try simp only [Act.put, List.setIfInBounds_toArray, List.set_cons_zero, List.set_cons_succ]
  refine takeg (i := 9) (d := some 19) (v := ?_) (by kernel_rfl) (by kernel_rfl) (by kernel_rfl) (by kernel_rfl) (fun _ _ _ h => h) (by kernel_rfl) ?_ hHeld ?_
  rotate_left
  · intro w hSw
    try dsimp only at hSw
    go_simp
    try with_reducible rfl
  try simp only [Act.put, List.setIfInBounds_toArray, List.set_cons_zero, List.set_cons_succ]
  refine takeg (i := 10) (d := some 9) (v := ?_) (by kernel_rfl) (by kernel_rfl) (by kernel_rfl) (by kernel_rfl) (fun _ _ _ h => h) (by kernel_rfl) ?_ hHeld ?_
  rotate_left
  · intro w hSw
    try dsimp only at hSw
    go_simp
    try with_reducible rfl
  try simp only [Act.put, List.setIfInBounds_toArray, List.set_cons_zero, List.set_cons_succ]
  refine takeg (i := 11) (d := some 8) (v := ?_) (by kernel_rfl) (by kernel_rfl) (by kernel_rfl) (by kernel_rfl) (fun _ _ _ h => h) (by kernel_rfl) ?_ hHeld ?_
  rotate_left
  · intro w hSw
    try dsimp only at hSw
    go_simp
    try with_reducible rfl
  try simp only [Act.put, List.setIfInBounds_toArray, List.set_cons_zero, List.set_cons_succ]
  refine wpAnyH_done (by kernel_rfl) ?_ _
  rw [hw] at hhas
  clear hlk hcap aa hw
  go_wp2_with fail
  refine hhas.mono ?_
  rintro e w' ⟨rfl, rfl⟩
  clear hhas
  go_upto_region 3 with (fail)
  obtain ⟨Z, z1, z2⟩ := ea
  refine wp_region_lit ?_
  refine RowL.wpList_run rfl Ev.zero.val (by go_simp; try rfl) ?_
  refine RowL.wpList_store_row rfl 36 (.tmp 6) (.tmp 39) rfl (W.heap.size + 1) _ Z Ev.zero.cells rfl rfl z2 z1 (by kernel_rfl) (ev_one _) ?_
  go_wp2_with fail
  refine bodyPost_ret (results_row3 rfl _ _ (W.heap.size + 1) _ _ _ rfl (z2.set _) Tryz.underlying36 rfl (by kernel_rfl)) rfl ?_
  rw [HR.out]
  exact (ra.row hg0 hg1 _).fin hB _

set_option maxRecDepth 100000 in
set_option maxHeartbeats 8000000 in
theorem m_ask_busy {W : World} {p : Pl} {m : M} (h : MAt W p m) (n : Nat) (a : Ask) (hop : 0 ≤ a.op ∧ a.op ≤ 7) (hw : m.has (n : Int) = true) (hb : (m.worker (n : Int)).at' ≠ 0) :
    Calls Tryz.prog 14 #[.pointer (some ⟨p.mb, 0, none⟩), .int .i64 (n : Int), a.val] W (MPost W p (.tuple #[(m.ask (n : Int) a).1.1.val, .bool (m.ask (n : Int) a).1.2.1, .bool (m.ask (n : Int) a).1.2.2]) (m.ask (n : Int) a).2) := by
  have HR : RowKit.Hid (m.ask (n : Int) a = ((Ev.zero, false, false), m)) := Lib.hid (by unfold M.ask M.can; rw [if_neg]; simp [hb])
  have hnl : n < m.ks.length := by simp [M.has] at hw; omega
  obtain ⟨k0, hk0⟩ : ∃ k, m.ks[n]? = some k := ⟨_, List.getElem?_eq_getElem hnl⟩
  have hwk : m.worker n = k0 := by unfold M.worker; simp [hk0]
  rw [hwk] at hb
  clear hwk
  obtain ⟨F, i, lb, hE, hfind, hcall⟩ := op_any a hop.1 hop.2
  generalize m.ask (n : Int) a = R at *
  obtain ⟨op, dl, wt, fo, sl, ge, st⟩ := a
  simp only at hop
  have HFI := Lib.hid hfind
  have HCA := Lib.hid hcall
  clear hop hfind hcall
  have hB : Below W.heap.size W ((W.alloc (.cells #[.int .i64 op, .int .i64 dl, .bool wt, .bool fo, .int .i64 sl, .int .i64 ge, .int .i64 st] 25)).alloc (.cells #[.bool false, .int .i64 0, .int .i64 0, .int .i64 0, .int .i64 0, .bool false, .bool false, .int .i64 0, .int .i64 0, .int .i64 0, .int .i64 0, .int .i64 0, .int .i64 0, .int .i64 0, .int .i64 0, .int .i64 0, .int .i64 0, .int .i64 0] 36)) := ((Below.refl _ _).alloc (Nat.le_refl _) _).alloc (by simp) _
  have r0 : Re W.heap.size ((W.alloc (.cells #[.int .i64 op, .int .i64 dl, .bool wt, .bool fo, .int .i64 sl, .int .i64 ge, .int .i64 st] 25)).alloc (.cells #[.bool false, .int .i64 0, .int .i64 0, .int .i64 0, .int .i64 0, .bool false, .bool false, .int .i64 0, .int .i64 0, .int .i64 0, .int .i64 0, .int .i64 0, .int .i64 0, .int .i64 0, .int .i64 0, .int .i64 0, .int .i64 0, .int .i64 0] 36)) p ((W.alloc (.cells #[.int .i64 op, .int .i64 dl, .bool wt, .bool fo, .int .i64 sl, .int .i64 ge, .int .i64 st] 25)).alloc (.cells #[.bool false, .int .i64 0, .int .i64 0, .int .i64 0, .int .i64 0, .bool false, .bool false, .int .i64 0, .int .i64 0, .int .i64 0, .int .i64 0, .int .i64 0, .int .i64 0, .int .i64 0, .int .i64 0, .int .i64 0, .int .i64 0, .int .i64 0] 36)) p m := Re.begin h hB
  have e0 : ERow ((W.alloc (.cells #[.int .i64 op, .int .i64 dl, .bool wt, .bool fo, .int .i64 sl, .int .i64 ge, .int .i64 st] 25)).alloc (.cells #[.bool false, .int .i64 0, .int .i64 0, .int .i64 0, .int .i64 0, .bool false, .bool false, .int .i64 0, .int .i64 0, .int .i64 0, .int .i64 0, .int .i64 0, .int .i64 0, .int .i64 0, .int .i64 0, .int .i64 0, .int .i64 0, .int .i64 0] 36)) (W.heap.size + 1) := ⟨#[.bool false, .int .i64 0, .int .i64 0, .int .i64 0, .int .i64 0, .bool false, .bool false, .int .i64 0, .int .i64 0, .int .i64 0, .int .i64 0, .int .i64 0, .int .i64 0, .int .i64 0, .int .i64 0, .int .i64 0, .int .i64 0, .int .i64 0], rfl, by have := RowAt.new (W.alloc (.cells #[.int .i64 op, .int .i64 dl, .bool wt, .bool fo, .int .i64 sl, .int .i64 ge, .int .i64 st] 25)) #[.bool false, .int .i64 0, .int .i64 0, .int .i64 0, .int .i64 0, .bool false, .bool false, .int .i64 0, .int .i64 0, .int .i64 0, .int .i64 0, .int .i64 0, .int .i64 0, .int .i64 0, .int .i64 0, .int .i64 0, .int .i64 0, .int .i64 0] 36; simpa using this⟩
  have hg1 : W.heap.size + 1 < ((W.alloc (.cells #[.int .i64 op, .int .i64 dl, .bool wt, .bool fo, .int .i64 sl, .int .i64 ge, .int .i64 st] 25)).alloc (.cells #[.bool false, .int .i64 0, .int .i64 0, .int .i64 0, .int .i64 0, .bool false, .bool false, .int .i64 0, .int .i64 0, .int .i64 0, .int .i64 0, .int .i64 0, .int .i64 0, .int .i64 0, .int .i64 0, .int .i64 0, .int .i64 0, .int .i64 0] 36)).heap.size := by simp
  have hg0 : W.heap.size ≤ W.heap.size + 1 := by omega
  have a0 : RowAt ((W.alloc (.cells #[.int .i64 op, .int .i64 dl, .bool wt, .bool fo, .int .i64 sl, .int .i64 ge, .int .i64 st] 25)).alloc (.cells #[.bool false, .int .i64 0, .int .i64 0, .int .i64 0, .int .i64 0, .bool false, .bool false, .int .i64 0, .int .i64 0, .int .i64 0, .int .i64 0, .int .i64 0, .int .i64 0, .int .i64 0, .int .i64 0, .int .i64 0, .int .i64 0, .int .i64 0] 36)) W.heap.size #[.int .i64 op, .int .i64 dl, .bool wt, .bool fo, .int .i64 sl, .int .i64 ge, .int .i64 st] 25 := heap_alloc2_old W _ _
  clear h
  simp only [Ask.val, Ask.cells]
  go_enter Tryz.func14, Tryz.ntmps14
  go_wp2_with fail
  generalize hwz : ((W.alloc (.cells #[.int .i64 op, .int .i64 dl, .bool wt, .bool fo, .int .i64 sl, .int .i64 ge, .int .i64 st] 25)).alloc (.cells #[.bool false, .int .i64 0, .int .i64 0, .int .i64 0, .int .i64 0, .bool false, .bool false, .int .i64 0, .int .i64 0, .int .i64 0, .int .i64 0, .int .i64 0, .int .i64 0, .int .i64 0, .int .i64 0, .int .i64 0, .int .i64 0, .int .i64 0] 36)) = w1 at *
  clear hwz
  have hKd : Below w1.heap.size w1 w1.drew := (Below.refl _ _).drew
  have LA : ∀ w', Below w1.heap.size w1 w' → RowAt w' W.heap.size #[.int .i64 op, .int .i64 dl, .bool wt, .bool fo, .int .i64 sl, .int .i64 ge, .int .i64 st] 25 := fun w' hb => a0.below hb
  have LA0 : ∀ w', Below w1.heap.size w1 w' → w'.cell? ⟨W.heap.size, 0, none⟩ = some (.int .i64 op) := fun w' hb => (LA w' hb).cell 0
  have hcp := capt w1.drew p.mb (n : Int) ⟨op, dl, wt, fo, sl, ge, st⟩
  refine wp_region_held_drew (S := fun w' => Below w1.heap.size w1 w') (by kernel_rfl) (by exact hKd) (fun hHeld => ?_)
  refine take_of (i := 0) (d := some 11) (op := .move (.tmp 0)) (gd := none) (v := (.pointer (some ⟨p.mb, 0, none⟩))) (by kernel_rfl) (by kernel_rfl) (by kernel_rfl) (by kernel_rfl) (fun _ _ _ h => h) (by kernel_rfl) (run_move_of (.tmp 0) (.pointer (some ⟨p.mb, 0, none⟩)) (by kernel_rfl)) hHeld ?_
  try simp only [Act.put, List.setIfInBounds_toArray, List.set_cons_zero, List.set_cons_succ]
  refine take_of (i := 1) (d := some 12) (op := .move (.tmp 1)) (gd := none) (v := (.int .i64 (n : Int))) (by kernel_rfl) (by kernel_rfl) (by kernel_rfl) (by kernel_rfl) (fun _ _ _ h => h) (by kernel_rfl) (run_move_of (.tmp 1) (.int .i64 (n : Int)) (by kernel_rfl)) hHeld ?_
  try simp only [Act.put, List.setIfInBounds_toArray, List.set_cons_zero, List.set_cons_succ]
  refine take_of (i := 2) (d := some 13) (op := .load 25 (.tmp 5)) (gd := none) (v := .agg #[.int .i64 op, .int .i64 dl, .bool wt, .bool fo, .int .i64 sl, .int .i64 ge, .int .i64 st]) (by kernel_rfl) (by kernel_rfl) (by kernel_rfl) (by kernel_rfl) (fun _ _ _ h => h) (by kernel_rfl) (run_load_row 25 (.tmp 5) (W.heap.size) 25 #[.int .i64 op, .int .i64 dl, .bool wt, .bool fo, .int .i64 sl, .int .i64 ge, .int .i64 st] _ (by kernel_rfl) Tryz.underlying25 rfl (by kernel_rfl) LA) hHeld ?_
  try simp only [Act.put, List.setIfInBounds_toArray, List.set_cons_zero, List.set_cons_succ]
  refine takeg (i := 4) (d := some 15) (v := ?_) (by kernel_rfl) (by kernel_rfl) (by kernel_rfl) (by kernel_rfl) (fun _ _ _ h => h) (by kernel_rfl) ?_ hHeld ?_
  rotate_left
  · intro w hSw
    try dsimp only at hSw
    go_simp
    try with_reducible rfl
  try simp only [Act.put, List.setIfInBounds_toArray, List.set_cons_zero, List.set_cons_succ]
  refine takeg (i := 5) (d := some 16) (v := ?_) (by kernel_rfl) (by kernel_rfl) (by kernel_rfl) (by kernel_rfl) (fun _ _ _ h => h) (by kernel_rfl) ?_ hHeld ?_
  rotate_left
  · intro w hSw
    try dsimp only at hSw
    go_simp
    try with_reducible rfl
  try simp only [Act.put, List.setIfInBounds_toArray, List.set_cons_zero, List.set_cons_succ]
  refine ready_call (i := 3) (by kernel_rfl) 38 #[.tmp 11, .tmp 12, .tmp 13] #[27, 3, 25] (some 14) none (by kernel_rfl) (by kernel_rfl) #[.pointer (some ⟨p.mb, 0, none⟩), .int .i64 (n : Int), .agg #[.int .i64 op, .int .i64 dl, .bool wt, .bool fo, .int .i64 sl, .int .i64 ge, .int .i64 st]] (by kernel_rfl) (enters_of Tryz.func38 (by kernel_rfl) rfl) ?_
  refine (answers_any w1.drew p.mb (n : Int) ⟨op, dl, wt, fo, sl, ge, st⟩).mono ?_
  rintro e wq' ⟨rfl, rfl⟩
  refine ⟨_, rfl, hKd.trans hcp.2.2, fun hHeld2 => ?_⟩
  try simp only [Act.put, List.setIfInBounds_toArray, List.set_cons_zero, List.set_cons_succ]
  have hHa : Below w1.heap.size w1 (ansW w1.drew p.mb (n : Int) ⟨op, dl, wt, fo, sl, ge, st⟩) := hKd.trans hcp.2.2
  generalize hwz : ansW w1.drew p.mb (n : Int) ⟨op, dl, wt, fo, sl, ge, st⟩ = wa at *
  clear hwz hHeld hHeld2 hKd
  have hlk : (Instr.lookup 91 (.map (some (w1.heap.size + 3))) (.int .i64 op) true).run Tryz.prog wa = .ok (.tuple #[.func (.func F) #[] (lb w1.heap.size), .bool true]) wa := run_lookup_is (P := Tryz.prog) wa _ 91 3 89 _ 8 op i _ Tryz.underlying91 Tryz.underlying3 hcp.2.1 (HFI.out _)
  have ea := e0.below hHa
  have ra := r0.below hHa
  have aa := a0.below hHa
  have hcap : Capt wa w1.heap.size p.mb (n : Int) ⟨op, dl, wt, fo, sl, ge, st⟩ := hcp.1
  have hhas := m_has ra.at' (n : Int)
  clear hcp LA LA0 r0 e0 a0
  refine ready1 (i := 6) (by kernel_rfl) (step_run (some 17) (.tuple #[.func (.func F) #[] (lb w1.heap.size), .bool true]) (by kernel_rfl) (by kernel_rfl) (by go_simp; try rfl) hHa (fun hHeld => ?_))
  try simp only [Act.put, List.setIfInBounds_toArray, List.set_cons_zero, List.set_cons_succ]
  refine takeg (i := 7) (d := some 10) (v := ?_) (by kernel_rfl) (by kernel_rfl) (by kernel_rfl) (by kernel_rfl) (fun _ _ _ h => h) (by kernel_rfl) ?_ hHeld ?_
  rotate_left
  · intro w hSw
    try dsimp only at hSw
    go_simp
    try with_reducible rfl
  try simp only [Act.put, List.setIfInBounds_toArray, List.set_cons_zero, List.set_cons_succ]
  refine takeg (i := 8) (d := some 18) (v := ?_) (by kernel_rfl) (by kernel_rfl) (by kernel_rfl) (by kernel_rfl) (fun _ _ _ h => h) (by kernel_rfl) ?_ hHeld ?_
  rotate_left
  · intro w hSw
    try dsimp only at hSw
    go_simp
    try with_reducible rfl
  try simp only [Act.put, List.setIfInBounds_toArray, List.set_cons_zero, List.set_cons_succ]
  refine takeg (i := 9) (d := some 19) (v := ?_) (by kernel_rfl) (by kernel_rfl) (by kernel_rfl) (by kernel_rfl) (fun _ _ _ h => h) (by kernel_rfl) ?_ hHeld ?_
  rotate_left
  · intro w hSw
    try dsimp only at hSw
    go_simp
    try with_reducible rfl
  try simp only [Act.put, List.setIfInBounds_toArray, List.set_cons_zero, List.set_cons_succ]
  refine takeg (i := 10) (d := some 9) (v := ?_) (by kernel_rfl) (by kernel_rfl) (by kernel_rfl) (by kernel_rfl) (fun _ _ _ h => h) (by kernel_rfl) ?_ hHeld ?_
  rotate_left
  · intro w hSw
    try dsimp only at hSw
    go_simp
    try with_reducible rfl
  try simp only [Act.put, List.setIfInBounds_toArray, List.set_cons_zero, List.set_cons_succ]
  refine takeg (i := 11) (d := some 8) (v := ?_) (by kernel_rfl) (by kernel_rfl) (by kernel_rfl) (by kernel_rfl) (fun _ _ _ h => h) (by kernel_rfl) ?_ hHeld ?_
  rotate_left
  · intro w hSw
    try dsimp only at hSw
    go_simp
    try with_reducible rfl
  try simp only [Act.put, List.setIfInBounds_toArray, List.set_cons_zero, List.set_cons_succ]
  refine wpAnyH_done (by kernel_rfl) ?_ _
  rw [hw] at hhas
  have c6 := ra.at'.hd.c6
  have ck := (ra.at'.works.get hk0).1
  have hnk := ra.at'.ok.nk
  have b0 : (0 : Int) ≤ (n : Int) := by omega
  have b1 : (n : Int) < (m.ks.length : Int) := by omega
  have b2 : (n : Int) ≤ (m.ks.length : Int) - 1 := by omega
  clear hk0
  have hb' : (k0.at' != 0) = true := by simp [hb]
  clear hlk hcap aa hw hb
  go_wp2_with fail
  refine hhas.mono ?_
  rintro e w' ⟨rfl, rfl⟩
  clear hhas
  go_upto_region 3 with (fail)
  obtain ⟨Z, z1, z2⟩ := ea
  refine wp_region_lit ?_
  refine RowL.wpList_run rfl Ev.zero.val (by go_simp; try rfl) ?_
  refine RowL.wpList_store_row rfl 36 (.tmp 6) (.tmp 39) rfl (W.heap.size + 1) _ Z Ev.zero.cells rfl rfl z2 z1 (by kernel_rfl) (ev_one _) ?_
  go_wp2_with fail
  refine bodyPost_ret (results_row3 rfl _ _ (W.heap.size + 1) _ _ _ rfl (z2.set _) Tryz.underlying36 rfl (by kernel_rfl)) rfl ?_
  rw [HR.out]
  exact (ra.row hg0 hg1 _).fin hB _

set_option maxRecDepth 100000 in
set_option maxHeartbeats 8000000 in
theorem m_ask_yes {W : World} {p : Pl} {m : M} (h : MAt W p m) (n : Nat) (a : Ask) (hop : 0 ≤ a.op ∧ a.op ≤ 7) (hw : m.has (n : Int) = true) (hb : (m.worker (n : Int)).at' = 0) :
    Calls Tryz.prog 14 #[.pointer (some ⟨p.mb, 0, none⟩), .int .i64 (n : Int), a.val] W (MPost W p (.tuple #[(m.ask (n : Int) a).1.1.val, .bool (m.ask (n : Int) a).1.2.1, .bool (m.ask (n : Int) a).1.2.2]) (m.ask (n : Int) a).2) := by
  have HR : RowKit.Hid (m.ask (n : Int) a = if (m.does (n : Int) a).1.2 then ((M.answered (m.does (n : Int) a).1.1 (n : Int) a, true, true), (m.does (n : Int) a).2.tidy) else ((Ev.zero, false, true), (m.does (n : Int) a).2.tidy)) := Lib.hid (by unfold M.ask M.can; rw [if_pos]; simp [hw, hb, hop])
  have hnl : n < m.ks.length := by simp [M.has] at hw; omega
  obtain ⟨k0, hk0⟩ : ∃ k, m.ks[n]? = some k := ⟨_, List.getElem?_eq_getElem hnl⟩
  have hwk : m.worker n = k0 := by unfold M.worker; simp [hk0]
  rw [hwk] at hb
  clear hwk
  obtain ⟨F, i, lb, hE, hfind, hcall⟩ := op_any a hop.1 hop.2
  generalize m.ask (n : Int) a = R at *
  obtain ⟨op, dl, wt, fo, sl, ge, st⟩ := a
  simp only at hop
  have HFI := Lib.hid hfind
  have HCA := Lib.hid hcall
  clear hop hfind hcall
  have hB : Below W.heap.size W ((W.alloc (.cells #[.int .i64 op, .int .i64 dl, .bool wt, .bool fo, .int .i64 sl, .int .i64 ge, .int .i64 st] 25)).alloc (.cells #[.bool false, .int .i64 0, .int .i64 0, .int .i64 0, .int .i64 0, .bool false, .bool false, .int .i64 0, .int .i64 0, .int .i64 0, .int .i64 0, .int .i64 0, .int .i64 0, .int .i64 0, .int .i64 0, .int .i64 0, .int .i64 0, .int .i64 0] 36)) := ((Below.refl _ _).alloc (Nat.le_refl _) _).alloc (by simp) _
  have r0 : Re W.heap.size ((W.alloc (.cells #[.int .i64 op, .int .i64 dl, .bool wt, .bool fo, .int .i64 sl, .int .i64 ge, .int .i64 st] 25)).alloc (.cells #[.bool false, .int .i64 0, .int .i64 0, .int .i64 0, .int .i64 0, .bool false, .bool false, .int .i64 0, .int .i64 0, .int .i64 0, .int .i64 0, .int .i64 0, .int .i64 0, .int .i64 0, .int .i64 0, .int .i64 0, .int .i64 0, .int .i64 0] 36)) p ((W.alloc (.cells #[.int .i64 op, .int .i64 dl, .bool wt, .bool fo, .int .i64 sl, .int .i64 ge, .int .i64 st] 25)).alloc (.cells #[.bool false, .int .i64 0, .int .i64 0, .int .i64 0, .int .i64 0, .bool false, .bool false, .int .i64 0, .int .i64 0, .int .i64 0, .int .i64 0, .int .i64 0, .int .i64 0, .int .i64 0, .int .i64 0, .int .i64 0, .int .i64 0, .int .i64 0] 36)) p m := Re.begin h hB
  have e0 : ERow ((W.alloc (.cells #[.int .i64 op, .int .i64 dl, .bool wt, .bool fo, .int .i64 sl, .int .i64 ge, .int .i64 st] 25)).alloc (.cells #[.bool false, .int .i64 0, .int .i64 0, .int .i64 0, .int .i64 0, .bool false, .bool false, .int .i64 0, .int .i64 0, .int .i64 0, .int .i64 0, .int .i64 0, .int .i64 0, .int .i64 0, .int .i64 0, .int .i64 0, .int .i64 0, .int .i64 0] 36)) (W.heap.size + 1) := ⟨#[.bool false, .int .i64 0, .int .i64 0, .int .i64 0, .int .i64 0, .bool false, .bool false, .int .i64 0, .int .i64 0, .int .i64 0, .int .i64 0, .int .i64 0, .int .i64 0, .int .i64 0, .int .i64 0, .int .i64 0, .int .i64 0, .int .i64 0], rfl, by have := RowAt.new (W.alloc (.cells #[.int .i64 op, .int .i64 dl, .bool wt, .bool fo, .int .i64 sl, .int .i64 ge, .int .i64 st] 25)) #[.bool false, .int .i64 0, .int .i64 0, .int .i64 0, .int .i64 0, .bool false, .bool false, .int .i64 0, .int .i64 0, .int .i64 0, .int .i64 0, .int .i64 0, .int .i64 0, .int .i64 0, .int .i64 0, .int .i64 0, .int .i64 0, .int .i64 0] 36; simpa using this⟩
  have hg1 : W.heap.size + 1 < ((W.alloc (.cells #[.int .i64 op, .int .i64 dl, .bool wt, .bool fo, .int .i64 sl, .int .i64 ge, .int .i64 st] 25)).alloc (.cells #[.bool false, .int .i64 0, .int .i64 0, .int .i64 0, .int .i64 0, .bool false, .bool false, .int .i64 0, .int .i64 0, .int .i64 0, .int .i64 0, .int .i64 0, .int .i64 0, .int .i64 0, .int .i64 0, .int .i64 0, .int .i64 0, .int .i64 0] 36)).heap.size := by simp
  have hg0 : W.heap.size ≤ W.heap.size + 1 := by omega
  have a0 : RowAt ((W.alloc (.cells #[.int .i64 op, .int .i64 dl, .bool wt, .bool fo, .int .i64 sl, .int .i64 ge, .int .i64 st] 25)).alloc (.cells #[.bool false, .int .i64 0, .int .i64 0, .int .i64 0, .int .i64 0, .bool false, .bool false, .int .i64 0, .int .i64 0, .int .i64 0, .int .i64 0, .int .i64 0, .int .i64 0, .int .i64 0, .int .i64 0, .int .i64 0, .int .i64 0, .int .i64 0] 36)) W.heap.size #[.int .i64 op, .int .i64 dl, .bool wt, .bool fo, .int .i64 sl, .int .i64 ge, .int .i64 st] 25 := heap_alloc2_old W _ _
  clear h
  simp only [Ask.val, Ask.cells]
  go_enter Tryz.func14, Tryz.ntmps14
  go_wp2_with fail
  generalize hwz : ((W.alloc (.cells #[.int .i64 op, .int .i64 dl, .bool wt, .bool fo, .int .i64 sl, .int .i64 ge, .int .i64 st] 25)).alloc (.cells #[.bool false, .int .i64 0, .int .i64 0, .int .i64 0, .int .i64 0, .bool false, .bool false, .int .i64 0, .int .i64 0, .int .i64 0, .int .i64 0, .int .i64 0, .int .i64 0, .int .i64 0, .int .i64 0, .int .i64 0, .int .i64 0, .int .i64 0] 36)) = w1 at *
  clear hwz
  have hKd : Below w1.heap.size w1 w1.drew := (Below.refl _ _).drew
  have LA : ∀ w', Below w1.heap.size w1 w' → RowAt w' W.heap.size #[.int .i64 op, .int .i64 dl, .bool wt, .bool fo, .int .i64 sl, .int .i64 ge, .int .i64 st] 25 := fun w' hb => a0.below hb
  have LA0 : ∀ w', Below w1.heap.size w1 w' → w'.cell? ⟨W.heap.size, 0, none⟩ = some (.int .i64 op) := fun w' hb => (LA w' hb).cell 0
  have hcp := capt w1.drew p.mb (n : Int) ⟨op, dl, wt, fo, sl, ge, st⟩
  refine wp_region_held_drew (S := fun w' => Below w1.heap.size w1 w') (by kernel_rfl) (by exact hKd) (fun hHeld => ?_)
  refine take_of (i := 0) (d := some 11) (op := .move (.tmp 0)) (gd := none) (v := (.pointer (some ⟨p.mb, 0, none⟩))) (by kernel_rfl) (by kernel_rfl) (by kernel_rfl) (by kernel_rfl) (fun _ _ _ h => h) (by kernel_rfl) (run_move_of (.tmp 0) (.pointer (some ⟨p.mb, 0, none⟩)) (by kernel_rfl)) hHeld ?_
  try simp only [Act.put, List.setIfInBounds_toArray, List.set_cons_zero, List.set_cons_succ]
  refine take_of (i := 1) (d := some 12) (op := .move (.tmp 1)) (gd := none) (v := (.int .i64 (n : Int))) (by kernel_rfl) (by kernel_rfl) (by kernel_rfl) (by kernel_rfl) (fun _ _ _ h => h) (by kernel_rfl) (run_move_of (.tmp 1) (.int .i64 (n : Int)) (by kernel_rfl)) hHeld ?_
  try simp only [Act.put, List.setIfInBounds_toArray, List.set_cons_zero, List.set_cons_succ]
  refine take_of (i := 2) (d := some 13) (op := .load 25 (.tmp 5)) (gd := none) (v := .agg #[.int .i64 op, .int .i64 dl, .bool wt, .bool fo, .int .i64 sl, .int .i64 ge, .int .i64 st]) (by kernel_rfl) (by kernel_rfl) (by kernel_rfl) (by kernel_rfl) (fun _ _ _ h => h) (by kernel_rfl) (run_load_row 25 (.tmp 5) (W.heap.size) 25 #[.int .i64 op, .int .i64 dl, .bool wt, .bool fo, .int .i64 sl, .int .i64 ge, .int .i64 st] _ (by kernel_rfl) Tryz.underlying25 rfl (by kernel_rfl) LA) hHeld ?_
  try simp only [Act.put, List.setIfInBounds_toArray, List.set_cons_zero, List.set_cons_succ]
  refine takeg (i := 4) (d := some 15) (v := ?_) (by kernel_rfl) (by kernel_rfl) (by kernel_rfl) (by kernel_rfl) (fun _ _ _ h => h) (by kernel_rfl) ?_ hHeld ?_
  rotate_left
  · intro w hSw
    try dsimp only at hSw
    go_simp
    try with_reducible rfl
  try simp only [Act.put, List.setIfInBounds_toArray, List.set_cons_zero, List.set_cons_succ]
  refine takeg (i := 5) (d := some 16) (v := ?_) (by kernel_rfl) (by kernel_rfl) (by kernel_rfl) (by kernel_rfl) (fun _ _ _ h => h) (by kernel_rfl) ?_ hHeld ?_
  rotate_left
  · intro w hSw
    try dsimp only at hSw
    go_simp
    try with_reducible rfl
  try simp only [Act.put, List.setIfInBounds_toArray, List.set_cons_zero, List.set_cons_succ]
  refine ready_call (i := 3) (by kernel_rfl) 38 #[.tmp 11, .tmp 12, .tmp 13] #[27, 3, 25] (some 14) none (by kernel_rfl) (by kernel_rfl) #[.pointer (some ⟨p.mb, 0, none⟩), .int .i64 (n : Int), .agg #[.int .i64 op, .int .i64 dl, .bool wt, .bool fo, .int .i64 sl, .int .i64 ge, .int .i64 st]] (by kernel_rfl) (enters_of Tryz.func38 (by kernel_rfl) rfl) ?_
  refine (answers_any w1.drew p.mb (n : Int) ⟨op, dl, wt, fo, sl, ge, st⟩).mono ?_
  rintro e wq' ⟨rfl, rfl⟩
  refine ⟨_, rfl, hKd.trans hcp.2.2, fun hHeld2 => ?_⟩
  try simp only [Act.put, List.setIfInBounds_toArray, List.set_cons_zero, List.set_cons_succ]
  have hHa : Below w1.heap.size w1 (ansW w1.drew p.mb (n : Int) ⟨op, dl, wt, fo, sl, ge, st⟩) := hKd.trans hcp.2.2
  generalize hwz : ansW w1.drew p.mb (n : Int) ⟨op, dl, wt, fo, sl, ge, st⟩ = wa at *
  clear hwz hHeld hHeld2 hKd
  have hlk : (Instr.lookup 91 (.map (some (w1.heap.size + 3))) (.int .i64 op) true).run Tryz.prog wa = .ok (.tuple #[.func (.func F) #[] (lb w1.heap.size), .bool true]) wa := run_lookup_is (P := Tryz.prog) wa _ 91 3 89 _ 8 op i _ Tryz.underlying91 Tryz.underlying3 hcp.2.1 (HFI.out _)
  have ea := e0.below hHa
  have ra := r0.below hHa
  have aa := a0.below hHa
  have hcap : Capt wa w1.heap.size p.mb (n : Int) ⟨op, dl, wt, fo, sl, ge, st⟩ := hcp.1
  have hhas := m_has ra.at' (n : Int)
  clear hcp LA LA0 r0 e0 a0
  refine ready1 (i := 6) (by kernel_rfl) (step_run (some 17) (.tuple #[.func (.func F) #[] (lb w1.heap.size), .bool true]) (by kernel_rfl) (by kernel_rfl) (by go_simp; try rfl) hHa (fun hHeld => ?_))
  try simp only [Act.put, List.setIfInBounds_toArray, List.set_cons_zero, List.set_cons_succ]
  refine takeg (i := 7) (d := some 10) (v := ?_) (by kernel_rfl) (by kernel_rfl) (by kernel_rfl) (by kernel_rfl) (fun _ _ _ h => h) (by kernel_rfl) ?_ hHeld ?_
  rotate_left
  · intro w hSw
    try dsimp only at hSw
    go_simp
    try with_reducible rfl
  try simp only [Act.put, List.setIfInBounds_toArray, List.set_cons_zero, List.set_cons_succ]
  refine takeg (i := 8) (d := some 18) (v := ?_) (by kernel_rfl) (by kernel_rfl) (by kernel_rfl) (by kernel_rfl) (fun _ _ _ h => h) (by kernel_rfl) ?_ hHeld ?_
  rotate_left
  · intro w hSw
    try dsimp only at hSw
    go_simp
    try with_reducible rfl
  try simp only [Act.put, List.setIfInBounds_toArray, List.set_cons_zero, List.set_cons_succ]
  refine takeg (i := 9) (d := some 19) (v := ?_) (by kernel_rfl) (by kernel_rfl) (by kernel_rfl) (by kernel_rfl) (fun _ _ _ h => h) (by kernel_rfl) ?_ hHeld ?_
  rotate_left
  · intro w hSw
    try dsimp only at hSw
    go_simp
    try with_reducible rfl
  try simp only [Act.put, List.setIfInBounds_toArray, List.set_cons_zero, List.set_cons_succ]
  refine takeg (i := 10) (d := some 9) (v := ?_) (by kernel_rfl) (by kernel_rfl) (by kernel_rfl) (by kernel_rfl) (fun _ _ _ h => h) (by kernel_rfl) ?_ hHeld ?_
  rotate_left
  · intro w hSw
    try dsimp only at hSw
    go_simp
    try with_reducible rfl
  try simp only [Act.put, List.setIfInBounds_toArray, List.set_cons_zero, List.set_cons_succ]
  refine takeg (i := 11) (d := some 8) (v := ?_) (by kernel_rfl) (by kernel_rfl) (by kernel_rfl) (by kernel_rfl) (fun _ _ _ h => h) (by kernel_rfl) ?_ hHeld ?_
  rotate_left
  · intro w hSw
    try dsimp only at hSw
    go_simp
    try with_reducible rfl
  try simp only [Act.put, List.setIfInBounds_toArray, List.set_cons_zero, List.set_cons_succ]
  refine wpAnyH_done (by kernel_rfl) ?_ _
  rw [hw] at hhas
  have c6 := ra.at'.hd.c6
  have ck := (ra.at'.works.get hk0).1
  have hnk := ra.at'.ok.nk
  have b0 : (0 : Int) ≤ (n : Int) := by omega
  have b1 : (n : Int) < (m.ks.length : Int) := by omega
  have b2 : (n : Int) ≤ (m.ks.length : Int) - 1 := by omega
  clear hk0
  have hb' : (k0.at' != 0) = false := by simp [hb]
  have hcl := HCA.out wa p m w1.heap.size n ra.at' hcap hw
  generalize m.does n ⟨op, dl, wt, fo, sl, ge, st⟩ = D at *
  obtain ⟨⟨x, bb⟩, m2⟩ := D
  simp only at hcl HR
  clear hlk hcap hw hb
  go_wp2_with fail
  refine hhas.mono ?_
  rintro e w' ⟨rfl, rfl⟩
  clear hhas
  go_wp2_with fail
  refine hcl.mono ?_
  rintro e w3 hp
  obtain ⟨rfl, p3, r3, hc3⟩ := ra.post hp
  have e3 := ea.chg hc3 (ra.not hg0 hg1)
  have a3 : RowAt w3 W.heap.size #[.int .i64 op, .int .i64 dl, .bool wt, .bool fo, .int .i64 sl, .int .i64 ge, .int .i64 st] 25 := RowAt.kept aa ra (Nat.le_refl _) (by omega) hc3
  have hst := e3.store x
  have hsz := ev_size x
  have row4 := e3.set x
  have r4 := r3.row hg0 hg1 x.cells
  have a4 : RowAt (w3.setRow (W.heap.size + 1) x.cells) W.heap.size #[.int .i64 op, .int .i64 dl, .bool wt, .bool fo, .int .i64 sl, .int .i64 ge, .int .i64 st] 25 := a3.chg (chg_setRow (F := fun k => k = W.heap.size + 1) (Chg.refl _ _) _ _ (fun _ => rfl)) (by omega)
  have hty := m_tidy r4.at'
  rw [r4.mb] at hty
  clear hcl hp hc3 ra ea aa c6 ck b0 b1 b2 hnk
  go_wp2_with fail
  generalize hwz : w3.setRow (W.heap.size + 1) x.cells = w4 at *
  clear hwz hst r3 e3 a3
  refine hty.mono ?_
  rintro e w5 ⟨v5, hp5⟩
  obtain ⟨rfl, p5, r5, hc5⟩ := r4.post hp5
  have row5 := RowAt.kept row4 r4 hg0 hg1 hc5
  have a5 := RowAt.kept a4 r4 (Nat.le_refl _) (by omega) hc5
  clear hty hp5 hc5 r4 row4 a4
  cases bb
  · have HR2 : RowKit.Hid (R = ((Ev.zero, false, true), m2.tidy)) := Lib.hid (by rw [HR.out]; rfl)
    go_upto_region 7 with (fail)
    refine wp_region_lit ?_
    refine RowL.wpList_run rfl Ev.zero.val (by go_simp; try rfl) ?_
    refine RowL.wpList_store_row rfl 36 (.tmp 6) (.tmp 49) rfl (W.heap.size + 1) _ x.cells Ev.zero.cells rfl rfl row5 rfl (by kernel_rfl) (ev_one _) ?_
    go_wp2_with fail
    refine bodyPost_ret (results_row3 rfl _ _ (W.heap.size + 1) _ _ _ rfl (row5.set _) Tryz.underlying36 rfl (by kernel_rfl)) rfl ?_
    rw [HR2.out]
    exact (r5.row hg0 hg1 _).fin hB _
  · have HR2 : RowKit.Hid (R = ((M.answered x n ⟨op, dl, wt, fo, sl, ge, st⟩, true, true), m2.tidy)) := Lib.hid (by rw [HR.out]; rfl)
    have han := answered_any w5 x n ⟨op, dl, wt, fo, sl, ge, st⟩
    generalize M.answered x n ⟨op, dl, wt, fo, sl, ge, st⟩ = y at *
    go_upto_region 8 with (fail)
    refine wp_region_lit ?_
    refine RowL.wpList_load_row rfl 36 (.tmp 6) rfl (W.heap.size + 1) _ x.cells _ rfl row5 Tryz.underlying36 rfl (by kernel_rfl) ?_
    refine RowL.wpList_run rfl (.int .i64 n) (by go_simp; try rfl) ?_
    refine RowL.wpList_load_row rfl 25 (.tmp 5) rfl W.heap.size _ #[.int .i64 op, .int .i64 dl, .bool wt, .bool fo, .int .i64 sl, .int .i64 ge, .int .i64 st] _ rfl a5 Tryz.underlying25 rfl (by kernel_rfl) ?_
    go_wp2_with fail
    refine han.mono ?_
    rintro e w6 ⟨rfl, hb6⟩
    have r6 := r5.below hb6
    have row6 := row5.below hb6
    have hst := (show ERow w6 (W.heap.size + 1) from ⟨_, rfl, row6⟩).store y
    have hsz := ev_size y
    have row7 := (show ERow w6 (W.heap.size + 1) from ⟨_, rfl, row6⟩).set y
    clear han hb6 r5 row5 a5 row6
    go_wp2_with fail
    refine bodyPost_ret (results_row3 rfl _ _ (W.heap.size + 1) _ _ _ rfl row7 Tryz.underlying36 rfl (by kernel_rfl)) rfl ?_
    rw [HR2.out]
    exact (r6.row hg0 hg1 _).fin hB _

theorem m_ask {W : World} {p : Pl} {m : M} (h : MAt W p m) (who : Int) (a : Ask) :
    Calls Tryz.prog 14 #[.pointer (some ⟨p.mb, 0, none⟩), .int .i64 who, a.val] W (MPost W p (.tuple #[(m.ask who a).1.1.val, .bool (m.ask who a).1.2.1, .bool (m.ask who a).1.2.2]) (m.ask who a).2) := by
  by_cases hop : 0 ≤ a.op ∧ a.op ≤ 7
  · cases hw : m.has who
    · exact m_ask_no h who a hop hw
    · by_cases hb : (m.worker who).at' = 0
      · obtain ⟨n, rfl⟩ : ∃ n : Nat, who = (n : Int) := by
          simp [M.has] at hw
          exact Int.eq_ofNat_of_zero_le hw.1
        exact m_ask_yes h n a hop hw hb
      · obtain ⟨n, rfl⟩ : ∃ n : Nat, who = (n : Int) := by
          simp [M.has] at hw
          exact Int.eq_ofNat_of_zero_le hw.1
        exact m_ask_busy h n a hop hw hb
  · exact m_ask_op h who a hop
end Go.Proofs.YtpmkgddjgebojaaGreatDoor.Mod

namespace Go.Proofs.YtpmkgddjgebojaaGreatDoor.Mod
set_option linter.unusedVariables false
set_option linter.unusedSimpArgs false
open Go.RowKit Hp Slot RowL Life

set_option maxHeartbeats 1000000 in
theorem del_any (W : World) (b : Nat) (who x : Int) (h : W.cell? ⟨b, 0, none⟩ = some (.int .i64 who)) :
    Calls Tryz.prog 52 #[.int .i64 x, .pointer (some ⟨b, 0, none⟩)] W fun e W' => e = .returned (.bool (x == who)) ∧ W = W' := by
  go_enter Tryz.func52, Tryz.ntmps52
  go_wp2
  go_ret
  exact ⟨rfl, rfl⟩

/-- Where the first of the number stands. -/
def idxOf (who : Int) (l : List Int) : Option Nat := l.findIdx? (· == who)

set_option maxRecDepth 100000 in
set_option maxHeartbeats 4000000 in
theorem index_any (W : World) (b : Nat) (who : Int) (h : W.cell? ⟨b, 0, none⟩ = some (.int .i64 who)) (g off cap : Nat) (l : List Int) (hl : l.length ≤ 1000) (hc : ∀ j x, l[j]? = some x → W.cell? ⟨g, off + j, none⟩ = some (.int .i64 x)) :
    Calls Tryz.prog 91 #[.slice (some ⟨g, off, none⟩) l.length cap, .func (.func 52) #[] #[.pointer (some ⟨b, 0, none⟩)]] W fun e W' =>
      (∃ k : Nat, (e = .returned (.int .i64 k) ∧ l[k]? = some who ∧ who ∉ l.take k) ∨ (e = .returned (.int .i64 (-1)) ∧ who ∉ l)) ∧ W = W' := by
  have HC := Lib.hid hc
  clear hc
  go_enter Tryz.func91, Tryz.ntmps91
  go_wp2
  go_loop [8] (fun i => ∃ k : Nat, k ≤ l.length ∧ i = .int .i64 k ∧ who ∉ l.take k) (fun i => l.length - (intOf i).toNat)
  case atStart => exact ⟨0, by omega, rfl, by simp⟩
  case round =>
    obtain ⟨k, hk, rfl, hno⟩ := hrel
    have HNO := Lib.hid hno
    clear hno
    by_cases hlt : k < l.length
    · obtain ⟨x, hx⟩ : ∃ x, l[k]? = some x := ⟨_, List.getElem?_eq_getElem hlt⟩
      have HX := Lib.hid hx
      have hcell := HC.out k x hx
      have b0 : (0 : Int) ≤ (k : Int) := by omega
      have b1 : (k : Int) < (l.length : Int) := by omega
      have b2 : (k : Int) ≤ (l.length : Int) - 1 := by omega
      have hd := del_any W b who x h
      clear hx
      by_cases hxw : x = who
      · have hxe : (x == who) = true := by simpa using hxw
        rw [hxe] at hd
        have HXW := Lib.hid hxw
        clear hxw hxe
        go_wp2_with fail
        refine hd.mono ?_
        rintro e w' ⟨rfl, rfl⟩
        go_wp2_with fail
        go_ret
        exact ⟨⟨k, .inl ⟨rfl, by rw [HX.out, HXW.out], HNO.out⟩⟩, rfl⟩
      · have hxe : (x == who) = false := by simpa using hxw
        rw [hxe] at hd
        have HXW := Lib.hid hxw
        clear hxw hxe
        go_wp2_with fail
        refine hd.mono ?_
        rintro e w' ⟨rfl, rfl⟩
        go_wp2_with fail
        go_round
        case rel =>
          refine ⟨k + 1, by omega, by go_num, ?_⟩
          obtain ⟨hl2, he⟩ := List.getElem?_eq_some_iff.1 HX.out
          rw [List.take_succ_eq_append_getElem hl2, he]
          simp only [List.mem_append, List.mem_singleton, not_or]
          exact ⟨HNO.out, fun e => HXW.out e.symm⟩
        case measure => simp [intOf]; omega
    · obtain rfl : k = l.length := by omega
      go_wp2
      go_ret
      refine ⟨⟨0, .inr ⟨rfl, ?_⟩⟩, rfl⟩
      have := HNO.out
      rwa [List.take_length] at this

theorem filter_none' {l : List Int} {n : Int} (h : n ∉ l) : l.filter (fun o => o != n) = l := by
  rw [List.filter_eq_self]
  intro x hx
  simp
  rintro rfl
  exact h hx
set_option maxHeartbeats 1000000 in
theorem index_nil (W : World) (b : Nat) :
    Calls Tryz.prog 91 #[.slice none 0 0, .func (.func 52) #[] #[.pointer (some ⟨b, 0, none⟩)]] W fun e W' => e = .returned (.int .i64 (-1)) ∧ W = W' := by
  go_enter Tryz.func91, Tryz.ntmps91
  go_wp2
  go_loop [8] (fun i => i = .int .i64 0) (fun i => 0)
  case atStart => rfl
  case round =>
    obtain rfl := hrel
    go_wp2
    go_ret
    exact ⟨rfl, rfl⟩
/-- The cells behind j of n numbers: i of them are kept. -/
structure DelAt (W0 W : World) (g off cap : Nat) (l : List Int) (who : Int) (i j : Nat) : Prop where
  ij : i < j
  jn : j ≤ l.length
  cnt : i = ((l.take j).filter (fun o => o != who)).length
  kept : ∀ q x, ((l.take j).filter (fun o => o != who))[q]? = some x → W.cell? ⟨g, off + q, none⟩ = some (.int .i64 x)
  rest : ∀ q x, j ≤ q → l[q]? = some x → W.cell? ⟨g, off + q, none⟩ = some (.int .i64 x)
  some' : ∀ q, q < cap → (W.cell? ⟨g, off + q, none⟩).isSome = true
  frz : ∀ q, q < cap → W.frozen? ⟨g, off + q, none⟩ = false
  isc : IsC W g
  chg : Chg (fun k => k = g) W0 W
theorem DelAt.skip {W0 W : World} {g off cap : Nat} {l : List Int} {who : Int} {i j : Nat} (h : DelAt W0 W g off cap l who i j) (hj : l[j]? = some who) : DelAt W0 W g off cap l who i (j + 1) := by
  obtain ⟨hl, he⟩ := List.getElem?_eq_some_iff.1 hj
  have e : (l.take (j + 1)).filter (fun o => o != who) = (l.take j).filter (fun o => o != who) := by
    rw [List.take_succ_eq_append_getElem hl, List.filter_append, he]; simp
  exact ⟨by have := h.ij; omega, by omega, by rw [e]; exact h.cnt, by rw [e]; exact h.kept, fun q x hq => h.rest q x (by omega), h.some', h.frz, h.isc, h.chg⟩
theorem DelAt.keep {W0 W : World} {g off cap : Nat} {l : List Int} {who x : Int} {i j : Nat} (h : DelAt W0 W g off cap l who i j) (hj : l[j]? = some x) (hx : x ≠ who) (hcap : l.length ≤ cap) : DelAt W0 (W.setCell ⟨g, off + i, none⟩ (.int .i64 x)) g off cap l who (i + 1) (j + 1) := by
  obtain ⟨hl, he⟩ := List.getElem?_eq_some_iff.1 hj
  have e : (l.take (j + 1)).filter (fun o => o != who) = (l.take j).filter (fun o => o != who) ++ [x] := by
    rw [List.take_succ_eq_append_getElem hl, List.filter_append, he]; simp [hx]
  have hi := h.ij
  have hc := h.cnt
  obtain ⟨v0, hv0⟩ := Option.isSome_iff_exists.1 (h.some' i (by omega))
  refine ⟨by omega, by omega, by rw [e]; simp; exact hc, fun q y hq => ?_, fun q y hq hy => ?_, fun q hq => ?_, fun q hq => ?_, h.isc.setCell _ _, h.chg.setCell _ _ (fun _ => rfl)⟩
  · rw [e] at hq
    by_cases hqi : q = i
    · subst hqi
      rw [List.getElem?_append_right (by omega)] at hq
      rw [← hc] at hq
      simp at hq
      subst hq
      exact World.cell?_setCell_same _ _ _ hv0
    · have hql : q < ((l.take j).filter (fun o => o != who)).length := by
        have := (List.getElem?_eq_some_iff.1 hq).1
        simp at this; omega
      rw [List.getElem?_append_left hql] at hq
      rw [World.cell?_setCell_other _ _ _ _ (by simp <;> omega)]
      exact h.kept q y hq
  · rw [World.cell?_setCell_other _ _ _ _ (by simp <;> omega)]
    exact h.rest q y (by omega) hy
  · by_cases hqi : q = i
    · subst hqi; rw [World.cell?_setCell_same _ _ _ hv0]; rfl
    · rw [World.cell?_setCell_other _ _ _ _ (by simp <;> omega)]; exact h.some' q hq
  · rw [World.frozen?_setCell]; exact h.frz q hq

theorem int_zero (W : World) : (zeroValue 3).run Tryz.prog W = .ok (.int .i64 0) W := by kernel_rfl
theorem own_put {W : World} {g off cap i : Nat} {xs : List Value} (z : Value) (m : Nat) (hi : i ≤ cap) (hcm : cap ≤ maxLen) (hm : i + m ≤ cap) (hl : xs.length = i) (isc : IsC W g) (hs : ∀ q, q < cap → (W.cell? ⟨g, off + q, none⟩).isSome = true) (hf : ∀ q, q < cap → W.frozen? ⟨g, off + q, none⟩ = false)
    (hx : ∀ q u, xs[q]? = some u → W.cell? ⟨g, off + q, none⟩ = some u) : OwnS (W.setCells g (off + i) (List.replicate m z)) (.slice (some ⟨g, off, none⟩) i cap) i 1 xs := by
  refine ⟨by omega, .inr ⟨g, off, cap, rfl, hi, hcm, isc.setCells g _ _, fun j hj => ?_, fun j hj => ?_, fun j u hu => ?_⟩⟩
  · exact World.isSome_setCells g _ _ _ _ (hs j (by omega))
  · rw [World.frozen?_setCells]; exact hf j (by omega)
  · have hj := (List.getElem?_eq_some_iff.1 hu).1
    rw [World.cell?_setCells_out g _ _ _ _ (fun _ _ => by simp only [List.length_replicate]; omega)]
    exact hx j u hu

set_option maxRecDepth 100000 in
set_option maxHeartbeats 8000000 in
theorem delete_any (W : World) (b : Nat) (who : Int) (h : W.cell? ⟨b, 0, none⟩ = some (.int .i64 who)) (v : Value) (l : List Int) (hl : l.length ≤ 1000) (ho : OwnS W v l.length 1 (l.map (Value.int .i64))) (hb : ¬ Fp v b) :
    Calls Tryz.prog 51 #[v, .func (.func 52) #[] #[.pointer (some ⟨b, 0, none⟩)]] W fun e W' =>
      ∃ v', e = .returned v' ∧ OwnS W' v' (l.filter (fun o => o != who)).length 1 ((l.filter (fun o => o != who)).map (Value.int .i64)) ∧ (∀ k, Fp v' k → Fp v k) ∧ Chg (Fp v) W W' := by
  rcases ho.2 with ⟨rfl, h0⟩ | ⟨g, off, cap, rfl, hn, hcm, isc, hs, hf, hx⟩
  · obtain rfl : l = [] := List.eq_nil_of_length_eq_zero h0
    go_enter Tryz.func51, Tryz.ntmps51
    go_wp2_with fail
    refine (index_nil W b).mono ?_
    rintro e w' ⟨rfl, rfl⟩
    go_wp2_with fail
    go_ret
    exact ⟨_, rfl, ownS_nil _ _, fun _ h => h, Chg.refl _ _⟩
  · have hi := index_any W b who h g off cap l hl (fun j x hj => hx j _ (by simp [hj]))
    go_enter Tryz.func51, Tryz.ntmps51
    go_wp2_with fail
    refine hi.mono ?_
    rintro e w' ⟨⟨k, ⟨rfl, hk, hno⟩ | ⟨rfl, hno⟩⟩, rfl⟩
    · have hkl : k < l.length := (List.getElem?_eq_some_iff.1 hk).1
      have htk : (l.take (k + 1)).filter (fun o => o != who) = l.take k := by
        rw [List.take_succ_eq_append_getElem hkl, List.filter_append, (List.getElem?_eq_some_iff.1 hk).2, filter_none' hno]; simp
      have D0 : DelAt W W g off cap l who k (k + 1) := ⟨by omega, by omega, by rw [htk]; simp; omega, (fun q x hq => by
        rw [htk, List.getElem?_take] at hq
        split at hq
        · exact hx q _ (by simp [hq])
        · cases hq), fun q x _ hq => hx q _ (by simp [hq]), fun q hq => hs q (by omega), fun q hq => hf q (by omega), isc, Chg.refl _ _⟩
      have hbg : b ≠ g := fun e => hb (by rw [fp_some]; exact e.symm)
      clear hi ho hs hf hx htk hno hk isc
      have kb0 : (0 : Int) ≤ (k : Int) := by omega
      go_wp2_with fail
      go_loopw [5, 6] (fun vi vj wr => ∃ i j : Nat, vi = .int .i64 i ∧ vj = .int .i64 j ∧ DelAt W wr g off cap l who i j ∧ wr.cell? ⟨b, 0, none⟩ = some (.int .i64 who)) (fun _ vj _ => l.length - (intOf vj).toNat)
      case atStart => exact ⟨k, k + 1, rfl, by first | rfl | go_num, D0, h⟩
      case round =>
        obtain ⟨i, j, rfl, rfl, D, hcb⟩ := hrel
        have hij := D.ij
        have hjn := D.jn
        have b0 : (0 : Int) ≤ (j : Int) := by omega
        have i0 : (0 : Int) ≤ (i : Int) := by omega
        have i1 : (i : Int) < (l.length : Int) := by omega
        have i2 : (i : Int) ≤ (l.length : Int) - 1 := by omega
        clear D0 h kb0
        by_cases hlt : j < l.length
        · obtain ⟨x, hx⟩ : ∃ x, l[j]? = some x := ⟨_, List.getElem?_eq_getElem hlt⟩
          have hcell := D.rest j x (Nat.le_refl _) hx
          have b1 : (j : Int) < (l.length : Int) := by omega
          have b2 : (j : Int) ≤ (l.length : Int) - 1 := by omega
          have hd := del_any wr b who x hcb
          have HX := Lib.hid hx
          have hD := Lib.hid D
          obtain ⟨v0, hv0⟩ := Option.isSome_iff_exists.1 (D.some' i (by omega))
          have hf0 := D.frz i (by omega)
          clear hx D
          by_cases hxw : x = who
          · have hxe : (x == who) = true := by simpa using hxw
            rw [hxe] at hd
            have HXW := Lib.hid hxw
            clear hxw hxe
            go_wp2_with fail
            refine hd.mono ?_
            rintro e w' ⟨rfl, rfl⟩
            go_wp2_with fail
            go_roundw
            case rel => first | exact ⟨i, j + 1, rfl, by go_num, hD.out.skip (by rw [HX.out, HXW.out]), hcb⟩ | ((repeat apply Exists.intro); exact ⟨⟨i, j + 1, rfl, by go_num, hD.out.skip (by rw [HX.out, HXW.out]), hcb⟩, rfl⟩)
            case measure => simp [intOf]; omega
          · have hxe : (x == who) = false := by simpa using hxw
            rw [hxe] at hd
            have HXW := Lib.hid hxw
            clear hxw hxe
            go_wp2_with fail
            refine hd.mono ?_
            rintro e w' ⟨rfl, rfl⟩
            go_wp2_with fail
            go_roundw
            case rel => first | exact ⟨i + 1, j + 1, by go_num, by go_num, hD.out.keep HX.out HXW.out hn, (World.cell?_setCell_other _ _ _ _ (by simp <;> omega)).trans hcb⟩ | ((repeat apply Exists.intro); exact ⟨⟨i + 1, j + 1, by go_num, by go_num, hD.out.keep HX.out HXW.out hn, (World.cell?_setCell_other _ _ _ _ (by simp <;> omega)).trans hcb⟩, rfl⟩)
            case measure => simp [intOf]; omega
        · obtain rfl : j = l.length := by omega
          have hcnt : i = (l.filter (fun o => o != who)).length := by have := D.cnt; rwa [List.take_length] at this
          have hkept := D.kept
          rw [List.take_length] at hkept
          have hown := own_put (.int .i64 0) (l.length - i) (xs := (l.filter (fun o => o != who)).map (Value.int .i64)) (i := i) (by omega) hcm (by omega) (by simp; omega) D.isc D.some' D.frz (fun q u hq => by
            rw [List.getElem?_map] at hq
            cases hqq : (l.filter (fun o => o != who))[q]? with
            | none => rw [hqq] at hq; cases hq
            | some y => rw [hqq] at hq; cases hq; exact hkept q y hqq)
          have hclr : ∀ ty, (Builtin.clear_ #[43] ty #[.slice (some ⟨g, off + i, none⟩) (l.length - i) (cap - i)]).run Tryz.prog wr = .ok (.tuple #[]) (wr.setCells g (off + i) (List.replicate (l.length - i) (.int .i64 0))) := fun ty =>
            Lib.run_clear_slice wr 43 3 ty (.int .i64 0) Tryz.underlying43 int_zero rfl rfl g (off + i) (l.length - i) (cap - i) (by omega)
              (fun j hj => by rw [Nat.add_assoc]; exact D.some' _ (by omega)) (fun j hj => by rw [Nat.add_assoc]; exact D.frz _ (by omega))
          have hch : Chg (fun k => k = g) W (wr.setCells g (off + i) (List.replicate (l.length - i) (.int .i64 0))) := D.chg.trans (chg_setCells _ _ _ _) (fun _ _ h => h)
          have HF := Lib.hid (And.intro hown (And.intro hch hcnt))
          have hne : ¬ cap = i := by omega
          have hic : i ≤ cap := by omega
          clear hown hch hcnt hkept D hcb
          go_wp2_with fail
          go_ret
          have h3 := HF.out
          rw [← h3.2.2]
          exact ⟨.slice (some ⟨g, off, none⟩) i cap, rfl, h3.1, fun k hk => by rw [fp_some] at hk ⊢; exact hk, h3.2.1.mono (fun k _ e => by rw [fp_some]; exact e.symm)⟩
    · have hfe : l.filter (fun o => o != who) = l := filter_none' hno
      have HO := Lib.hid ho
      have HFE := Lib.hid hfe
      clear hi ho hs hf hx hfe hno isc
      go_wp2_with fail
      go_ret
      rw [HFE.out]
      exact ⟨_, rfl, HO.out, fun _ h => h, Chg.refl _ _⟩
end Go.Proofs.YtpmkgddjgebojaaGreatDoor.Mod

namespace Go.Proofs.YtpmkgddjgebojaaGreatDoor.Mod
set_option linter.unusedVariables false
set_option linter.unusedSimpArgs false
open Go.RowKit Hp Slot RowL Life

theorem dial_closed (m : M) (i : Nat) (who : Int) : (m.dial i who).2.closed = m.closed := by unfold M.dial; split <;> rfl
theorem dial_ss (m : M) (i : Nat) (who : Int) : (m.dial i who).2.ss = turnL m.ss i (if m.good then 1 else 2) who 0 := by unfold M.dial; split <;> simp_all <;> rfl

/-- What is told of one that may not have it: the end of take. -/
def takeEnd (m : M) (r : Ev × M) (i : Nat) : Ev × M := if r.1.e = 0 ∧ m.closed ≠ 0 then (M.failed 5, r.2.empty i) else r
theorem take_eq (m : M) (who : Int) (i : Nat) : m.take who i = takeEnd m (if ((m.turn i 16 who 0).slot i).state = 1 then (m.turn i 16 who 0).dial i who else ((m.turn i 16 who 0).leased i, m.turn i 16 who 0)) i := rfl

set_option maxRecDepth 100000 in
set_option maxHeartbeats 8000000 in
theorem m_take {W : World} {p : Pl} {m : M} (h : MAt W p m) (i : Nat) (who : Int) (s : S) (hi : m.ss[i]? = some s) :
    Calls Tryz.prog 49 #[.pointer (some ⟨p.mb, 0, none⟩), .int .i64 who, .int .i64 i] W (MPost W p (m.take who i).1.val (m.take who i).2) := by
  have hB : Below W.heap.size W (W.alloc (.cells ev0 36)) := (Below.refl _ _).alloc (Nat.le_refl _) _
  have r0 : Re W.heap.size (W.alloc (.cells ev0 36)) p (W.alloc (.cells ev0 36)) p m := Re.begin h hB
  have e0 : ERow (W.alloc (.cells ev0 36)) W.heap.size := ⟨ev0, rfl, RowAt.new _ _ _⟩
  have hg1 : W.heap.size < (W.alloc (.cells ev0 36)).heap.size := by simp
  have HI := Lib.hid hi
  have hfl := fun W => failed_any W 5
  have hf5 : M.failed 5 = { Ev.zero with e := 5 } := rfl
  have hcl : (m.turn i 16 who 0).closed = m.closed := rfl
  have hil : i < m.ss.length := (List.getElem?_eq_some_iff.1 hi).1
  have hns := h.ok.ns
  have hss : (m.turn i 16 who 0).ss[i]? = some (step s 16 who 0) := turnL_get hi
  have hsl : ((m.turn i 16 who 0).slot i) = step s 16 who 0 := M.slot_of hss
  have ht := m_turn' r0.at' i 16 i 16 who 0 s hi rfl rfl (by simp [Done])
  have hR : m.take who i = takeEnd m (if (step s 16 who 0).state = 1 then (m.turn i 16 who 0).dial i who else ((m.turn i 16 who 0).leased i, m.turn i 16 who 0)) i := by rw [take_eq, hsl]
  rw [← hf5] at hfl
  unfold takeEnd at hR
  generalize m.take who i = R at *
  generalize M.failed 5 = x5 at *
  generalize step s 16 who 0 = s1 at *
  have hml : (m.turn i 16 who 0).ss.length = m.ss.length := turnL_len _ _ _ _ _
  generalize m.turn i 16 who 0 = m1 at *
  have hle0 : ∀ W, MAt W p m1 → Calls Tryz.prog 88 #[.pointer (some ⟨p.mb, 0, none⟩), .int .i64 i] W fun e W' => e = .returned (m1.leased i).val ∧ Below W.heap.size W W' := fun W h1 => m_leased h1 i i s1 hss rfl
  have hdi0 : ∀ W, MAt W p m1 → Calls Tryz.prog 89 #[.pointer (some ⟨p.mb, 0, none⟩), .int .i64 i, .int .i64 who] W (MPost W p (m1.dial i who).1.val (m1.dial i who).2) := fun W h1 => m_dial h1 i i who s1 hss rfl
  have hdc := dial_closed m1 i who
  have hds : ∃ s', (m1.dial i who).2.ss[i]? = some s' := by rw [dial_ss]; exact ⟨_, turnL_get hss⟩
  generalize m1.leased i = x1 at *
  generalize m1.dial i who = rd at *
  obtain ⟨xd, md⟩ := rd
  simp only at hdc hdi0 hds
  have HR := Lib.hid hR
  have HSS := Lib.hid hss
  have HCL := Lib.hid hcl
  have HDC := Lib.hid hdc
  have HDS := Lib.hid hds
  have LE0 := Lib.hid hle0
  have DI0 := Lib.hid hdi0
  have HL : i < m1.ss.length := by rw [hml]; exact hil
  clear hf5 hi hss hcl hml hsl hR hdc hds hle0 hdi0
  go_enter Tryz.func49, Tryz.ntmps49
  go_wp2_with fail
  refine ht.mono ?_
  rintro e w1 ⟨rfl, h1, hc1⟩
  have r1 := r0.slots h1 hc1
  have e1 := e0.chg hc1 (fun e => r0.not (Nat.le_refl _) hg1 (.inr (.inl e)))
  have hle := LE0.out w1 h1
  clear ht hc1 r0 e0 LE0
  go_wp2_with fail
  refine hle.mono ?_
  rintro e w2 ⟨rfl, hb2⟩
  have r2 := r1.below hb2
  have e2 := e1.below hb2
  have hg2 : W.heap.size < (w2.alloc (.cells x1.cells 36)).heap.size := by have := r2.size; simp at this ⊢; omega
  have hlt2 : W.heap.size < w2.heap.size := by have := r2.size; simp at this; omega
  have hgn : ¬ mfp p W.heap.size := r2.not (Nat.le_refl _) hg1
  clear hle hb2 r1 e1 h1
  have hB2 : Below w2.heap.size w2 (w2.alloc (.cells x1.cells 36)) := (Below.refl _ _).alloc (Nat.le_refl _) _
  have q0 : Re w2.heap.size (w2.alloc (.cells x1.cells 36)) p (w2.alloc (.cells x1.cells 36)) p m1 := Re.begin r2.at' hB2
  have hst0 : (storeCells ⟨w2.heap.size, 0, none⟩ x1.cells.toList 0).run Tryz.prog (w2.alloc (.cells #[.bool false, .int .i64 0, .int .i64 0, .int .i64 0, .int .i64 0, .bool false, .bool false, .int .i64 0, .int .i64 0, .int .i64 0, .int .i64 0, .int .i64 0, .int .i64 0, .int .i64 0, .int .i64 0, .int .i64 0, .int .i64 0, .int .i64 0] 36)) = .ok () (w2.alloc (.cells x1.cells 36)) := by
    have := ev_store (RowAt.new w2 ev0 36) rfl x1
    rw [setRow_new] at this
    exact this
  have hsz0 := ev_size x1
  have row0 : RowAt (w2.alloc (.cells x1.cells 36)) w2.heap.size x1.cells 36 := RowAt.new _ _ _
  have eR0 : ERow (w2.alloc (.cells x1.cells 36)) W.heap.size := e2.below ((Below.refl _ _).alloc (Nat.le_refl _) _)
  have hg7 : w2.heap.size < (w2.alloc (.cells x1.cells 36)).heap.size := by simp
  have c5 := q0.at'.hd.c5
  have cS := (q0.at'.slots.get HSS.out).1
  have b0 : (0 : Int) ≤ (i : Int) := by omega
  have b1 : (i : Int) < (m1.ss.length : Int) := by omega
  have b2 : (i : Int) ≤ (m1.ss.length : Int) - 1 := by omega
  by_cases hd : s1.state = 1
  · have hd' : (s1.state == 1) = true := by simpa using hd
    have HR : RowKit.Hid (R = if xd.e = 0 ∧ m.closed ≠ 0 then (x5, md.empty i) else (xd, md)) := Lib.hid (by rw [HR.out, if_pos hd])
    obtain ⟨s9, hs9⟩ := HDS.out
    have HS9 := Lib.hid hs9
    clear hd hs9
    go_wp2_with fail
    clear hst0 hsz0 e2 cS c5 hd'
    generalize hwz : w2.alloc (.cells x1.cells 36) = wv at *
    clear hwz
    have hdi := DI0.out wv q0.at'
    clear DI0
    refine hdi.mono ?_
    rintro e w3 hp
    obtain ⟨rfl, p3, q3, hc3⟩ := q0.post hp
    have row3' : ERow w3 w2.heap.size := ERow.chg ⟨_, rfl, row0⟩ hc3 (q0.not (Nat.le_refl _) hg7)
    have eR3' := eR0.chg hc3 (q0.not' hgn hg2)
    have hst7 := row3'.store xd
    have hsz7 := ev_size xd
    have row3 := row3'.set xd
    have q4 := q3.row (Nat.le_refl _) hg7 xd.cells
    have eR3 : ERow (w3.setRow w2.heap.size xd.cells) W.heap.size := eR3'.chg (chg_setRow (F := fun k => k = w2.heap.size) (Chg.refl _ _) _ _ (fun _ => rfl)) (by omega)
    clear hdi hp hc3 row0 eR0 row3' eR3' q0 q3
    have c8 := q4.at'.hd.c8
    rw [q4.mb, HDC.out, HCL.out] at c8
    have cE : (w3.setRow w2.heap.size xd.cells).cell? ⟨w2.heap.size, 10, none⟩ = some (.int .i64 xd.e) := row3.cell 10
    by_cases he : xd.e = 0
    · have he' : (xd.e == 0) = true := by simpa using he
      by_cases hc : m.closed = 0
      · have hc' : (m.closed != 0) = false := by simp [hc]
        have HR2 : RowKit.Hid (R = (xd, md)) := Lib.hid (by rw [HR.out]; exact if_neg (fun h => h.2 hc))
        clear he hc
        have hst := eR3.store xd
        have hsz := ev_size xd
        clear hfl
        go_upto_region 8 with (fail)
        refine wp_region_lit ?_
        refine RowL.wpList_load_row rfl 36 (.tmp 7) rfl w2.heap.size _ xd.cells _ rfl row3 Tryz.underlying36 rfl (by kernel_rfl) ?_
        go_wp2_with fail
        refine bodyPost_ret (results_row rfl _ _ W.heap.size _ _ _ rfl (eR3.set xd) Tryz.underlying36 rfl (by kernel_rfl)) rfl ?_
        obtain ⟨-, p9, r9, -⟩ := r2.post (q4.fin hB2 (.bool true))
        rw [HR2.out]
        exact (r9.row (Nat.le_refl _) hg1 xd.cells).fin hB _
      · have hc' : (m.closed != 0) = true := by simp [hc]
        have HR2 : RowKit.Hid (R = (x5, (md).empty i)) := Lib.hid (by rw [HR.out]; exact if_pos ⟨he, hc⟩)
        have hem := m_empty q4.at' i i s9 HS9.out rfl
        rw [q4.mb] at hem
        clear he hc
        go_wp2_with fail
        refine hem.mono ?_
        rintro e w4 ⟨⟨v4, rfl⟩, h4, hc4⟩
        have q4 := q4.slots h4 hc4
        have e4 := eR3.chg hc4 (fun e => q4.not' hgn hg2 (.inr (.inl e)))
        clear hem h4 hc4 c8 cE
        go_wp2_with fail
        refine (hfl _).mono ?_
        rintro e w5 ⟨rfl, hb5⟩
        have q5 := q4.below hb5
        have e5 := e4.below hb5
        have hst := e5.store x5
        have hsz := ev_size x5
        clear hfl hb5 q4 e4
        go_wp2_with fail
        refine bodyPost_ret (results_row rfl _ _ W.heap.size _ _ _ rfl (e5.set x5) Tryz.underlying36 rfl (by kernel_rfl)) rfl ?_
        obtain ⟨-, p9, r9, -⟩ := r2.post (q5.fin hB2 (.bool true))
        rw [HR2.out]
        exact (r9.row (Nat.le_refl _) hg1 x5.cells).fin hB _
    · have he' : (xd.e == 0) = false := by simpa using he
      have HR2 : RowKit.Hid (R = (xd, md)) := Lib.hid (by rw [HR.out]; exact if_neg (fun h => he h.1))
      clear he
      have hst := eR3.store xd
      have hsz := ev_size xd
      clear hfl
      go_upto_region 8 with (fail)
      refine wp_region_lit ?_
      refine RowL.wpList_load_row rfl 36 (.tmp 7) rfl w2.heap.size _ xd.cells _ rfl row3 Tryz.underlying36 rfl (by kernel_rfl) ?_
      go_wp2_with fail
      refine bodyPost_ret (results_row rfl _ _ W.heap.size _ _ _ rfl (eR3.set xd) Tryz.underlying36 rfl (by kernel_rfl)) rfl ?_
      obtain ⟨-, p9, r9, -⟩ := r2.post (q4.fin hB2 (.bool true))
      rw [HR2.out]
      exact (r9.row (Nat.le_refl _) hg1 xd.cells).fin hB _
  · have hd' : (s1.state == 1) = false := by simpa using hd
    have HR : RowKit.Hid (R = if x1.e = 0 ∧ m.closed ≠ 0 then (x5, m1.empty i) else (x1, m1)) := Lib.hid (by rw [HR.out, if_neg hd])
    clear hd DI0 e2
    have c8 := q0.at'.hd.c8
    rw [q0.mb, HCL.out] at c8
    have cE : (w2.alloc (.cells x1.cells 36)).cell? ⟨w2.heap.size, 10, none⟩ = some (.int .i64 x1.e) := row0.cell 10
    by_cases he : x1.e = 0
    · have he' : (x1.e == 0) = true := by simpa using he
      by_cases hc : m.closed = 0
      · have hc' : (m.closed != 0) = false := by simp [hc]
        have HR2 : RowKit.Hid (R = (x1, m1)) := Lib.hid (by rw [HR.out]; exact if_neg (fun h => h.2 hc))
        clear he hc
        have hst := eR0.store x1
        have hsz := ev_size x1
        clear hfl
        go_upto_region 8 with (fail)
        refine wp_region_lit ?_
        refine RowL.wpList_load_row rfl 36 (.tmp 7) rfl w2.heap.size _ x1.cells _ rfl row0 Tryz.underlying36 rfl (by kernel_rfl) ?_
        go_wp2_with fail
        refine bodyPost_ret (results_row rfl _ _ W.heap.size _ _ _ rfl (eR0.set x1) Tryz.underlying36 rfl (by kernel_rfl)) rfl ?_
        obtain ⟨-, p9, r9, -⟩ := r2.post (q0.fin hB2 (.bool true))
        rw [HR2.out]
        exact (r9.row (Nat.le_refl _) hg1 x1.cells).fin hB _
      · have hc' : (m.closed != 0) = true := by simp [hc]
        have HR2 : RowKit.Hid (R = (x5, (m1).empty i)) := Lib.hid (by rw [HR.out]; exact if_pos ⟨he, hc⟩)
        have hem := m_empty q0.at' i i s1 HSS.out rfl
        rw [q0.mb] at hem
        clear he hc
        go_wp2_with fail
        refine hem.mono ?_
        rintro e w4 ⟨⟨v4, rfl⟩, h4, hc4⟩
        have q4 := q0.slots h4 hc4
        have e4 := eR0.chg hc4 (fun e => q0.not' hgn hg2 (.inr (.inl e)))
        clear hem h4 hc4 c8 cE
        go_wp2_with fail
        refine (hfl _).mono ?_
        rintro e w5 ⟨rfl, hb5⟩
        have q5 := q4.below hb5
        have e5 := e4.below hb5
        have hst := e5.store x5
        have hsz := ev_size x5
        clear hfl hb5 q4 e4
        go_wp2_with fail
        refine bodyPost_ret (results_row rfl _ _ W.heap.size _ _ _ rfl (e5.set x5) Tryz.underlying36 rfl (by kernel_rfl)) rfl ?_
        obtain ⟨-, p9, r9, -⟩ := r2.post (q5.fin hB2 (.bool true))
        rw [HR2.out]
        exact (r9.row (Nat.le_refl _) hg1 x5.cells).fin hB _
    · have he' : (x1.e == 0) = false := by simpa using he
      have HR2 : RowKit.Hid (R = (x1, m1)) := Lib.hid (by rw [HR.out]; exact if_neg (fun h => he h.1))
      clear he
      have hst := eR0.store x1
      have hsz := ev_size x1
      clear hfl
      go_upto_region 8 with (fail)
      refine wp_region_lit ?_
      refine RowL.wpList_load_row rfl 36 (.tmp 7) rfl w2.heap.size _ x1.cells _ rfl row0 Tryz.underlying36 rfl (by kernel_rfl) ?_
      go_wp2_with fail
      refine bodyPost_ret (results_row rfl _ _ W.heap.size _ _ _ rfl (eR0.set x1) Tryz.underlying36 rfl (by kernel_rfl)) rfl ?_
      obtain ⟨-, p9, r9, -⟩ := r2.post (q0.fin hB2 (.bool true))
      rw [HR2.out]
      exact (r9.row (Nat.le_refl _) hg1 x1.cells).fin hB _
end Go.Proofs.YtpmkgddjgebojaaGreatDoor.Mod

namespace Go.Proofs.YtpmkgddjgebojaaGreatDoor.Mod
set_option linter.unusedVariables false
set_option linter.unusedSimpArgs false
open Go.RowKit Hp Slot RowL Life

theorem Re.kb {B : Nat} {W0 w : World} {p p' : Pl} {m' : M} (r : Re B W0 p w p' m') : p'.kb = p.kb := by obtain ⟨_, _, h⟩ := r.same; rw [h]
theorem Re.resting {B : Nat} {W0 w : World} {p p' : Pl} {m' : M} {n : Nat} (r : Re B W0 p w p' m') (hc : Chg (fun k => k = p.kb) w (w.drew.setCells p.kb (n * 9) Wk.zero.cells.toList)) (hn : n < m'.ks.length) :
    Re B W0 p (w.drew.setCells p.kb (n * 9) Wk.zero.cells.toList) p' (m'.rest n) := by
  have hk := r.kb
  have hW := (WorksAt.stable (W' := w.drew) r.at'.works rfl).setL hn Wk.zero
  rw [hk] at hW
  have hA := r.at'.toWorks (by rw [hk]; exact hc) (by rw [hk]; exact hW) (by simp) (by
    intro k hk h2
    rcases List.mem_or_eq_of_mem_set hk with hk | rfl
    · exact r.at'.ok.grants k hk h2
    · cases h2)
  have he : m'.rest n = { m' with ks := m'.ks.set n Wk.zero } := by unfold M.rest; simp
  rw [he]
  exact r.works hA (by rw [hk]; exact hc)
theorem dial_ks (m : M) (i : Nat) (who : Int) : (m.dial i who).2.ks = m.ks := by unfold M.dial; split <;> rfl
theorem take_ks (m : M) (i : Nat) (who : Int) : (m.take who i).2.ks = m.ks := by
  unfold M.take
  have h : ∀ (r : Ev × M), r.2.ks = m.ks → (if r.1.e = 0 ∧ m.closed ≠ 0 then (M.failed 5, r.2.empty i) else r).2.ks = m.ks := fun r hr => by split <;> exact hr
  refine h _ ?_
  split
  · exact dial_ks _ _ _
  · rfl

set_option maxRecDepth 100000 in
set_option maxHeartbeats 8000000 in
theorem m_wake_no {W : World} {p : Pl} {m : M} (h : MAt W p m) (who : Int) (hw : m.has who = false) : Calls Tryz.prog 16 #[.pointer (some ⟨p.mb, 0, none⟩), .int .i64 who] W (MPost W p (.tuple #[(m.wake who).1.1.val, .bool (m.wake who).1.2]) (m.wake who).2) := by
  have HR : RowKit.Hid (m.wake who = ((Ev.zero, false), m)) := Lib.hid (by unfold M.wake; simp [hw])
  generalize m.wake who = R at *
  have hB : Below W.heap.size W ((W.alloc (.cells #[.int .i64 who] 3)).alloc (.cells #[.bool false, .int .i64 0, .int .i64 0, .int .i64 0, .int .i64 0, .bool false, .bool false, .int .i64 0, .int .i64 0, .int .i64 0, .int .i64 0, .int .i64 0, .int .i64 0, .int .i64 0, .int .i64 0, .int .i64 0, .int .i64 0, .int .i64 0] 36)) := ((Below.refl _ _).alloc (Nat.le_refl _) _).alloc (by simp) _
  have hsz0 : ((W.alloc (.cells #[.int .i64 who] 3)).alloc (.cells #[.bool false, .int .i64 0, .int .i64 0, .int .i64 0, .int .i64 0, .bool false, .bool false, .int .i64 0, .int .i64 0, .int .i64 0, .int .i64 0, .int .i64 0, .int .i64 0, .int .i64 0, .int .i64 0, .int .i64 0, .int .i64 0, .int .i64 0] 36)).heap.size = W.heap.size + 1 + 1 := by simp
  have a0 : RowAt ((W.alloc (.cells #[.int .i64 who] 3)).alloc (.cells #[.bool false, .int .i64 0, .int .i64 0, .int .i64 0, .int .i64 0, .bool false, .bool false, .int .i64 0, .int .i64 0, .int .i64 0, .int .i64 0, .int .i64 0, .int .i64 0, .int .i64 0, .int .i64 0, .int .i64 0, .int .i64 0, .int .i64 0] 36)) W.heap.size #[.int .i64 who] 3 := heap_alloc2_old W _ _
  have e0 : RowAt ((W.alloc (.cells #[.int .i64 who] 3)).alloc (.cells #[.bool false, .int .i64 0, .int .i64 0, .int .i64 0, .int .i64 0, .bool false, .bool false, .int .i64 0, .int .i64 0, .int .i64 0, .int .i64 0, .int .i64 0, .int .i64 0, .int .i64 0, .int .i64 0, .int .i64 0, .int .i64 0, .int .i64 0] 36)) (W.heap.size + 1) #[.bool false, .int .i64 0, .int .i64 0, .int .i64 0, .int .i64 0, .bool false, .bool false, .int .i64 0, .int .i64 0, .int .i64 0, .int .i64 0, .int .i64 0, .int .i64 0, .int .i64 0, .int .i64 0, .int .i64 0, .int .i64 0, .int .i64 0] 36 := by have := RowAt.new (W.alloc (.cells #[.int .i64 who] 3)) #[.bool false, .int .i64 0, .int .i64 0, .int .i64 0, .int .i64 0, .bool false, .bool false, .int .i64 0, .int .i64 0, .int .i64 0, .int .i64 0, .int .i64 0, .int .i64 0, .int .i64 0, .int .i64 0, .int .i64 0, .int .i64 0, .int .i64 0] 36; simpa using this
  have h0 := h.below hB
  have hhas := m_has h0 who
  have bc : ((W.alloc (.cells #[.int .i64 who] 3)).alloc (.cells #[.bool false, .int .i64 0, .int .i64 0, .int .i64 0, .int .i64 0, .bool false, .bool false, .int .i64 0, .int .i64 0, .int .i64 0, .int .i64 0, .int .i64 0, .int .i64 0, .int .i64 0, .int .i64 0, .int .i64 0, .int .i64 0, .int .i64 0] 36)).cell? ⟨W.heap.size, 0, none⟩ = some (.int .i64 who) := a0.cell 0
  clear hsz0
  have r0 : Re W.heap.size ((W.alloc (.cells #[.int .i64 who] 3)).alloc (.cells #[.bool false, .int .i64 0, .int .i64 0, .int .i64 0, .int .i64 0, .bool false, .bool false, .int .i64 0, .int .i64 0, .int .i64 0, .int .i64 0, .int .i64 0, .int .i64 0, .int .i64 0, .int .i64 0, .int .i64 0, .int .i64 0, .int .i64 0] 36)) p ((W.alloc (.cells #[.int .i64 who] 3)).alloc (.cells #[.bool false, .int .i64 0, .int .i64 0, .int .i64 0, .int .i64 0, .bool false, .bool false, .int .i64 0, .int .i64 0, .int .i64 0, .int .i64 0, .int .i64 0, .int .i64 0, .int .i64 0, .int .i64 0, .int .i64 0, .int .i64 0, .int .i64 0] 36)) p m := Re.begin h hB
  have er : ERow ((W.alloc (.cells #[.int .i64 who] 3)).alloc (.cells #[.bool false, .int .i64 0, .int .i64 0, .int .i64 0, .int .i64 0, .bool false, .bool false, .int .i64 0, .int .i64 0, .int .i64 0, .int .i64 0, .int .i64 0, .int .i64 0, .int .i64 0, .int .i64 0, .int .i64 0, .int .i64 0, .int .i64 0] 36)) (W.heap.size + 1) := ⟨_, rfl, e0⟩
  rw [hw] at hhas
  go_enter Tryz.func16, Tryz.ntmps16
  go_wp2_with fail
  refine hhas.mono ?_
  rintro e w' ⟨rfl, rfl⟩
  clear hhas a0 e0 h0 bc
  go_upto_region 2 with (fail)
  obtain ⟨Z, z1, z2⟩ := er
  refine wp_region_lit ?_
  refine RowL.wpList_run rfl Ev.zero.val (by go_simp; try rfl) ?_
  refine RowL.wpList_store_row rfl 36 (.tmp 4) (.tmp 11) rfl (W.heap.size + 1) _ Z Ev.zero.cells rfl rfl z2 z1 (by kernel_rfl) (ev_one _) ?_
  go_wp2_with fail
  refine bodyPost_ret (results_row2 rfl _ _ (W.heap.size + 1) _ _ _ rfl (z2.set _) Tryz.underlying36 rfl (by kernel_rfl)) rfl ?_
  rw [HR.out]
  exact (r0.row (by omega) (by first | omega | (simp)) _).fin hB _

set_option maxRecDepth 100000 in
set_option maxHeartbeats 8000000 in
theorem m_wake_told {W : World} {p : Pl} {m : M} (h : MAt W p m) (n : Nat) (op dl : Int) (wt fo : Bool) (sl ge st ks0 : Int) (hw : m.has n = true) (hk : m.ks[n]? = some ⟨3, ⟨op, dl, wt, fo, sl, ge, st⟩, ks0⟩) : Calls Tryz.prog 16 #[.pointer (some ⟨p.mb, 0, none⟩), .int .i64 n] W (MPost W p (.tuple #[(m.wake n).1.1.val, .bool (m.wake n).1.2]) (m.wake n).2) := by
  have HR : RowKit.Hid (m.wake n = ((M.answered (M.failed 5) n ⟨op, dl, wt, fo, sl, ge, st⟩, true), (m.rest n).tidy)) := Lib.hid (by unfold M.wake; simp [hw, M.worker, hk])
  generalize m.wake n = R at *
  have hnl : n < m.ks.length := by simp [M.has] at hw; omega
  have HK := Lib.hid hk
  have hkm : p.mb ≠ p.kb := h.ne.2.2.1
  have hkbW : p.kb < W.heap.size := h.lt (.inr (.inr (.inl rfl)))
  have hmbW : p.mb < W.heap.size := h.lt (.inl rfl)
  have hB : Below W.heap.size W ((W.alloc (.cells #[.int .i64 n] 3)).alloc (.cells #[.bool false, .int .i64 0, .int .i64 0, .int .i64 0, .int .i64 0, .bool false, .bool false, .int .i64 0, .int .i64 0, .int .i64 0, .int .i64 0, .int .i64 0, .int .i64 0, .int .i64 0, .int .i64 0, .int .i64 0, .int .i64 0, .int .i64 0] 36)) := ((Below.refl _ _).alloc (Nat.le_refl _) _).alloc (by simp) _
  have hsz0 : ((W.alloc (.cells #[.int .i64 n] 3)).alloc (.cells #[.bool false, .int .i64 0, .int .i64 0, .int .i64 0, .int .i64 0, .bool false, .bool false, .int .i64 0, .int .i64 0, .int .i64 0, .int .i64 0, .int .i64 0, .int .i64 0, .int .i64 0, .int .i64 0, .int .i64 0, .int .i64 0, .int .i64 0] 36)).heap.size = W.heap.size + 1 + 1 := by simp
  have a0 : RowAt ((W.alloc (.cells #[.int .i64 n] 3)).alloc (.cells #[.bool false, .int .i64 0, .int .i64 0, .int .i64 0, .int .i64 0, .bool false, .bool false, .int .i64 0, .int .i64 0, .int .i64 0, .int .i64 0, .int .i64 0, .int .i64 0, .int .i64 0, .int .i64 0, .int .i64 0, .int .i64 0, .int .i64 0] 36)) W.heap.size #[.int .i64 n] 3 := heap_alloc2_old W _ _
  have e0 : RowAt ((W.alloc (.cells #[.int .i64 n] 3)).alloc (.cells #[.bool false, .int .i64 0, .int .i64 0, .int .i64 0, .int .i64 0, .bool false, .bool false, .int .i64 0, .int .i64 0, .int .i64 0, .int .i64 0, .int .i64 0, .int .i64 0, .int .i64 0, .int .i64 0, .int .i64 0, .int .i64 0, .int .i64 0] 36)) (W.heap.size + 1) #[.bool false, .int .i64 0, .int .i64 0, .int .i64 0, .int .i64 0, .bool false, .bool false, .int .i64 0, .int .i64 0, .int .i64 0, .int .i64 0, .int .i64 0, .int .i64 0, .int .i64 0, .int .i64 0, .int .i64 0, .int .i64 0, .int .i64 0] 36 := by have := RowAt.new (W.alloc (.cells #[.int .i64 n] 3)) #[.bool false, .int .i64 0, .int .i64 0, .int .i64 0, .int .i64 0, .bool false, .bool false, .int .i64 0, .int .i64 0, .int .i64 0, .int .i64 0, .int .i64 0, .int .i64 0, .int .i64 0, .int .i64 0, .int .i64 0, .int .i64 0, .int .i64 0] 36; simpa using this
  have h0 := h.below hB
  have hhas := m_has h0 n
  have bc : ((W.alloc (.cells #[.int .i64 n] 3)).alloc (.cells #[.bool false, .int .i64 0, .int .i64 0, .int .i64 0, .int .i64 0, .bool false, .bool false, .int .i64 0, .int .i64 0, .int .i64 0, .int .i64 0, .int .i64 0, .int .i64 0, .int .i64 0, .int .i64 0, .int .i64 0, .int .i64 0, .int .i64 0] 36)).cell? ⟨W.heap.size, 0, none⟩ = some (.int .i64 n) := a0.cell 0
  rw [hw] at hhas
  have c6 := h0.hd.c6
  have cK := h0.works.get hk
  have hnk := h0.ok.nk
  simp only at cK
  have b0 : (0 : Int) ≤ (n : Int) := by omega
  have b1 : (n : Int) < (m.ks.length : Int) := by omega
  have b2 : (n : Int) ≤ (m.ks.length : Int) - 1 := by omega
  clear hk
  go_enter Tryz.func16, Tryz.ntmps16
  go_wp2_with fail
  refine hhas.mono ?_
  rintro e w' ⟨rfl, rfl⟩
  clear hhas
  generalize hwz : ((W.alloc (.cells #[.int .i64 n] 3)).alloc (.cells #[.bool false, .int .i64 0, .int .i64 0, .int .i64 0, .int .i64 0, .bool false, .bool false, .int .i64 0, .int .i64 0, .int .i64 0, .int .i64 0, .int .i64 0, .int .i64 0, .int .i64 0, .int .i64 0, .int .i64 0, .int .i64 0, .int .i64 0] 36)) = w1 at *
  clear hwz
  obtain ⟨d0, d1, d2, d3, d4, d5, d6, d7, d8⟩ := cK
  have HSZ := Lib.hid hsz0
  clear hsz0 hw
  have L6 : ∀ w', Below w1.heap.size w1 w' → w'.cell? ⟨p.mb, 6, none⟩ = some (.slice (some ⟨p.kb, 0, none⟩) m.ks.length m.ks.length) := fun w' h => Field.bkeep h c6
  have LB : ∀ w', Below w1.heap.size w1 w' → w'.cell? ⟨W.heap.size, 0, none⟩ = some (.int .i64 n) := fun w' h => Field.bkeep h bc
  have Ls0 : ∀ w', Below w1.heap.size w1 w' → w'.cell? ⟨p.kb, n * 9, none⟩ = some (.int .i64 3) := fun w' h => Field.bkeep h d0
  have Ls1 : ∀ w', Below w1.heap.size w1 w' → w'.cell? ⟨p.kb, n * 9 + 1, none⟩ = some (.int .i64 op) := fun w' h => Field.bkeep h d1
  have Ls2 : ∀ w', Below w1.heap.size w1 w' → w'.cell? ⟨p.kb, n * 9 + 2, none⟩ = some (.int .i64 dl) := fun w' h => Field.bkeep h d2
  have Ls3 : ∀ w', Below w1.heap.size w1 w' → w'.cell? ⟨p.kb, n * 9 + 3, none⟩ = some (.bool wt) := fun w' h => Field.bkeep h d3
  have Ls4 : ∀ w', Below w1.heap.size w1 w' → w'.cell? ⟨p.kb, n * 9 + 4, none⟩ = some (.bool fo) := fun w' h => Field.bkeep h d4
  have Ls5 : ∀ w', Below w1.heap.size w1 w' → w'.cell? ⟨p.kb, n * 9 + 5, none⟩ = some (.int .i64 sl) := fun w' h => Field.bkeep h d5
  have Ls6 : ∀ w', Below w1.heap.size w1 w' → w'.cell? ⟨p.kb, n * 9 + 6, none⟩ = some (.int .i64 ge) := fun w' h => Field.bkeep h d6
  have Ls7 : ∀ w', Below w1.heap.size w1 w' → w'.cell? ⟨p.kb, n * 9 + 7, none⟩ = some (.int .i64 st) := fun w' h => Field.bkeep h d7
  have Ls8 : ∀ w', Below w1.heap.size w1 w' → w'.cell? ⟨p.kb, n * 9 + 8, none⟩ = some (.int .i64 ks0) := fun w' h => Field.bkeep h d8
  have hKd : Below w1.heap.size w1 w1.drew := (Below.refl _ _).drew
  clear d0 d1 d2 d3 d4 d5 d6 d7 d8 bc c6
  go_wp2_with fail
  go_region_held3 (fun w' => Below w1.heap.size w1 w') (first | assumption | exact ((Below.refl _ _).alloc (Nat.le_refl _) _) | exact ((Below.refl _ _).alloc (Nat.le_refl _) _).drew | exact ((Below.refl _ _).drew.alloc (Nat.le_refl _) _)) (fail)
  clear L6 LB Ls0 Ls1 Ls2 Ls3 Ls4 Ls5 Ls6 Ls7 Ls8 b0 b1 b2 hKd
  have hb2 : Below w1.heap.size w1 ((w1.alloc (.cells #[.int .i64 3, .int .i64 op, .int .i64 dl, .bool wt, .bool fo, .int .i64 sl, .int .i64 ge, .int .i64 st, .int .i64 ks0] 94)).drew) := ((Below.refl _ _).alloc (Nat.le_refl _) _).drew
  have hB2 := hB.trans (hb2.mono hB.size)
  have r2 := Re.begin h hB2
  have a2 := a0.below hb2
  have e2 := e0.below hb2
  have q2 : RowAt ((w1.alloc (.cells #[.int .i64 3, .int .i64 op, .int .i64 dl, .bool wt, .bool fo, .int .i64 sl, .int .i64 ge, .int .i64 st, .int .i64 ks0] 94)).drew) (W.heap.size + 1 + 1) #[.int .i64 3, .int .i64 op, .int .i64 dl, .bool wt, .bool fo, .int .i64 sl, .int .i64 ge, .int .i64 st, .int .i64 ks0] 94 := by have := RowAt.new w1 #[.int .i64 3, .int .i64 op, .int .i64 dl, .bool wt, .bool fo, .int .i64 sl, .int .i64 ge, .int .i64 st, .int .i64 ks0] 94; rw [HSZ.out] at this; exact this
  have hs2 : (W.heap.size + 1 + 1) < ((w1.alloc (.cells #[.int .i64 3, .int .i64 op, .int .i64 dl, .bool wt, .bool fo, .int .i64 sl, .int .i64 ge, .int .i64 st, .int .i64 ks0] 94)).drew).heap.size := by have : ((w1.alloc (.cells #[.int .i64 3, .int .i64 op, .int .i64 dl, .bool wt, .bool fo, .int .i64 sl, .int .i64 ge, .int .i64 st, .int .i64 ks0] 94)).drew).heap.size = w1.heap.size + 1 := (by simp); have := HSZ.out; omega
  try simp only [HSZ.out]
  clear hb2 a0 e0 hB h0
  generalize hwz : (w1.alloc (.cells #[.int .i64 3, .int .i64 op, .int .i64 dl, .bool wt, .bool fo, .int .i64 sl, .int .i64 ge, .int .i64 st, .int .i64 ks0] 94)).drew = w2 at *
  clear hwz
  have kc0 : w2.cell? ⟨W.heap.size + 1 + 1, 0, none⟩ = some (.int .i64 3) := (q2).cell 0
  have kc1 : w2.cell? ⟨W.heap.size + 1 + 1, 1, none⟩ = some (.int .i64 op) := (q2).cell 1
  have kc2 : w2.cell? ⟨W.heap.size + 1 + 1, 2, none⟩ = some (.int .i64 dl) := (q2).cell 2
  have kc3 : w2.cell? ⟨W.heap.size + 1 + 1, 3, none⟩ = some (.bool wt) := (q2).cell 3
  have kc4 : w2.cell? ⟨W.heap.size + 1 + 1, 4, none⟩ = some (.bool fo) := (q2).cell 4
  have kc5 : w2.cell? ⟨W.heap.size + 1 + 1, 5, none⟩ = some (.int .i64 sl) := (q2).cell 5
  have kc6 : w2.cell? ⟨W.heap.size + 1 + 1, 6, none⟩ = some (.int .i64 ge) := (q2).cell 6
  have kc7 : w2.cell? ⟨W.heap.size + 1 + 1, 7, none⟩ = some (.int .i64 st) := (q2).cell 7
  have kc8 : w2.cell? ⟨W.heap.size + 1 + 1, 8, none⟩ = some (.int .i64 ks0) := (q2).cell 8
  have bc2 : w2.cell? ⟨W.heap.size, 0, none⟩ = some (.int .i64 n) := a2.cell 0
  have er2 : ERow w2 (W.heap.size + 1) := ⟨_, rfl, e2⟩
  have hfl := failed_any w2 5
  have hf : M.failed 5 = { Ev.zero with e := 5 } := rfl
  rw [← hf] at hfl
  generalize M.failed 5 = x at *
  clear hf
  go_wp2_with fail
  refine hfl.mono ?_
  rintro e w3 ⟨rfl, hb3⟩
  have r3 := r2.below hb3
  have er3 := er2.below hb3
  have a3 := a2.below hb3
  have q3 := q2.below hb3
  have hst := er3.store x
  have hsz := ev_size x
  have r4 := r3.row (by omega) (by omega) x.cells (g := (W.heap.size + 1))
  have row4 := er3.set x
  have hcs : Chg (fun k => k = (W.heap.size + 1)) w3 (w3.setRow (W.heap.size + 1) x.cells) := chg_setRow (Chg.refl _ _) _ _ (fun _ => rfl)
  have a4 := a3.chg hcs (by omega)
  have q4 := q3.chg hcs (by omega)
  clear hfl hb3 r2 er2 a2 q2 e2 r3 er3 a3 q3 hcs kc0 kc1 kc2 kc3 kc4 kc5 kc6 kc7 kc8 bc2
  go_upto_region 12 with (fail)
  generalize hwz : w3.setRow (W.heap.size + 1) x.cells = w4 at *
  clear hwz hst hsz
  have A6 := r4.at'
  have c6 := A6.hd.c6
  rw [r4.mb, r4.kb] at c6
  have hlm6 : p.mb < w4.heap.size := by have := A6.lt (.inl rfl); rwa [r4.mb] at this
  have L6 : ∀ w', Chg (fun k => k = p.kb) w4 w' → w'.cell? ⟨p.mb, 6, none⟩ = some (.slice (some ⟨p.kb, 0, none⟩) m.ks.length m.ks.length) := fun w' h => (h.cell (p := ⟨p.mb, 6, none⟩) hlm6 hkm).trans c6
  have LB : ∀ w', Chg (fun k => k = p.kb) w4 w' → w'.cell? ⟨W.heap.size, 0, none⟩ = some (.int .i64 n) := fun w' h => ((a4).chg h (by omega)).cell 0
  have hKd : Chg (fun k => k = p.kb) w4 w4.drew := (Chg.refl _ _).drew
  have hth : w4.drew.there p.kb (n * 9) 9 := by
    have := WorksAt.there A6.works (i := n) (hnl)
    rw [r4.kb] at this
    simpa using this
  have hset : Chg (fun k => k = p.kb) w4 (w4.drew.setCells p.kb (n * 9) Wk.zero.cells.toList) := hKd.trans (chg_setCells _ _ _ _) (fun _ _ h => h)
  have r7 := r4.resting hset (hnl)
  have row7 := (row4).chg hset (by omega)
  have k7 := (q4).chg hset (by omega)
  have b7 := (a4).chg hset (by omega)
  have R7 := Lib.hid r7
  clear c6 A6 r7
  go_upto_region 12 with (fail)
  refine wp_region_held_drew (S := fun w' => Chg (fun k => k = p.kb) w4 w') (by kernel_rfl) (by exact hKd) (fun hHeld => ?_)
  refine take_of (i := 0) (d := some 58) (op := .move (.tmp 0)) (gd := none) (v := (.pointer (some ⟨p.mb, 0, none⟩))) (by kernel_rfl) (by kernel_rfl) (by kernel_rfl) (by kernel_rfl) (fun _ _ _ h => h) (by kernel_rfl) (run_move_of (.tmp 0) (.pointer (some ⟨p.mb, 0, none⟩)) (by kernel_rfl)) hHeld ?_
  try simp only [Act.put, List.setIfInBounds_toArray, List.set_cons_zero, List.set_cons_succ]
  refine takeg (i := 1) (d := some 59) (v := ?_) (by kernel_rfl) (by kernel_rfl) (by kernel_rfl) (by kernel_rfl) (fun _ _ _ h => h) (by kernel_rfl) ?_ hHeld ?_
  rotate_left
  · intro w hSw
    try dsimp only at hSw
    go_simp
    try with_reducible rfl
  try simp only [Act.put, List.setIfInBounds_toArray, List.set_cons_zero, List.set_cons_succ]
  refine takeg (i := 2) (d := some 60) (v := ?_) (by kernel_rfl) (by kernel_rfl) (by kernel_rfl) (by kernel_rfl) (fun _ _ _ h => h) (by kernel_rfl) ?_ hHeld ?_
  rotate_left
  · intro w hSw
    try dsimp only at hSw
    go_simp
    try with_reducible rfl
  try simp only [Act.put, List.setIfInBounds_toArray, List.set_cons_zero, List.set_cons_succ]
  refine takeg (i := 3) (d := some 61) (v := ?_) (by kernel_rfl) (by kernel_rfl) (by kernel_rfl) (by kernel_rfl) (fun _ _ _ h => h) (by kernel_rfl) ?_ hHeld ?_
  rotate_left
  · intro w hSw
    try dsimp only at hSw
    go_simp
    try with_reducible rfl
  try simp only [Act.put, List.setIfInBounds_toArray, List.set_cons_zero, List.set_cons_succ]
  refine takeg (i := 4) (d := some 62) (v := ?_) (by kernel_rfl) (by kernel_rfl) (by kernel_rfl) (by kernel_rfl) (fun _ _ _ h => h) (by kernel_rfl) ?_ hHeld ?_
  rotate_left
  · intro w hSw
    try dsimp only at hSw
    go_simp
    try with_reducible rfl
  try simp only [Act.put, List.setIfInBounds_toArray, List.set_cons_zero, List.set_cons_succ]
  refine takeg (i := 5) (d := some 63) (v := ?_) (by kernel_rfl) (by kernel_rfl) (by kernel_rfl) (by kernel_rfl) (fun _ _ _ h => h) (by kernel_rfl) ?_ hHeld ?_
  rotate_left
  · intro w hSw
    try dsimp only at hSw
    go_simp
    try with_reducible rfl
  try simp only [Act.put, List.setIfInBounds_toArray, List.set_cons_zero, List.set_cons_succ]
  refine takeg (i := 6) (d := some 64) (v := ?_) (by kernel_rfl) (by kernel_rfl) (by kernel_rfl) (by kernel_rfl) (fun _ _ _ h => h) (by kernel_rfl) ?_ hHeld ?_
  rotate_left
  · intro w hSw
    try dsimp only at hSw
    go_simp
    try with_reducible rfl
  try simp only [Act.put, List.setIfInBounds_toArray, List.set_cons_zero, List.set_cons_succ]
  refine ready1 (i := 7) (by kernel_rfl) (step_store_mid 94 (.tmp 64) (.tmp 63) (by kernel_rfl) p.kb (n * 9) Wk.zero.cells (by kernel_rfl) (by kernel_rfl) hth (by kernel_rfl) (by kernel_rfl) hset (fun _ => ?_))
  refine wpAnyH_done (by kernel_rfl) ?_ _
  generalize hwz : w4.drew.setCells p.kb (n * 9) Wk.zero.cells.toList = w7 at *
  clear hwz hset hth hKd L6 LB hHeld
  have hty := m_tidy R7.out.at'
  rw [R7.out.mb] at hty
  go_wp2_with fail
  refine hty.mono ?_
  rintro e w8 ⟨v8, hp8⟩
  obtain ⟨rfl, p8, r8, hc8⟩ := R7.out.post hp8
  have row8 := RowAt.kept row7 R7.out (by omega) (by omega) hc8
  have b8 := RowAt.kept b7 R7.out (Nat.le_refl _) (by omega) hc8
  have k8 := RowAt.kept k7 R7.out (by omega) hs2 hc8
  have han := answered_any w8 (x) n ⟨op, dl, wt, fo, sl, ge, st⟩
  clear hty hp8 hc8 R7 row7 b7 k7
  have hyy : ∃ y, y = M.answered (x) n ⟨op, dl, wt, fo, sl, ge, st⟩ := ⟨_, rfl⟩
  obtain ⟨y, hy⟩ := hyy
  rw [← hy] at han
  have HY := Lib.hid hy
  clear hy
  have bcell8 : w8.cell? ⟨W.heap.size, 0, none⟩ = some (.int .i64 n) := b8.cell 0
  have kc0 : w8.cell? ⟨W.heap.size + 1 + 1, 0, none⟩ = some (.int .i64 3) := (k8).cell 0
  have kc1 : w8.cell? ⟨W.heap.size + 1 + 1, 1, none⟩ = some (.int .i64 op) := (k8).cell 1
  have kc2 : w8.cell? ⟨W.heap.size + 1 + 1, 2, none⟩ = some (.int .i64 dl) := (k8).cell 2
  have kc3 : w8.cell? ⟨W.heap.size + 1 + 1, 3, none⟩ = some (.bool wt) := (k8).cell 3
  have kc4 : w8.cell? ⟨W.heap.size + 1 + 1, 4, none⟩ = some (.bool fo) := (k8).cell 4
  have kc5 : w8.cell? ⟨W.heap.size + 1 + 1, 5, none⟩ = some (.int .i64 sl) := (k8).cell 5
  have kc6 : w8.cell? ⟨W.heap.size + 1 + 1, 6, none⟩ = some (.int .i64 ge) := (k8).cell 6
  have kc7 : w8.cell? ⟨W.heap.size + 1 + 1, 7, none⟩ = some (.int .i64 st) := (k8).cell 7
  have kc8 : w8.cell? ⟨W.heap.size + 1 + 1, 8, none⟩ = some (.int .i64 ks0) := (k8).cell 8
  go_upto_region 14 with (fail)
  refine wp_region_lit ?_
  refine RowL.wpList_load_row rfl 36 (.tmp 4) rfl (W.heap.size + 1) _ (x).cells _ rfl row8 Tryz.underlying36 rfl (by kernel_rfl) ?_
  go_wp2_with fail
  refine han.mono ?_
  rintro e w9 ⟨rfl, hb9⟩
  have r9 := r8.below hb9
  have row9 := row8.below hb9
  have hst := (show ERow w9 (W.heap.size + 1) from ⟨_, rfl, row9⟩).store y
  have hsz := ev_size y
  have row10 := (show ERow w9 (W.heap.size + 1) from ⟨_, rfl, row9⟩).set y
  clear han hb9 r8 row8 b8 k8 row9 bcell8 kc0 kc1 kc2 kc3 kc4 kc5 kc6 kc7 kc8
  go_wp2_with fail
  refine bodyPost_ret (results_row2 rfl _ _ (W.heap.size + 1) _ _ _ rfl row10 Tryz.underlying36 rfl (by kernel_rfl)) rfl ?_
  rw [HR.out, HY.out]
  exact (r9.row (by omega) (by omega) _).fin hB2 _


set_option maxRecDepth 100000 in
set_option maxHeartbeats 8000000 in
theorem m_wake_granted {W : World} {p : Pl} {m : M} (h : MAt W p m) (n i : Nat) (op dl : Int) (wt fo : Bool) (sl ge st : Int) (hw : m.has n = true) (hk : m.ks[n]? = some ⟨2, ⟨op, dl, wt, fo, sl, ge, st⟩, i⟩) : Calls Tryz.prog 16 #[.pointer (some ⟨p.mb, 0, none⟩), .int .i64 n] W (MPost W p (.tuple #[(m.wake n).1.1.val, .bool (m.wake n).1.2]) (m.wake n).2) := by
  have HR0 : RowKit.Hid (m.wake n = ((M.answered (m.take n i).1 n ⟨op, dl, wt, fo, sl, ge, st⟩, true), ((m.take n i).2.rest n).tidy)) := Lib.hid (by unfold M.wake; simp [hw, M.worker, hk])
  have hgr := h.ok.grants _ (List.mem_of_getElem? hk) rfl
  obtain ⟨s, hs⟩ : ∃ s, m.ss[i]? = some s := ⟨_, List.getElem?_eq_getElem (by simp only at hgr; omega)⟩
  have hks := take_ks m i n
  have htk0 := fun (w : World) (h : MAt w p m) => m_take h i n s hs
  generalize m.wake n = R at *
  generalize m.take n i = D at *
  obtain ⟨x, m2⟩ := D
  simp only at htk0 hks
  have HR := Lib.hid HR0.out
  have HKS := Lib.hid hks
  simp only at HR
  clear hgr hs hks HR0
  have hnl : n < m.ks.length := by simp [M.has] at hw; omega
  have HK := Lib.hid hk
  have hkm : p.mb ≠ p.kb := h.ne.2.2.1
  have hkbW : p.kb < W.heap.size := h.lt (.inr (.inr (.inl rfl)))
  have hmbW : p.mb < W.heap.size := h.lt (.inl rfl)
  have hB : Below W.heap.size W ((W.alloc (.cells #[.int .i64 n] 3)).alloc (.cells #[.bool false, .int .i64 0, .int .i64 0, .int .i64 0, .int .i64 0, .bool false, .bool false, .int .i64 0, .int .i64 0, .int .i64 0, .int .i64 0, .int .i64 0, .int .i64 0, .int .i64 0, .int .i64 0, .int .i64 0, .int .i64 0, .int .i64 0] 36)) := ((Below.refl _ _).alloc (Nat.le_refl _) _).alloc (by simp) _
  have hsz0 : ((W.alloc (.cells #[.int .i64 n] 3)).alloc (.cells #[.bool false, .int .i64 0, .int .i64 0, .int .i64 0, .int .i64 0, .bool false, .bool false, .int .i64 0, .int .i64 0, .int .i64 0, .int .i64 0, .int .i64 0, .int .i64 0, .int .i64 0, .int .i64 0, .int .i64 0, .int .i64 0, .int .i64 0] 36)).heap.size = W.heap.size + 1 + 1 := by simp
  have a0 : RowAt ((W.alloc (.cells #[.int .i64 n] 3)).alloc (.cells #[.bool false, .int .i64 0, .int .i64 0, .int .i64 0, .int .i64 0, .bool false, .bool false, .int .i64 0, .int .i64 0, .int .i64 0, .int .i64 0, .int .i64 0, .int .i64 0, .int .i64 0, .int .i64 0, .int .i64 0, .int .i64 0, .int .i64 0] 36)) W.heap.size #[.int .i64 n] 3 := heap_alloc2_old W _ _
  have e0 : RowAt ((W.alloc (.cells #[.int .i64 n] 3)).alloc (.cells #[.bool false, .int .i64 0, .int .i64 0, .int .i64 0, .int .i64 0, .bool false, .bool false, .int .i64 0, .int .i64 0, .int .i64 0, .int .i64 0, .int .i64 0, .int .i64 0, .int .i64 0, .int .i64 0, .int .i64 0, .int .i64 0, .int .i64 0] 36)) (W.heap.size + 1) #[.bool false, .int .i64 0, .int .i64 0, .int .i64 0, .int .i64 0, .bool false, .bool false, .int .i64 0, .int .i64 0, .int .i64 0, .int .i64 0, .int .i64 0, .int .i64 0, .int .i64 0, .int .i64 0, .int .i64 0, .int .i64 0, .int .i64 0] 36 := by have := RowAt.new (W.alloc (.cells #[.int .i64 n] 3)) #[.bool false, .int .i64 0, .int .i64 0, .int .i64 0, .int .i64 0, .bool false, .bool false, .int .i64 0, .int .i64 0, .int .i64 0, .int .i64 0, .int .i64 0, .int .i64 0, .int .i64 0, .int .i64 0, .int .i64 0, .int .i64 0, .int .i64 0] 36; simpa using this
  have h0 := h.below hB
  have hhas := m_has h0 n
  have bc : ((W.alloc (.cells #[.int .i64 n] 3)).alloc (.cells #[.bool false, .int .i64 0, .int .i64 0, .int .i64 0, .int .i64 0, .bool false, .bool false, .int .i64 0, .int .i64 0, .int .i64 0, .int .i64 0, .int .i64 0, .int .i64 0, .int .i64 0, .int .i64 0, .int .i64 0, .int .i64 0, .int .i64 0] 36)).cell? ⟨W.heap.size, 0, none⟩ = some (.int .i64 n) := a0.cell 0
  rw [hw] at hhas
  have c6 := h0.hd.c6
  have cK := h0.works.get hk
  have hnk := h0.ok.nk
  simp only at cK
  have b0 : (0 : Int) ≤ (n : Int) := by omega
  have b1 : (n : Int) < (m.ks.length : Int) := by omega
  have b2 : (n : Int) ≤ (m.ks.length : Int) - 1 := by omega
  clear hk
  go_enter Tryz.func16, Tryz.ntmps16
  go_wp2_with fail
  refine hhas.mono ?_
  rintro e w' ⟨rfl, rfl⟩
  clear hhas
  generalize hwz : ((W.alloc (.cells #[.int .i64 n] 3)).alloc (.cells #[.bool false, .int .i64 0, .int .i64 0, .int .i64 0, .int .i64 0, .bool false, .bool false, .int .i64 0, .int .i64 0, .int .i64 0, .int .i64 0, .int .i64 0, .int .i64 0, .int .i64 0, .int .i64 0, .int .i64 0, .int .i64 0, .int .i64 0] 36)) = w1 at *
  clear hwz
  obtain ⟨d0, d1, d2, d3, d4, d5, d6, d7, d8⟩ := cK
  have HSZ := Lib.hid hsz0
  clear hsz0 hw
  have L6 : ∀ w', Below w1.heap.size w1 w' → w'.cell? ⟨p.mb, 6, none⟩ = some (.slice (some ⟨p.kb, 0, none⟩) m.ks.length m.ks.length) := fun w' h => Field.bkeep h c6
  have LB : ∀ w', Below w1.heap.size w1 w' → w'.cell? ⟨W.heap.size, 0, none⟩ = some (.int .i64 n) := fun w' h => Field.bkeep h bc
  have Ls0 : ∀ w', Below w1.heap.size w1 w' → w'.cell? ⟨p.kb, n * 9, none⟩ = some (.int .i64 2) := fun w' h => Field.bkeep h d0
  have Ls1 : ∀ w', Below w1.heap.size w1 w' → w'.cell? ⟨p.kb, n * 9 + 1, none⟩ = some (.int .i64 op) := fun w' h => Field.bkeep h d1
  have Ls2 : ∀ w', Below w1.heap.size w1 w' → w'.cell? ⟨p.kb, n * 9 + 2, none⟩ = some (.int .i64 dl) := fun w' h => Field.bkeep h d2
  have Ls3 : ∀ w', Below w1.heap.size w1 w' → w'.cell? ⟨p.kb, n * 9 + 3, none⟩ = some (.bool wt) := fun w' h => Field.bkeep h d3
  have Ls4 : ∀ w', Below w1.heap.size w1 w' → w'.cell? ⟨p.kb, n * 9 + 4, none⟩ = some (.bool fo) := fun w' h => Field.bkeep h d4
  have Ls5 : ∀ w', Below w1.heap.size w1 w' → w'.cell? ⟨p.kb, n * 9 + 5, none⟩ = some (.int .i64 sl) := fun w' h => Field.bkeep h d5
  have Ls6 : ∀ w', Below w1.heap.size w1 w' → w'.cell? ⟨p.kb, n * 9 + 6, none⟩ = some (.int .i64 ge) := fun w' h => Field.bkeep h d6
  have Ls7 : ∀ w', Below w1.heap.size w1 w' → w'.cell? ⟨p.kb, n * 9 + 7, none⟩ = some (.int .i64 st) := fun w' h => Field.bkeep h d7
  have Ls8 : ∀ w', Below w1.heap.size w1 w' → w'.cell? ⟨p.kb, n * 9 + 8, none⟩ = some (.int .i64 i) := fun w' h => Field.bkeep h d8
  have hKd : Below w1.heap.size w1 w1.drew := (Below.refl _ _).drew
  clear d0 d1 d2 d3 d4 d5 d6 d7 d8 bc c6
  go_wp2_with fail
  go_region_held3 (fun w' => Below w1.heap.size w1 w') (first | assumption | exact ((Below.refl _ _).alloc (Nat.le_refl _) _) | exact ((Below.refl _ _).alloc (Nat.le_refl _) _).drew | exact ((Below.refl _ _).drew.alloc (Nat.le_refl _) _)) (fail)
  clear L6 LB Ls0 Ls1 Ls2 Ls3 Ls4 Ls5 Ls6 Ls7 Ls8 b0 b1 b2 hKd
  have hb2 : Below w1.heap.size w1 ((w1.alloc (.cells #[.int .i64 2, .int .i64 op, .int .i64 dl, .bool wt, .bool fo, .int .i64 sl, .int .i64 ge, .int .i64 st, .int .i64 i] 94)).drew) := ((Below.refl _ _).alloc (Nat.le_refl _) _).drew
  have hB2 := hB.trans (hb2.mono hB.size)
  have r2 := Re.begin h hB2
  have a2 := a0.below hb2
  have e2 := e0.below hb2
  have q2 : RowAt ((w1.alloc (.cells #[.int .i64 2, .int .i64 op, .int .i64 dl, .bool wt, .bool fo, .int .i64 sl, .int .i64 ge, .int .i64 st, .int .i64 i] 94)).drew) (W.heap.size + 1 + 1) #[.int .i64 2, .int .i64 op, .int .i64 dl, .bool wt, .bool fo, .int .i64 sl, .int .i64 ge, .int .i64 st, .int .i64 i] 94 := by have := RowAt.new w1 #[.int .i64 2, .int .i64 op, .int .i64 dl, .bool wt, .bool fo, .int .i64 sl, .int .i64 ge, .int .i64 st, .int .i64 i] 94; rw [HSZ.out] at this; exact this
  have hs2 : (W.heap.size + 1 + 1) < ((w1.alloc (.cells #[.int .i64 2, .int .i64 op, .int .i64 dl, .bool wt, .bool fo, .int .i64 sl, .int .i64 ge, .int .i64 st, .int .i64 i] 94)).drew).heap.size := by have : ((w1.alloc (.cells #[.int .i64 2, .int .i64 op, .int .i64 dl, .bool wt, .bool fo, .int .i64 sl, .int .i64 ge, .int .i64 st, .int .i64 i] 94)).drew).heap.size = w1.heap.size + 1 := (by simp); have := HSZ.out; omega
  try simp only [HSZ.out]
  clear hb2 a0 e0 hB h0
  generalize hwz : (w1.alloc (.cells #[.int .i64 2, .int .i64 op, .int .i64 dl, .bool wt, .bool fo, .int .i64 sl, .int .i64 ge, .int .i64 st, .int .i64 i] 94)).drew = w2 at *
  clear hwz
  have kc0 : w2.cell? ⟨W.heap.size + 1 + 1, 0, none⟩ = some (.int .i64 2) := (q2).cell 0
  have kc1 : w2.cell? ⟨W.heap.size + 1 + 1, 1, none⟩ = some (.int .i64 op) := (q2).cell 1
  have kc2 : w2.cell? ⟨W.heap.size + 1 + 1, 2, none⟩ = some (.int .i64 dl) := (q2).cell 2
  have kc3 : w2.cell? ⟨W.heap.size + 1 + 1, 3, none⟩ = some (.bool wt) := (q2).cell 3
  have kc4 : w2.cell? ⟨W.heap.size + 1 + 1, 4, none⟩ = some (.bool fo) := (q2).cell 4
  have kc5 : w2.cell? ⟨W.heap.size + 1 + 1, 5, none⟩ = some (.int .i64 sl) := (q2).cell 5
  have kc6 : w2.cell? ⟨W.heap.size + 1 + 1, 6, none⟩ = some (.int .i64 ge) := (q2).cell 6
  have kc7 : w2.cell? ⟨W.heap.size + 1 + 1, 7, none⟩ = some (.int .i64 st) := (q2).cell 7
  have kc8 : w2.cell? ⟨W.heap.size + 1 + 1, 8, none⟩ = some (.int .i64 i) := (q2).cell 8
  have bc2 : w2.cell? ⟨W.heap.size, 0, none⟩ = some (.int .i64 n) := a2.cell 0
  have er2 : ERow w2 (W.heap.size + 1) := ⟨_, rfl, e2⟩
  have htk := htk0 w2 r2.at'
  clear htk0
  go_wp2_with fail
  refine htk.mono ?_
  rintro e w3 hp3
  obtain ⟨rfl, p3, r3, hc3⟩ := r2.post hp3
  have er3 := er2.chg hc3 (r2.not (by omega) (by omega))
  have a3 := RowAt.kept a2 r2 (Nat.le_refl _) (by omega) hc3
  have q3 := RowAt.kept q2 r2 (by omega) hs2 hc3
  clear htk hp3 hc3 r2 er2 a2 q2 e2 kc0 kc1 kc2 kc3 kc4 kc5 kc6 kc7 kc8 bc2
  have hst := er3.store x
  have hsz := ev_size x
  have r4 := r3.row (by omega) (by omega) x.cells (g := (W.heap.size + 1))
  have row4 := er3.set x
  have hcs : Chg (fun k => k = (W.heap.size + 1)) w3 (w3.setRow (W.heap.size + 1) x.cells) := chg_setRow (Chg.refl _ _) _ _ (fun _ => rfl)
  have a4 := a3.chg hcs (by omega)
  have q4 := q3.chg hcs (by omega)
  clear r3 er3 a3 q3 hcs
  go_upto_region 12 with (fail)
  generalize hwz : w3.setRow (W.heap.size + 1) x.cells = w4 at *
  clear hwz hst hsz
  have A6 := r4.at'
  have c6 := A6.hd.c6
  rw [r4.mb, r4.kb, HKS.out] at c6
  have hlm6 : p.mb < w4.heap.size := by have := A6.lt (.inl rfl); rwa [r4.mb] at this
  have L6 : ∀ w', Chg (fun k => k = p.kb) w4 w' → w'.cell? ⟨p.mb, 6, none⟩ = some (.slice (some ⟨p.kb, 0, none⟩) m.ks.length m.ks.length) := fun w' h => (h.cell (p := ⟨p.mb, 6, none⟩) hlm6 hkm).trans c6
  have LB : ∀ w', Chg (fun k => k = p.kb) w4 w' → w'.cell? ⟨W.heap.size, 0, none⟩ = some (.int .i64 n) := fun w' h => ((a4).chg h (by omega)).cell 0
  have hKd : Chg (fun k => k = p.kb) w4 w4.drew := (Chg.refl _ _).drew
  have hth : w4.drew.there p.kb (n * 9) 9 := by
    have := WorksAt.there A6.works (i := n) (by rw [HKS.out]; exact hnl)
    rw [r4.kb] at this
    simpa using this
  have hset : Chg (fun k => k = p.kb) w4 (w4.drew.setCells p.kb (n * 9) Wk.zero.cells.toList) := hKd.trans (chg_setCells _ _ _ _) (fun _ _ h => h)
  have r7 := r4.resting hset (by rw [HKS.out]; exact hnl)
  have row7 := (row4).chg hset (by omega)
  have k7 := (q4).chg hset (by omega)
  have b7 := (a4).chg hset (by omega)
  have R7 := Lib.hid r7
  clear c6 A6 r7
  go_upto_region 12 with (fail)
  refine wp_region_held_drew (S := fun w' => Chg (fun k => k = p.kb) w4 w') (by kernel_rfl) (by exact hKd) (fun hHeld => ?_)
  refine take_of (i := 0) (d := some 58) (op := .move (.tmp 0)) (gd := none) (v := (.pointer (some ⟨p.mb, 0, none⟩))) (by kernel_rfl) (by kernel_rfl) (by kernel_rfl) (by kernel_rfl) (fun _ _ _ h => h) (by kernel_rfl) (run_move_of (.tmp 0) (.pointer (some ⟨p.mb, 0, none⟩)) (by kernel_rfl)) hHeld ?_
  try simp only [Act.put, List.setIfInBounds_toArray, List.set_cons_zero, List.set_cons_succ]
  refine takeg (i := 1) (d := some 59) (v := ?_) (by kernel_rfl) (by kernel_rfl) (by kernel_rfl) (by kernel_rfl) (fun _ _ _ h => h) (by kernel_rfl) ?_ hHeld ?_
  rotate_left
  · intro w hSw
    try dsimp only at hSw
    go_simp
    try with_reducible rfl
  try simp only [Act.put, List.setIfInBounds_toArray, List.set_cons_zero, List.set_cons_succ]
  refine takeg (i := 2) (d := some 60) (v := ?_) (by kernel_rfl) (by kernel_rfl) (by kernel_rfl) (by kernel_rfl) (fun _ _ _ h => h) (by kernel_rfl) ?_ hHeld ?_
  rotate_left
  · intro w hSw
    try dsimp only at hSw
    go_simp
    try with_reducible rfl
  try simp only [Act.put, List.setIfInBounds_toArray, List.set_cons_zero, List.set_cons_succ]
  refine takeg (i := 3) (d := some 61) (v := ?_) (by kernel_rfl) (by kernel_rfl) (by kernel_rfl) (by kernel_rfl) (fun _ _ _ h => h) (by kernel_rfl) ?_ hHeld ?_
  rotate_left
  · intro w hSw
    try dsimp only at hSw
    go_simp
    try with_reducible rfl
  try simp only [Act.put, List.setIfInBounds_toArray, List.set_cons_zero, List.set_cons_succ]
  refine takeg (i := 4) (d := some 62) (v := ?_) (by kernel_rfl) (by kernel_rfl) (by kernel_rfl) (by kernel_rfl) (fun _ _ _ h => h) (by kernel_rfl) ?_ hHeld ?_
  rotate_left
  · intro w hSw
    try dsimp only at hSw
    go_simp
    try with_reducible rfl
  try simp only [Act.put, List.setIfInBounds_toArray, List.set_cons_zero, List.set_cons_succ]
  refine takeg (i := 5) (d := some 63) (v := ?_) (by kernel_rfl) (by kernel_rfl) (by kernel_rfl) (by kernel_rfl) (fun _ _ _ h => h) (by kernel_rfl) ?_ hHeld ?_
  rotate_left
  · intro w hSw
    try dsimp only at hSw
    go_simp
    try with_reducible rfl
  try simp only [Act.put, List.setIfInBounds_toArray, List.set_cons_zero, List.set_cons_succ]
  refine takeg (i := 6) (d := some 64) (v := ?_) (by kernel_rfl) (by kernel_rfl) (by kernel_rfl) (by kernel_rfl) (fun _ _ _ h => h) (by kernel_rfl) ?_ hHeld ?_
  rotate_left
  · intro w hSw
    try dsimp only at hSw
    go_simp
    try with_reducible rfl
  try simp only [Act.put, List.setIfInBounds_toArray, List.set_cons_zero, List.set_cons_succ]
  refine ready1 (i := 7) (by kernel_rfl) (step_store_mid 94 (.tmp 64) (.tmp 63) (by kernel_rfl) p.kb (n * 9) Wk.zero.cells (by kernel_rfl) (by kernel_rfl) hth (by kernel_rfl) (by kernel_rfl) hset (fun _ => ?_))
  refine wpAnyH_done (by kernel_rfl) ?_ _
  generalize hwz : w4.drew.setCells p.kb (n * 9) Wk.zero.cells.toList = w7 at *
  clear hwz hset hth hKd L6 LB hHeld
  have hty := m_tidy R7.out.at'
  rw [R7.out.mb] at hty
  go_wp2_with fail
  refine hty.mono ?_
  rintro e w8 ⟨v8, hp8⟩
  obtain ⟨rfl, p8, r8, hc8⟩ := R7.out.post hp8
  have row8 := RowAt.kept row7 R7.out (by omega) (by omega) hc8
  have b8 := RowAt.kept b7 R7.out (Nat.le_refl _) (by omega) hc8
  have k8 := RowAt.kept k7 R7.out (by omega) hs2 hc8
  have han := answered_any w8 (x) n ⟨op, dl, wt, fo, sl, ge, st⟩
  clear hty hp8 hc8 R7 row7 b7 k7
  have hyy : ∃ y, y = M.answered (x) n ⟨op, dl, wt, fo, sl, ge, st⟩ := ⟨_, rfl⟩
  obtain ⟨y, hy⟩ := hyy
  rw [← hy] at han
  have HY := Lib.hid hy
  clear hy
  have bcell8 : w8.cell? ⟨W.heap.size, 0, none⟩ = some (.int .i64 n) := b8.cell 0
  have kc0 : w8.cell? ⟨W.heap.size + 1 + 1, 0, none⟩ = some (.int .i64 2) := (k8).cell 0
  have kc1 : w8.cell? ⟨W.heap.size + 1 + 1, 1, none⟩ = some (.int .i64 op) := (k8).cell 1
  have kc2 : w8.cell? ⟨W.heap.size + 1 + 1, 2, none⟩ = some (.int .i64 dl) := (k8).cell 2
  have kc3 : w8.cell? ⟨W.heap.size + 1 + 1, 3, none⟩ = some (.bool wt) := (k8).cell 3
  have kc4 : w8.cell? ⟨W.heap.size + 1 + 1, 4, none⟩ = some (.bool fo) := (k8).cell 4
  have kc5 : w8.cell? ⟨W.heap.size + 1 + 1, 5, none⟩ = some (.int .i64 sl) := (k8).cell 5
  have kc6 : w8.cell? ⟨W.heap.size + 1 + 1, 6, none⟩ = some (.int .i64 ge) := (k8).cell 6
  have kc7 : w8.cell? ⟨W.heap.size + 1 + 1, 7, none⟩ = some (.int .i64 st) := (k8).cell 7
  have kc8 : w8.cell? ⟨W.heap.size + 1 + 1, 8, none⟩ = some (.int .i64 i) := (k8).cell 8
  go_upto_region 14 with (fail)
  refine wp_region_lit ?_
  refine RowL.wpList_load_row rfl 36 (.tmp 4) rfl (W.heap.size + 1) _ (x).cells _ rfl row8 Tryz.underlying36 rfl (by kernel_rfl) ?_
  go_wp2_with fail
  refine han.mono ?_
  rintro e w9 ⟨rfl, hb9⟩
  have r9 := r8.below hb9
  have row9 := row8.below hb9
  have hst := (show ERow w9 (W.heap.size + 1) from ⟨_, rfl, row9⟩).store y
  have hsz := ev_size y
  have row10 := (show ERow w9 (W.heap.size + 1) from ⟨_, rfl, row9⟩).set y
  clear han hb9 r8 row8 b8 k8 row9 bcell8 kc0 kc1 kc2 kc3 kc4 kc5 kc6 kc7 kc8
  go_wp2_with fail
  refine bodyPost_ret (results_row2 rfl _ _ (W.heap.size + 1) _ _ _ rfl row10 Tryz.underlying36 rfl (by kernel_rfl)) rfl ?_
  rw [HR.out, HY.out]
  exact (r9.row (by omega) (by omega) _).fin hB2 _

set_option maxRecDepth 100000 in
set_option maxHeartbeats 8000000 in
theorem m_wake_late {W : World} {p : Pl} {m : M} (h : MAt W p m) (n : Nat) (op dl : Int) (wt fo : Bool) (sl ge st ks0 : Int) (hw : m.has n = true) (hk : m.ks[n]? = some ⟨1, ⟨op, dl, wt, fo, sl, ge, st⟩, ks0⟩) (hd : dl ≤ m.now) : Calls Tryz.prog 16 #[.pointer (some ⟨p.mb, 0, none⟩), .int .i64 n] W (MPost W p (.tuple #[(m.wake n).1.1.val, .bool (m.wake n).1.2]) (m.wake n).2) := by
  have HR : RowKit.Hid (m.wake n = ((M.answered (M.failed 4) n ⟨op, dl, wt, fo, sl, ge, st⟩, true), (M.rest { m with line := m.line.filter (fun o => o != (n : Int)) } n).tidy)) := Lib.hid (by unfold M.wake; simp [hw, M.worker, hk, hd])
  have hdd : decide (dl ≤ m.now) = true := by simpa using hd
  generalize m.wake n = R at *
  clear hd
  have hnl : n < m.ks.length := by simp [M.has] at hw; omega
  have HK := Lib.hid hk
  have hkm : p.mb ≠ p.kb := h.ne.2.2.1
  have hkbW : p.kb < W.heap.size := h.lt (.inr (.inr (.inl rfl)))
  have hmbW : p.mb < W.heap.size := h.lt (.inl rfl)
  have hB : Below W.heap.size W ((W.alloc (.cells #[.int .i64 n] 3)).alloc (.cells #[.bool false, .int .i64 0, .int .i64 0, .int .i64 0, .int .i64 0, .bool false, .bool false, .int .i64 0, .int .i64 0, .int .i64 0, .int .i64 0, .int .i64 0, .int .i64 0, .int .i64 0, .int .i64 0, .int .i64 0, .int .i64 0, .int .i64 0] 36)) := ((Below.refl _ _).alloc (Nat.le_refl _) _).alloc (by simp) _
  have hsz0 : ((W.alloc (.cells #[.int .i64 n] 3)).alloc (.cells #[.bool false, .int .i64 0, .int .i64 0, .int .i64 0, .int .i64 0, .bool false, .bool false, .int .i64 0, .int .i64 0, .int .i64 0, .int .i64 0, .int .i64 0, .int .i64 0, .int .i64 0, .int .i64 0, .int .i64 0, .int .i64 0, .int .i64 0] 36)).heap.size = W.heap.size + 1 + 1 := by simp
  have a0 : RowAt ((W.alloc (.cells #[.int .i64 n] 3)).alloc (.cells #[.bool false, .int .i64 0, .int .i64 0, .int .i64 0, .int .i64 0, .bool false, .bool false, .int .i64 0, .int .i64 0, .int .i64 0, .int .i64 0, .int .i64 0, .int .i64 0, .int .i64 0, .int .i64 0, .int .i64 0, .int .i64 0, .int .i64 0] 36)) W.heap.size #[.int .i64 n] 3 := heap_alloc2_old W _ _
  have e0 : RowAt ((W.alloc (.cells #[.int .i64 n] 3)).alloc (.cells #[.bool false, .int .i64 0, .int .i64 0, .int .i64 0, .int .i64 0, .bool false, .bool false, .int .i64 0, .int .i64 0, .int .i64 0, .int .i64 0, .int .i64 0, .int .i64 0, .int .i64 0, .int .i64 0, .int .i64 0, .int .i64 0, .int .i64 0] 36)) (W.heap.size + 1) #[.bool false, .int .i64 0, .int .i64 0, .int .i64 0, .int .i64 0, .bool false, .bool false, .int .i64 0, .int .i64 0, .int .i64 0, .int .i64 0, .int .i64 0, .int .i64 0, .int .i64 0, .int .i64 0, .int .i64 0, .int .i64 0, .int .i64 0] 36 := by have := RowAt.new (W.alloc (.cells #[.int .i64 n] 3)) #[.bool false, .int .i64 0, .int .i64 0, .int .i64 0, .int .i64 0, .bool false, .bool false, .int .i64 0, .int .i64 0, .int .i64 0, .int .i64 0, .int .i64 0, .int .i64 0, .int .i64 0, .int .i64 0, .int .i64 0, .int .i64 0, .int .i64 0] 36; simpa using this
  have h0 := h.below hB
  have hhas := m_has h0 n
  have bc : ((W.alloc (.cells #[.int .i64 n] 3)).alloc (.cells #[.bool false, .int .i64 0, .int .i64 0, .int .i64 0, .int .i64 0, .bool false, .bool false, .int .i64 0, .int .i64 0, .int .i64 0, .int .i64 0, .int .i64 0, .int .i64 0, .int .i64 0, .int .i64 0, .int .i64 0, .int .i64 0, .int .i64 0] 36)).cell? ⟨W.heap.size, 0, none⟩ = some (.int .i64 n) := a0.cell 0
  rw [hw] at hhas
  have c6 := h0.hd.c6
  have cK := h0.works.get hk
  have hnk := h0.ok.nk
  simp only at cK
  have b0 : (0 : Int) ≤ (n : Int) := by omega
  have b1 : (n : Int) < (m.ks.length : Int) := by omega
  have b2 : (n : Int) ≤ (m.ks.length : Int) - 1 := by omega
  clear hk
  go_enter Tryz.func16, Tryz.ntmps16
  go_wp2_with fail
  refine hhas.mono ?_
  rintro e w' ⟨rfl, rfl⟩
  clear hhas
  generalize hwz : ((W.alloc (.cells #[.int .i64 n] 3)).alloc (.cells #[.bool false, .int .i64 0, .int .i64 0, .int .i64 0, .int .i64 0, .bool false, .bool false, .int .i64 0, .int .i64 0, .int .i64 0, .int .i64 0, .int .i64 0, .int .i64 0, .int .i64 0, .int .i64 0, .int .i64 0, .int .i64 0, .int .i64 0] 36)) = w1 at *
  clear hwz
  obtain ⟨d0, d1, d2, d3, d4, d5, d6, d7, d8⟩ := cK
  have HSZ := Lib.hid hsz0
  clear hsz0 hw
  have L6 : ∀ w', Below w1.heap.size w1 w' → w'.cell? ⟨p.mb, 6, none⟩ = some (.slice (some ⟨p.kb, 0, none⟩) m.ks.length m.ks.length) := fun w' h => Field.bkeep h c6
  have LB : ∀ w', Below w1.heap.size w1 w' → w'.cell? ⟨W.heap.size, 0, none⟩ = some (.int .i64 n) := fun w' h => Field.bkeep h bc
  have Ls0 : ∀ w', Below w1.heap.size w1 w' → w'.cell? ⟨p.kb, n * 9, none⟩ = some (.int .i64 1) := fun w' h => Field.bkeep h d0
  have Ls1 : ∀ w', Below w1.heap.size w1 w' → w'.cell? ⟨p.kb, n * 9 + 1, none⟩ = some (.int .i64 op) := fun w' h => Field.bkeep h d1
  have Ls2 : ∀ w', Below w1.heap.size w1 w' → w'.cell? ⟨p.kb, n * 9 + 2, none⟩ = some (.int .i64 dl) := fun w' h => Field.bkeep h d2
  have Ls3 : ∀ w', Below w1.heap.size w1 w' → w'.cell? ⟨p.kb, n * 9 + 3, none⟩ = some (.bool wt) := fun w' h => Field.bkeep h d3
  have Ls4 : ∀ w', Below w1.heap.size w1 w' → w'.cell? ⟨p.kb, n * 9 + 4, none⟩ = some (.bool fo) := fun w' h => Field.bkeep h d4
  have Ls5 : ∀ w', Below w1.heap.size w1 w' → w'.cell? ⟨p.kb, n * 9 + 5, none⟩ = some (.int .i64 sl) := fun w' h => Field.bkeep h d5
  have Ls6 : ∀ w', Below w1.heap.size w1 w' → w'.cell? ⟨p.kb, n * 9 + 6, none⟩ = some (.int .i64 ge) := fun w' h => Field.bkeep h d6
  have Ls7 : ∀ w', Below w1.heap.size w1 w' → w'.cell? ⟨p.kb, n * 9 + 7, none⟩ = some (.int .i64 st) := fun w' h => Field.bkeep h d7
  have Ls8 : ∀ w', Below w1.heap.size w1 w' → w'.cell? ⟨p.kb, n * 9 + 8, none⟩ = some (.int .i64 ks0) := fun w' h => Field.bkeep h d8
  have hKd : Below w1.heap.size w1 w1.drew := (Below.refl _ _).drew
  clear d0 d1 d2 d3 d4 d5 d6 d7 d8 bc c6
  go_wp2_with fail
  go_region_held3 (fun w' => Below w1.heap.size w1 w') (first | assumption | exact ((Below.refl _ _).alloc (Nat.le_refl _) _) | exact ((Below.refl _ _).alloc (Nat.le_refl _) _).drew | exact ((Below.refl _ _).drew.alloc (Nat.le_refl _) _)) (fail)
  clear L6 LB Ls0 Ls1 Ls2 Ls3 Ls4 Ls5 Ls6 Ls7 Ls8 b0 b1 b2 hKd
  have hb2 : Below w1.heap.size w1 ((w1.alloc (.cells #[.int .i64 1, .int .i64 op, .int .i64 dl, .bool wt, .bool fo, .int .i64 sl, .int .i64 ge, .int .i64 st, .int .i64 ks0] 94)).drew) := ((Below.refl _ _).alloc (Nat.le_refl _) _).drew
  have hB2 := hB.trans (hb2.mono hB.size)
  have r2 := Re.begin h hB2
  have a2 := a0.below hb2
  have e2 := e0.below hb2
  have q2 : RowAt ((w1.alloc (.cells #[.int .i64 1, .int .i64 op, .int .i64 dl, .bool wt, .bool fo, .int .i64 sl, .int .i64 ge, .int .i64 st, .int .i64 ks0] 94)).drew) (W.heap.size + 1 + 1) #[.int .i64 1, .int .i64 op, .int .i64 dl, .bool wt, .bool fo, .int .i64 sl, .int .i64 ge, .int .i64 st, .int .i64 ks0] 94 := by have := RowAt.new w1 #[.int .i64 1, .int .i64 op, .int .i64 dl, .bool wt, .bool fo, .int .i64 sl, .int .i64 ge, .int .i64 st, .int .i64 ks0] 94; rw [HSZ.out] at this; exact this
  have hs2 : (W.heap.size + 1 + 1) < ((w1.alloc (.cells #[.int .i64 1, .int .i64 op, .int .i64 dl, .bool wt, .bool fo, .int .i64 sl, .int .i64 ge, .int .i64 st, .int .i64 ks0] 94)).drew).heap.size := by have : ((w1.alloc (.cells #[.int .i64 1, .int .i64 op, .int .i64 dl, .bool wt, .bool fo, .int .i64 sl, .int .i64 ge, .int .i64 st, .int .i64 ks0] 94)).drew).heap.size = w1.heap.size + 1 := (by simp); have := HSZ.out; omega
  try simp only [HSZ.out]
  clear hb2 a0 e0 hB h0
  generalize hwz : (w1.alloc (.cells #[.int .i64 1, .int .i64 op, .int .i64 dl, .bool wt, .bool fo, .int .i64 sl, .int .i64 ge, .int .i64 st, .int .i64 ks0] 94)).drew = w2 at *
  clear hwz
  have kc0 : w2.cell? ⟨W.heap.size + 1 + 1, 0, none⟩ = some (.int .i64 1) := (q2).cell 0
  have kc1 : w2.cell? ⟨W.heap.size + 1 + 1, 1, none⟩ = some (.int .i64 op) := (q2).cell 1
  have kc2 : w2.cell? ⟨W.heap.size + 1 + 1, 2, none⟩ = some (.int .i64 dl) := (q2).cell 2
  have kc3 : w2.cell? ⟨W.heap.size + 1 + 1, 3, none⟩ = some (.bool wt) := (q2).cell 3
  have kc4 : w2.cell? ⟨W.heap.size + 1 + 1, 4, none⟩ = some (.bool fo) := (q2).cell 4
  have kc5 : w2.cell? ⟨W.heap.size + 1 + 1, 5, none⟩ = some (.int .i64 sl) := (q2).cell 5
  have kc6 : w2.cell? ⟨W.heap.size + 1 + 1, 6, none⟩ = some (.int .i64 ge) := (q2).cell 6
  have kc7 : w2.cell? ⟨W.heap.size + 1 + 1, 7, none⟩ = some (.int .i64 st) := (q2).cell 7
  have kc8 : w2.cell? ⟨W.heap.size + 1 + 1, 8, none⟩ = some (.int .i64 ks0) := (q2).cell 8
  have bc2 : w2.cell? ⟨W.heap.size, 0, none⟩ = some (.int .i64 n) := a2.cell 0
  have er2 : ERow w2 (W.heap.size + 1) := ⟨_, rfl, e2⟩
  have c9 := r2.at'.hd.c9
  have hpast : ∀ nn, Calls Tryz.prog 50 #[.pointer (some ⟨p.cb, 0, none⟩), .int .i64 dl] (w2.drewN nn) fun e w' => e = .returned (.bool true) ∧ w' = w2.drewN nn := fun nn => by
    have h1 := Clock.past_any (w2.drewN nn) ⟨p.cb, 0, none⟩ m.now dl r2.at'.clk
    rw [hdd] at h1
    exact h1.mono (fun e w' hh => ⟨hh.1, hh.2.symm⟩)
  have HPA := Lib.hid hpast
  have c7 := r2.at'.hd.c7
  clear hpast hdd
  go_wp2_with fail
  go_quiet ((go_at_call 50; exact Calls.quiet_of_same (HPA.out _)))
  have hbq : Below w2.heap.size w2 (w2.drewN nq) := bdrewN (Below.refl _ _) nq
  have r3 := r2.below hbq
  have er3 := er2.below hbq
  have a3 := a2.below hbq
  have q3 := q2.below hbq
  clear r2 er2 a2 q2 e2 c7 c9 HPA kc0 kc1 kc2 kc3 kc4 kc5 kc6 kc7 kc8 bc2
  generalize hwz : w2.drewN nq = w3 at *
  clear hwz hbq
  have bc3 : w3.cell? ⟨W.heap.size, 0, none⟩ = some (.int .i64 n) := a3.cell 0
  have c7 := r3.at'.hd.c7
  have f7 := r3.at'.hd.f7
  have hlb : ¬ Fp p.lv W.heap.size := fun hk => r3.not (Nat.le_refl _) (by omega) (.inr (.inr (.inr (.inr (.inr hk)))))
  have hfew := r3.at'.ok.few
  have hde := delete_any w3 W.heap.size n bc3 p.lv m.line (by omega) r3.at'.own hlb
  have hlmb : ¬ Fp p.lv p.mb := fun hk => by
    obtain ⟨t, -, t1, -, -, -, -, t6⟩ := r3.at'.tag
    have := t6 _ hk
    omega
  go_wp2_with fail
  refine hde.mono ?_
  rintro e w4 ⟨v', rfl, hO4, hF4, hC4⟩
  obtain ⟨va, vc, hv⟩ := hO4.form
  subst hv
  have hlm3 : p.mb < w3.heap.size := r3.at'.lt (.inl rfl)
  have e7 := (hC4.cell (p := ⟨p.mb, 7, none⟩) hlm3 hlmb).trans c7
  have f7' := (hC4.frozen (p := ⟨p.mb, 7, none⟩) hlm3 hlmb).trans f7
  have hC5 : Chg (fun k => k = p.mb ∨ Fp p.lv k) w3 (w4.setCell ⟨p.mb, 7, none⟩ (.slice va (m.line.filter (fun o => o != (n : Int))).length vc)) := (hC4.mono (fun k _ hk => .inr hk)).setCell _ _ (fun _ => .inl rfl)
  have hO5 : OwnS (w4.setCell ⟨p.mb, 7, none⟩ (.slice va (m.line.filter (fun o => o != (n : Int))).length vc)) (.slice va (m.line.filter (fun o => o != (n : Int))).length vc) (m.line.filter (fun o => o != (n : Int))).length 1 ((m.line.filter (fun o => o != (n : Int))).map (Value.int .i64)) :=
    hO4.chg (F := fun k => k = p.mb) ((Chg.refl _ _).setCell ⟨p.mb, 7, none⟩ (.slice va (m.line.filter (fun o => o != (n : Int))).length vc) (fun _ => rfl)) (fun k hk e => hlmb (hF4 _ (e ▸ hk)))
  have hhd4 : Hd w4 p m.cf m.ss.length m.ks.length m.closed := r3.at'.hd.stable (hC4.block _ hlm3 hlmb)
  have hA5 := r3.at'.toLine (v' := (.slice va (m.line.filter (fun o => o != (n : Int))).length vc)) (l := m.line.filter (fun o => o != (n : Int))) (W' := w4.setCell ⟨p.mb, 7, none⟩ (.slice va (m.line.filter (fun o => o != (n : Int))).length vc)) hO5 (by
      have := List.length_filter_le (fun o => o != (n : Int)) m.line
      omega) (fun x hx => r3.at'.ok.line x (List.mem_filter.1 hx).1) (fun k hk => .inl (hF4 k hk)) hC5 (hd_line hhd4 (.slice va (m.line.filter (fun o => o != (n : Int))).length vc))
  have r5 := r3.line hA5 (fun k hk => .inl (hF4 k hk)) hC5
  have hng : ∀ g, W.heap.size ≤ g → g < w2.heap.size → ¬ (g = p.mb ∨ Fp p.lv g) := fun g h1 h2 hk => r3.not h1 h2 (by
      rcases hk with hk | hk
      · exact .inl hk
      · exact .inr (.inr (.inr (.inr (.inr hk)))))
  have er5 := er3.chg hC5 (hng _ (by omega) (by omega))
  have a5 := a3.chg hC5 (hng _ (Nat.le_refl _) (by omega))
  have q5 := q3.chg hC5 (hng _ (by omega) hs2)
  clear hde hO4 hF4 hC4 c7 hO5 hhd4 hA5 hC5 r3 er3 a3 q3 bc3 hng f7
  go_upto_region 11 with (fail)
  generalize hwz : w4.setCell ⟨p.mb, 7, none⟩ (.slice va (m.line.filter (fun o => o != (n : Int))).length vc) = w5 at *
  clear hwz e7 f7'
  have hfl := failed_any w5 4
  have hf : M.failed 4 = { Ev.zero with e := 4 } := rfl
  rw [← hf] at hfl
  generalize M.failed 4 = x at *
  clear hf
  go_wp2_with fail
  refine hfl.mono ?_
  rintro e w6 ⟨rfl, hb6⟩
  have r6 := r5.below hb6
  have er6 := er5.below hb6
  have a6 := a5.below hb6
  have q6 := q5.below hb6
  clear hfl hb6 r5 er5 a5 q5
  have hst := er6.store x
  have hsz := ev_size x
  have r4 := r6.row (by omega) (by omega) x.cells (g := (W.heap.size + 1))
  have row4 := er6.set x
  have hcs : Chg (fun k => k = (W.heap.size + 1)) w6 (w6.setRow (W.heap.size + 1) x.cells) := chg_setRow (Chg.refl _ _) _ _ (fun _ => rfl)
  have a4 := a6.chg hcs (by omega)
  have q4 := q6.chg hcs (by omega)
  clear r6 er6 a6 q6 hcs
  go_upto_region 12 with (fail)
  generalize hwz : w6.setRow (W.heap.size + 1) x.cells = w4 at *
  clear hwz hst hsz
  have A6 := r4.at'
  have c6 := A6.hd.c6
  rw [r4.mb, r4.kb] at c6
  have hlm6 : p.mb < w4.heap.size := by have := A6.lt (.inl rfl); rwa [r4.mb] at this
  have L6 : ∀ w', Chg (fun k => k = p.kb) w4 w' → w'.cell? ⟨p.mb, 6, none⟩ = some (.slice (some ⟨p.kb, 0, none⟩) m.ks.length m.ks.length) := fun w' h => (h.cell (p := ⟨p.mb, 6, none⟩) hlm6 hkm).trans c6
  have LB : ∀ w', Chg (fun k => k = p.kb) w4 w' → w'.cell? ⟨W.heap.size, 0, none⟩ = some (.int .i64 n) := fun w' h => ((a4).chg h (by omega)).cell 0
  have hKd : Chg (fun k => k = p.kb) w4 w4.drew := (Chg.refl _ _).drew
  have hth : w4.drew.there p.kb (n * 9) 9 := by
    have := WorksAt.there A6.works (i := n) (hnl)
    rw [r4.kb] at this
    simpa using this
  have hset : Chg (fun k => k = p.kb) w4 (w4.drew.setCells p.kb (n * 9) Wk.zero.cells.toList) := hKd.trans (chg_setCells _ _ _ _) (fun _ _ h => h)
  have r7 := r4.resting hset (hnl)
  have row7 := (row4).chg hset (by omega)
  have k7 := (q4).chg hset (by omega)
  have b7 := (a4).chg hset (by omega)
  have R7 := Lib.hid r7
  clear c6 A6 r7
  go_upto_region 12 with (fail)
  refine wp_region_held_drew (S := fun w' => Chg (fun k => k = p.kb) w4 w') (by kernel_rfl) (by exact hKd) (fun hHeld => ?_)
  refine take_of (i := 0) (d := some 58) (op := .move (.tmp 0)) (gd := none) (v := (.pointer (some ⟨p.mb, 0, none⟩))) (by kernel_rfl) (by kernel_rfl) (by kernel_rfl) (by kernel_rfl) (fun _ _ _ h => h) (by kernel_rfl) (run_move_of (.tmp 0) (.pointer (some ⟨p.mb, 0, none⟩)) (by kernel_rfl)) hHeld ?_
  try simp only [Act.put, List.setIfInBounds_toArray, List.set_cons_zero, List.set_cons_succ]
  refine takeg (i := 1) (d := some 59) (v := ?_) (by kernel_rfl) (by kernel_rfl) (by kernel_rfl) (by kernel_rfl) (fun _ _ _ h => h) (by kernel_rfl) ?_ hHeld ?_
  rotate_left
  · intro w hSw
    try dsimp only at hSw
    go_simp
    try with_reducible rfl
  try simp only [Act.put, List.setIfInBounds_toArray, List.set_cons_zero, List.set_cons_succ]
  refine takeg (i := 2) (d := some 60) (v := ?_) (by kernel_rfl) (by kernel_rfl) (by kernel_rfl) (by kernel_rfl) (fun _ _ _ h => h) (by kernel_rfl) ?_ hHeld ?_
  rotate_left
  · intro w hSw
    try dsimp only at hSw
    go_simp
    try with_reducible rfl
  try simp only [Act.put, List.setIfInBounds_toArray, List.set_cons_zero, List.set_cons_succ]
  refine takeg (i := 3) (d := some 61) (v := ?_) (by kernel_rfl) (by kernel_rfl) (by kernel_rfl) (by kernel_rfl) (fun _ _ _ h => h) (by kernel_rfl) ?_ hHeld ?_
  rotate_left
  · intro w hSw
    try dsimp only at hSw
    go_simp
    try with_reducible rfl
  try simp only [Act.put, List.setIfInBounds_toArray, List.set_cons_zero, List.set_cons_succ]
  refine takeg (i := 4) (d := some 62) (v := ?_) (by kernel_rfl) (by kernel_rfl) (by kernel_rfl) (by kernel_rfl) (fun _ _ _ h => h) (by kernel_rfl) ?_ hHeld ?_
  rotate_left
  · intro w hSw
    try dsimp only at hSw
    go_simp
    try with_reducible rfl
  try simp only [Act.put, List.setIfInBounds_toArray, List.set_cons_zero, List.set_cons_succ]
  refine takeg (i := 5) (d := some 63) (v := ?_) (by kernel_rfl) (by kernel_rfl) (by kernel_rfl) (by kernel_rfl) (fun _ _ _ h => h) (by kernel_rfl) ?_ hHeld ?_
  rotate_left
  · intro w hSw
    try dsimp only at hSw
    go_simp
    try with_reducible rfl
  try simp only [Act.put, List.setIfInBounds_toArray, List.set_cons_zero, List.set_cons_succ]
  refine takeg (i := 6) (d := some 64) (v := ?_) (by kernel_rfl) (by kernel_rfl) (by kernel_rfl) (by kernel_rfl) (fun _ _ _ h => h) (by kernel_rfl) ?_ hHeld ?_
  rotate_left
  · intro w hSw
    try dsimp only at hSw
    go_simp
    try with_reducible rfl
  try simp only [Act.put, List.setIfInBounds_toArray, List.set_cons_zero, List.set_cons_succ]
  refine ready1 (i := 7) (by kernel_rfl) (step_store_mid 94 (.tmp 64) (.tmp 63) (by kernel_rfl) p.kb (n * 9) Wk.zero.cells (by kernel_rfl) (by kernel_rfl) hth (by kernel_rfl) (by kernel_rfl) hset (fun _ => ?_))
  refine wpAnyH_done (by kernel_rfl) ?_ _
  generalize hwz : w4.drew.setCells p.kb (n * 9) Wk.zero.cells.toList = w7 at *
  clear hwz hset hth hKd L6 LB hHeld
  have hty := m_tidy R7.out.at'
  rw [R7.out.mb] at hty
  go_wp2_with fail
  refine hty.mono ?_
  rintro e w8 ⟨v8, hp8⟩
  obtain ⟨rfl, p8, r8, hc8⟩ := R7.out.post hp8
  have row8 := RowAt.kept row7 R7.out (by omega) (by omega) hc8
  have b8 := RowAt.kept b7 R7.out (Nat.le_refl _) (by omega) hc8
  have k8 := RowAt.kept k7 R7.out (by omega) hs2 hc8
  have han := answered_any w8 (x) n ⟨op, dl, wt, fo, sl, ge, st⟩
  clear hty hp8 hc8 R7 row7 b7 k7
  have hyy : ∃ y, y = M.answered (x) n ⟨op, dl, wt, fo, sl, ge, st⟩ := ⟨_, rfl⟩
  obtain ⟨y, hy⟩ := hyy
  rw [← hy] at han
  have HY := Lib.hid hy
  clear hy
  have bcell8 : w8.cell? ⟨W.heap.size, 0, none⟩ = some (.int .i64 n) := b8.cell 0
  have kc0 : w8.cell? ⟨W.heap.size + 1 + 1, 0, none⟩ = some (.int .i64 1) := (k8).cell 0
  have kc1 : w8.cell? ⟨W.heap.size + 1 + 1, 1, none⟩ = some (.int .i64 op) := (k8).cell 1
  have kc2 : w8.cell? ⟨W.heap.size + 1 + 1, 2, none⟩ = some (.int .i64 dl) := (k8).cell 2
  have kc3 : w8.cell? ⟨W.heap.size + 1 + 1, 3, none⟩ = some (.bool wt) := (k8).cell 3
  have kc4 : w8.cell? ⟨W.heap.size + 1 + 1, 4, none⟩ = some (.bool fo) := (k8).cell 4
  have kc5 : w8.cell? ⟨W.heap.size + 1 + 1, 5, none⟩ = some (.int .i64 sl) := (k8).cell 5
  have kc6 : w8.cell? ⟨W.heap.size + 1 + 1, 6, none⟩ = some (.int .i64 ge) := (k8).cell 6
  have kc7 : w8.cell? ⟨W.heap.size + 1 + 1, 7, none⟩ = some (.int .i64 st) := (k8).cell 7
  have kc8 : w8.cell? ⟨W.heap.size + 1 + 1, 8, none⟩ = some (.int .i64 ks0) := (k8).cell 8
  go_upto_region 14 with (fail)
  refine wp_region_lit ?_
  refine RowL.wpList_load_row rfl 36 (.tmp 4) rfl (W.heap.size + 1) _ (x).cells _ rfl row8 Tryz.underlying36 rfl (by kernel_rfl) ?_
  go_wp2_with fail
  refine han.mono ?_
  rintro e w9 ⟨rfl, hb9⟩
  have r9 := r8.below hb9
  have row9 := row8.below hb9
  have hst := (show ERow w9 (W.heap.size + 1) from ⟨_, rfl, row9⟩).store y
  have hsz := ev_size y
  have row10 := (show ERow w9 (W.heap.size + 1) from ⟨_, rfl, row9⟩).set y
  clear han hb9 r8 row8 b8 k8 row9 bcell8 kc0 kc1 kc2 kc3 kc4 kc5 kc6 kc7 kc8
  go_wp2_with fail
  refine bodyPost_ret (results_row2 rfl _ _ (W.heap.size + 1) _ _ _ rfl row10 Tryz.underlying36 rfl (by kernel_rfl)) rfl ?_
  rw [HR.out, HY.out]
  exact (r9.row (by omega) (by omega) _).fin hB2 _

set_option maxRecDepth 100000 in
set_option maxHeartbeats 8000000 in
theorem m_wake_rest {W : World} {p : Pl} {m : M} (h : MAt W p m) (n : Nat) (at0 op dl : Int) (wt fo : Bool) (sl ge st ks0 : Int) (hw : m.has n = true) (hk : m.ks[n]? = some ⟨at0, ⟨op, dl, wt, fo, sl, ge, st⟩, ks0⟩) (h3 : at0 ≠ 3) (h2 : at0 ≠ 2) (h1 : at0 ≠ 1) : Calls Tryz.prog 16 #[.pointer (some ⟨p.mb, 0, none⟩), .int .i64 n] W (MPost W p (.tuple #[(m.wake n).1.1.val, .bool (m.wake n).1.2]) (m.wake n).2) := by
  have HR : RowKit.Hid (m.wake n = ((Ev.zero, false), m)) := Lib.hid (by unfold M.wake; simp [hw, M.worker, hk, h1, h2, h3])
  have g3 : (at0 == 3) = false := by simpa using h3
  have g2 : (at0 == 2) = false := by simpa using h2
  have g1 : (at0 == 1) = false := by simpa using h1
  generalize m.wake n = R at *
  clear h1 h2 h3
  have hnl : n < m.ks.length := by simp [M.has] at hw; omega
  have HK := Lib.hid hk
  have hkm : p.mb ≠ p.kb := h.ne.2.2.1
  have hkbW : p.kb < W.heap.size := h.lt (.inr (.inr (.inl rfl)))
  have hmbW : p.mb < W.heap.size := h.lt (.inl rfl)
  have hB : Below W.heap.size W ((W.alloc (.cells #[.int .i64 n] 3)).alloc (.cells #[.bool false, .int .i64 0, .int .i64 0, .int .i64 0, .int .i64 0, .bool false, .bool false, .int .i64 0, .int .i64 0, .int .i64 0, .int .i64 0, .int .i64 0, .int .i64 0, .int .i64 0, .int .i64 0, .int .i64 0, .int .i64 0, .int .i64 0] 36)) := ((Below.refl _ _).alloc (Nat.le_refl _) _).alloc (by simp) _
  have hsz0 : ((W.alloc (.cells #[.int .i64 n] 3)).alloc (.cells #[.bool false, .int .i64 0, .int .i64 0, .int .i64 0, .int .i64 0, .bool false, .bool false, .int .i64 0, .int .i64 0, .int .i64 0, .int .i64 0, .int .i64 0, .int .i64 0, .int .i64 0, .int .i64 0, .int .i64 0, .int .i64 0, .int .i64 0] 36)).heap.size = W.heap.size + 1 + 1 := by simp
  have a0 : RowAt ((W.alloc (.cells #[.int .i64 n] 3)).alloc (.cells #[.bool false, .int .i64 0, .int .i64 0, .int .i64 0, .int .i64 0, .bool false, .bool false, .int .i64 0, .int .i64 0, .int .i64 0, .int .i64 0, .int .i64 0, .int .i64 0, .int .i64 0, .int .i64 0, .int .i64 0, .int .i64 0, .int .i64 0] 36)) W.heap.size #[.int .i64 n] 3 := heap_alloc2_old W _ _
  have e0 : RowAt ((W.alloc (.cells #[.int .i64 n] 3)).alloc (.cells #[.bool false, .int .i64 0, .int .i64 0, .int .i64 0, .int .i64 0, .bool false, .bool false, .int .i64 0, .int .i64 0, .int .i64 0, .int .i64 0, .int .i64 0, .int .i64 0, .int .i64 0, .int .i64 0, .int .i64 0, .int .i64 0, .int .i64 0] 36)) (W.heap.size + 1) #[.bool false, .int .i64 0, .int .i64 0, .int .i64 0, .int .i64 0, .bool false, .bool false, .int .i64 0, .int .i64 0, .int .i64 0, .int .i64 0, .int .i64 0, .int .i64 0, .int .i64 0, .int .i64 0, .int .i64 0, .int .i64 0, .int .i64 0] 36 := by have := RowAt.new (W.alloc (.cells #[.int .i64 n] 3)) #[.bool false, .int .i64 0, .int .i64 0, .int .i64 0, .int .i64 0, .bool false, .bool false, .int .i64 0, .int .i64 0, .int .i64 0, .int .i64 0, .int .i64 0, .int .i64 0, .int .i64 0, .int .i64 0, .int .i64 0, .int .i64 0, .int .i64 0] 36; simpa using this
  have h0 := h.below hB
  have hhas := m_has h0 n
  have bc : ((W.alloc (.cells #[.int .i64 n] 3)).alloc (.cells #[.bool false, .int .i64 0, .int .i64 0, .int .i64 0, .int .i64 0, .bool false, .bool false, .int .i64 0, .int .i64 0, .int .i64 0, .int .i64 0, .int .i64 0, .int .i64 0, .int .i64 0, .int .i64 0, .int .i64 0, .int .i64 0, .int .i64 0] 36)).cell? ⟨W.heap.size, 0, none⟩ = some (.int .i64 n) := a0.cell 0
  rw [hw] at hhas
  have c6 := h0.hd.c6
  have cK := h0.works.get hk
  have hnk := h0.ok.nk
  simp only at cK
  have b0 : (0 : Int) ≤ (n : Int) := by omega
  have b1 : (n : Int) < (m.ks.length : Int) := by omega
  have b2 : (n : Int) ≤ (m.ks.length : Int) - 1 := by omega
  clear hk
  go_enter Tryz.func16, Tryz.ntmps16
  go_wp2_with fail
  refine hhas.mono ?_
  rintro e w' ⟨rfl, rfl⟩
  clear hhas
  generalize hwz : ((W.alloc (.cells #[.int .i64 n] 3)).alloc (.cells #[.bool false, .int .i64 0, .int .i64 0, .int .i64 0, .int .i64 0, .bool false, .bool false, .int .i64 0, .int .i64 0, .int .i64 0, .int .i64 0, .int .i64 0, .int .i64 0, .int .i64 0, .int .i64 0, .int .i64 0, .int .i64 0, .int .i64 0] 36)) = w1 at *
  clear hwz
  obtain ⟨d0, d1, d2, d3, d4, d5, d6, d7, d8⟩ := cK
  have HSZ := Lib.hid hsz0
  clear hsz0 hw
  have L6 : ∀ w', Below w1.heap.size w1 w' → w'.cell? ⟨p.mb, 6, none⟩ = some (.slice (some ⟨p.kb, 0, none⟩) m.ks.length m.ks.length) := fun w' h => Field.bkeep h c6
  have LB : ∀ w', Below w1.heap.size w1 w' → w'.cell? ⟨W.heap.size, 0, none⟩ = some (.int .i64 n) := fun w' h => Field.bkeep h bc
  have Ls0 : ∀ w', Below w1.heap.size w1 w' → w'.cell? ⟨p.kb, n * 9, none⟩ = some (.int .i64 at0) := fun w' h => Field.bkeep h d0
  have Ls1 : ∀ w', Below w1.heap.size w1 w' → w'.cell? ⟨p.kb, n * 9 + 1, none⟩ = some (.int .i64 op) := fun w' h => Field.bkeep h d1
  have Ls2 : ∀ w', Below w1.heap.size w1 w' → w'.cell? ⟨p.kb, n * 9 + 2, none⟩ = some (.int .i64 dl) := fun w' h => Field.bkeep h d2
  have Ls3 : ∀ w', Below w1.heap.size w1 w' → w'.cell? ⟨p.kb, n * 9 + 3, none⟩ = some (.bool wt) := fun w' h => Field.bkeep h d3
  have Ls4 : ∀ w', Below w1.heap.size w1 w' → w'.cell? ⟨p.kb, n * 9 + 4, none⟩ = some (.bool fo) := fun w' h => Field.bkeep h d4
  have Ls5 : ∀ w', Below w1.heap.size w1 w' → w'.cell? ⟨p.kb, n * 9 + 5, none⟩ = some (.int .i64 sl) := fun w' h => Field.bkeep h d5
  have Ls6 : ∀ w', Below w1.heap.size w1 w' → w'.cell? ⟨p.kb, n * 9 + 6, none⟩ = some (.int .i64 ge) := fun w' h => Field.bkeep h d6
  have Ls7 : ∀ w', Below w1.heap.size w1 w' → w'.cell? ⟨p.kb, n * 9 + 7, none⟩ = some (.int .i64 st) := fun w' h => Field.bkeep h d7
  have Ls8 : ∀ w', Below w1.heap.size w1 w' → w'.cell? ⟨p.kb, n * 9 + 8, none⟩ = some (.int .i64 ks0) := fun w' h => Field.bkeep h d8
  have hKd : Below w1.heap.size w1 w1.drew := (Below.refl _ _).drew
  clear d0 d1 d2 d3 d4 d5 d6 d7 d8 bc c6
  go_wp2_with fail
  go_region_held3 (fun w' => Below w1.heap.size w1 w') (first | assumption | exact ((Below.refl _ _).alloc (Nat.le_refl _) _) | exact ((Below.refl _ _).alloc (Nat.le_refl _) _).drew | exact ((Below.refl _ _).drew.alloc (Nat.le_refl _) _)) (fail)
  clear L6 LB Ls0 Ls1 Ls2 Ls3 Ls4 Ls5 Ls6 Ls7 Ls8 b0 b1 b2 hKd
  have hb2 : Below w1.heap.size w1 ((w1.alloc (.cells #[.int .i64 at0, .int .i64 op, .int .i64 dl, .bool wt, .bool fo, .int .i64 sl, .int .i64 ge, .int .i64 st, .int .i64 ks0] 94)).drew) := ((Below.refl _ _).alloc (Nat.le_refl _) _).drew
  have hB2 := hB.trans (hb2.mono hB.size)
  have r2 := Re.begin h hB2
  have a2 := a0.below hb2
  have e2 := e0.below hb2
  have q2 : RowAt ((w1.alloc (.cells #[.int .i64 at0, .int .i64 op, .int .i64 dl, .bool wt, .bool fo, .int .i64 sl, .int .i64 ge, .int .i64 st, .int .i64 ks0] 94)).drew) (W.heap.size + 1 + 1) #[.int .i64 at0, .int .i64 op, .int .i64 dl, .bool wt, .bool fo, .int .i64 sl, .int .i64 ge, .int .i64 st, .int .i64 ks0] 94 := by have := RowAt.new w1 #[.int .i64 at0, .int .i64 op, .int .i64 dl, .bool wt, .bool fo, .int .i64 sl, .int .i64 ge, .int .i64 st, .int .i64 ks0] 94; rw [HSZ.out] at this; exact this
  have hs2 : (W.heap.size + 1 + 1) < ((w1.alloc (.cells #[.int .i64 at0, .int .i64 op, .int .i64 dl, .bool wt, .bool fo, .int .i64 sl, .int .i64 ge, .int .i64 st, .int .i64 ks0] 94)).drew).heap.size := by have : ((w1.alloc (.cells #[.int .i64 at0, .int .i64 op, .int .i64 dl, .bool wt, .bool fo, .int .i64 sl, .int .i64 ge, .int .i64 st, .int .i64 ks0] 94)).drew).heap.size = w1.heap.size + 1 := (by simp); have := HSZ.out; omega
  try simp only [HSZ.out]
  clear hb2 a0 e0 hB h0
  generalize hwz : (w1.alloc (.cells #[.int .i64 at0, .int .i64 op, .int .i64 dl, .bool wt, .bool fo, .int .i64 sl, .int .i64 ge, .int .i64 st, .int .i64 ks0] 94)).drew = w2 at *
  clear hwz
  have kc0 : w2.cell? ⟨W.heap.size + 1 + 1, 0, none⟩ = some (.int .i64 at0) := (q2).cell 0
  have kc1 : w2.cell? ⟨W.heap.size + 1 + 1, 1, none⟩ = some (.int .i64 op) := (q2).cell 1
  have kc2 : w2.cell? ⟨W.heap.size + 1 + 1, 2, none⟩ = some (.int .i64 dl) := (q2).cell 2
  have kc3 : w2.cell? ⟨W.heap.size + 1 + 1, 3, none⟩ = some (.bool wt) := (q2).cell 3
  have kc4 : w2.cell? ⟨W.heap.size + 1 + 1, 4, none⟩ = some (.bool fo) := (q2).cell 4
  have kc5 : w2.cell? ⟨W.heap.size + 1 + 1, 5, none⟩ = some (.int .i64 sl) := (q2).cell 5
  have kc6 : w2.cell? ⟨W.heap.size + 1 + 1, 6, none⟩ = some (.int .i64 ge) := (q2).cell 6
  have kc7 : w2.cell? ⟨W.heap.size + 1 + 1, 7, none⟩ = some (.int .i64 st) := (q2).cell 7
  have kc8 : w2.cell? ⟨W.heap.size + 1 + 1, 8, none⟩ = some (.int .i64 ks0) := (q2).cell 8
  have bc2 : w2.cell? ⟨W.heap.size, 0, none⟩ = some (.int .i64 n) := a2.cell 0
  have er2 : ERow w2 (W.heap.size + 1) := ⟨_, rfl, e2⟩
  go_wp2_with fail
  go_quiet (fail)
  have r3 := r2.below (bdrewN (Below.refl _ _) nq)
  have er3 := er2.below (bdrewN (Below.refl _ _) nq)
  clear r2 er2 a2 q2 e2 kc0 kc1 kc2 kc3 kc4 kc5 kc6 kc7 kc8 bc2
  generalize hwz : w2.drewN nq = w3 at *
  clear hwz
  go_upto_region 4 with (fail)
  obtain ⟨Z, z1, z2⟩ := er3
  refine wp_region_lit ?_
  refine RowL.wpList_run rfl Ev.zero.val (by go_simp; try rfl) ?_
  refine RowL.wpList_store_row rfl 36 (.tmp 4) (.tmp 19) rfl (W.heap.size + 1) _ Z Ev.zero.cells rfl rfl z2 z1 (by kernel_rfl) (ev_one _) ?_
  go_wp2_with fail
  refine bodyPost_ret (results_row2 rfl _ _ (W.heap.size + 1) _ _ _ rfl (z2.set _) Tryz.underlying36 rfl (by kernel_rfl)) rfl ?_
  rw [HR.out]
  exact (r3.row (by omega) (by first | omega | (simp)) _).fin hB2 _

set_option maxRecDepth 100000 in
set_option maxHeartbeats 8000000 in
theorem m_wake_soon {W : World} {p : Pl} {m : M} (h : MAt W p m) (n : Nat) (op dl : Int) (wt fo : Bool) (sl ge st ks0 : Int) (hw : m.has n = true) (hk : m.ks[n]? = some ⟨1, ⟨op, dl, wt, fo, sl, ge, st⟩, ks0⟩) (hd : ¬ dl ≤ m.now) : Calls Tryz.prog 16 #[.pointer (some ⟨p.mb, 0, none⟩), .int .i64 n] W (MPost W p (.tuple #[(m.wake n).1.1.val, .bool (m.wake n).1.2]) (m.wake n).2) := by
  have HR : RowKit.Hid (m.wake n = ((Ev.zero, false), m)) := Lib.hid (by unfold M.wake; simp [hw, M.worker, hk, hd])
  have hdd : decide (dl ≤ m.now) = false := by simpa using hd
  generalize m.wake n = R at *
  clear hd
  have hnl : n < m.ks.length := by simp [M.has] at hw; omega
  have HK := Lib.hid hk
  have hkm : p.mb ≠ p.kb := h.ne.2.2.1
  have hkbW : p.kb < W.heap.size := h.lt (.inr (.inr (.inl rfl)))
  have hmbW : p.mb < W.heap.size := h.lt (.inl rfl)
  have hB : Below W.heap.size W ((W.alloc (.cells #[.int .i64 n] 3)).alloc (.cells #[.bool false, .int .i64 0, .int .i64 0, .int .i64 0, .int .i64 0, .bool false, .bool false, .int .i64 0, .int .i64 0, .int .i64 0, .int .i64 0, .int .i64 0, .int .i64 0, .int .i64 0, .int .i64 0, .int .i64 0, .int .i64 0, .int .i64 0] 36)) := ((Below.refl _ _).alloc (Nat.le_refl _) _).alloc (by simp) _
  have hsz0 : ((W.alloc (.cells #[.int .i64 n] 3)).alloc (.cells #[.bool false, .int .i64 0, .int .i64 0, .int .i64 0, .int .i64 0, .bool false, .bool false, .int .i64 0, .int .i64 0, .int .i64 0, .int .i64 0, .int .i64 0, .int .i64 0, .int .i64 0, .int .i64 0, .int .i64 0, .int .i64 0, .int .i64 0] 36)).heap.size = W.heap.size + 1 + 1 := by simp
  have a0 : RowAt ((W.alloc (.cells #[.int .i64 n] 3)).alloc (.cells #[.bool false, .int .i64 0, .int .i64 0, .int .i64 0, .int .i64 0, .bool false, .bool false, .int .i64 0, .int .i64 0, .int .i64 0, .int .i64 0, .int .i64 0, .int .i64 0, .int .i64 0, .int .i64 0, .int .i64 0, .int .i64 0, .int .i64 0] 36)) W.heap.size #[.int .i64 n] 3 := heap_alloc2_old W _ _
  have e0 : RowAt ((W.alloc (.cells #[.int .i64 n] 3)).alloc (.cells #[.bool false, .int .i64 0, .int .i64 0, .int .i64 0, .int .i64 0, .bool false, .bool false, .int .i64 0, .int .i64 0, .int .i64 0, .int .i64 0, .int .i64 0, .int .i64 0, .int .i64 0, .int .i64 0, .int .i64 0, .int .i64 0, .int .i64 0] 36)) (W.heap.size + 1) #[.bool false, .int .i64 0, .int .i64 0, .int .i64 0, .int .i64 0, .bool false, .bool false, .int .i64 0, .int .i64 0, .int .i64 0, .int .i64 0, .int .i64 0, .int .i64 0, .int .i64 0, .int .i64 0, .int .i64 0, .int .i64 0, .int .i64 0] 36 := by have := RowAt.new (W.alloc (.cells #[.int .i64 n] 3)) #[.bool false, .int .i64 0, .int .i64 0, .int .i64 0, .int .i64 0, .bool false, .bool false, .int .i64 0, .int .i64 0, .int .i64 0, .int .i64 0, .int .i64 0, .int .i64 0, .int .i64 0, .int .i64 0, .int .i64 0, .int .i64 0, .int .i64 0] 36; simpa using this
  have h0 := h.below hB
  have hhas := m_has h0 n
  have bc : ((W.alloc (.cells #[.int .i64 n] 3)).alloc (.cells #[.bool false, .int .i64 0, .int .i64 0, .int .i64 0, .int .i64 0, .bool false, .bool false, .int .i64 0, .int .i64 0, .int .i64 0, .int .i64 0, .int .i64 0, .int .i64 0, .int .i64 0, .int .i64 0, .int .i64 0, .int .i64 0, .int .i64 0] 36)).cell? ⟨W.heap.size, 0, none⟩ = some (.int .i64 n) := a0.cell 0
  rw [hw] at hhas
  have c6 := h0.hd.c6
  have cK := h0.works.get hk
  have hnk := h0.ok.nk
  simp only at cK
  have b0 : (0 : Int) ≤ (n : Int) := by omega
  have b1 : (n : Int) < (m.ks.length : Int) := by omega
  have b2 : (n : Int) ≤ (m.ks.length : Int) - 1 := by omega
  clear hk
  go_enter Tryz.func16, Tryz.ntmps16
  go_wp2_with fail
  refine hhas.mono ?_
  rintro e w' ⟨rfl, rfl⟩
  clear hhas
  generalize hwz : ((W.alloc (.cells #[.int .i64 n] 3)).alloc (.cells #[.bool false, .int .i64 0, .int .i64 0, .int .i64 0, .int .i64 0, .bool false, .bool false, .int .i64 0, .int .i64 0, .int .i64 0, .int .i64 0, .int .i64 0, .int .i64 0, .int .i64 0, .int .i64 0, .int .i64 0, .int .i64 0, .int .i64 0] 36)) = w1 at *
  clear hwz
  obtain ⟨d0, d1, d2, d3, d4, d5, d6, d7, d8⟩ := cK
  have HSZ := Lib.hid hsz0
  clear hsz0 hw
  have L6 : ∀ w', Below w1.heap.size w1 w' → w'.cell? ⟨p.mb, 6, none⟩ = some (.slice (some ⟨p.kb, 0, none⟩) m.ks.length m.ks.length) := fun w' h => Field.bkeep h c6
  have LB : ∀ w', Below w1.heap.size w1 w' → w'.cell? ⟨W.heap.size, 0, none⟩ = some (.int .i64 n) := fun w' h => Field.bkeep h bc
  have Ls0 : ∀ w', Below w1.heap.size w1 w' → w'.cell? ⟨p.kb, n * 9, none⟩ = some (.int .i64 1) := fun w' h => Field.bkeep h d0
  have Ls1 : ∀ w', Below w1.heap.size w1 w' → w'.cell? ⟨p.kb, n * 9 + 1, none⟩ = some (.int .i64 op) := fun w' h => Field.bkeep h d1
  have Ls2 : ∀ w', Below w1.heap.size w1 w' → w'.cell? ⟨p.kb, n * 9 + 2, none⟩ = some (.int .i64 dl) := fun w' h => Field.bkeep h d2
  have Ls3 : ∀ w', Below w1.heap.size w1 w' → w'.cell? ⟨p.kb, n * 9 + 3, none⟩ = some (.bool wt) := fun w' h => Field.bkeep h d3
  have Ls4 : ∀ w', Below w1.heap.size w1 w' → w'.cell? ⟨p.kb, n * 9 + 4, none⟩ = some (.bool fo) := fun w' h => Field.bkeep h d4
  have Ls5 : ∀ w', Below w1.heap.size w1 w' → w'.cell? ⟨p.kb, n * 9 + 5, none⟩ = some (.int .i64 sl) := fun w' h => Field.bkeep h d5
  have Ls6 : ∀ w', Below w1.heap.size w1 w' → w'.cell? ⟨p.kb, n * 9 + 6, none⟩ = some (.int .i64 ge) := fun w' h => Field.bkeep h d6
  have Ls7 : ∀ w', Below w1.heap.size w1 w' → w'.cell? ⟨p.kb, n * 9 + 7, none⟩ = some (.int .i64 st) := fun w' h => Field.bkeep h d7
  have Ls8 : ∀ w', Below w1.heap.size w1 w' → w'.cell? ⟨p.kb, n * 9 + 8, none⟩ = some (.int .i64 ks0) := fun w' h => Field.bkeep h d8
  have hKd : Below w1.heap.size w1 w1.drew := (Below.refl _ _).drew
  clear d0 d1 d2 d3 d4 d5 d6 d7 d8 bc c6
  go_wp2_with fail
  go_region_held3 (fun w' => Below w1.heap.size w1 w') (first | assumption | exact ((Below.refl _ _).alloc (Nat.le_refl _) _) | exact ((Below.refl _ _).alloc (Nat.le_refl _) _).drew | exact ((Below.refl _ _).drew.alloc (Nat.le_refl _) _)) (fail)
  clear L6 LB Ls0 Ls1 Ls2 Ls3 Ls4 Ls5 Ls6 Ls7 Ls8 b0 b1 b2 hKd
  have hb2 : Below w1.heap.size w1 ((w1.alloc (.cells #[.int .i64 1, .int .i64 op, .int .i64 dl, .bool wt, .bool fo, .int .i64 sl, .int .i64 ge, .int .i64 st, .int .i64 ks0] 94)).drew) := ((Below.refl _ _).alloc (Nat.le_refl _) _).drew
  have hB2 := hB.trans (hb2.mono hB.size)
  have r2 := Re.begin h hB2
  have a2 := a0.below hb2
  have e2 := e0.below hb2
  have q2 : RowAt ((w1.alloc (.cells #[.int .i64 1, .int .i64 op, .int .i64 dl, .bool wt, .bool fo, .int .i64 sl, .int .i64 ge, .int .i64 st, .int .i64 ks0] 94)).drew) (W.heap.size + 1 + 1) #[.int .i64 1, .int .i64 op, .int .i64 dl, .bool wt, .bool fo, .int .i64 sl, .int .i64 ge, .int .i64 st, .int .i64 ks0] 94 := by have := RowAt.new w1 #[.int .i64 1, .int .i64 op, .int .i64 dl, .bool wt, .bool fo, .int .i64 sl, .int .i64 ge, .int .i64 st, .int .i64 ks0] 94; rw [HSZ.out] at this; exact this
  have hs2 : (W.heap.size + 1 + 1) < ((w1.alloc (.cells #[.int .i64 1, .int .i64 op, .int .i64 dl, .bool wt, .bool fo, .int .i64 sl, .int .i64 ge, .int .i64 st, .int .i64 ks0] 94)).drew).heap.size := by have : ((w1.alloc (.cells #[.int .i64 1, .int .i64 op, .int .i64 dl, .bool wt, .bool fo, .int .i64 sl, .int .i64 ge, .int .i64 st, .int .i64 ks0] 94)).drew).heap.size = w1.heap.size + 1 := (by simp); have := HSZ.out; omega
  try simp only [HSZ.out]
  clear hb2 a0 e0 hB h0
  generalize hwz : (w1.alloc (.cells #[.int .i64 1, .int .i64 op, .int .i64 dl, .bool wt, .bool fo, .int .i64 sl, .int .i64 ge, .int .i64 st, .int .i64 ks0] 94)).drew = w2 at *
  clear hwz
  have kc0 : w2.cell? ⟨W.heap.size + 1 + 1, 0, none⟩ = some (.int .i64 1) := (q2).cell 0
  have kc1 : w2.cell? ⟨W.heap.size + 1 + 1, 1, none⟩ = some (.int .i64 op) := (q2).cell 1
  have kc2 : w2.cell? ⟨W.heap.size + 1 + 1, 2, none⟩ = some (.int .i64 dl) := (q2).cell 2
  have kc3 : w2.cell? ⟨W.heap.size + 1 + 1, 3, none⟩ = some (.bool wt) := (q2).cell 3
  have kc4 : w2.cell? ⟨W.heap.size + 1 + 1, 4, none⟩ = some (.bool fo) := (q2).cell 4
  have kc5 : w2.cell? ⟨W.heap.size + 1 + 1, 5, none⟩ = some (.int .i64 sl) := (q2).cell 5
  have kc6 : w2.cell? ⟨W.heap.size + 1 + 1, 6, none⟩ = some (.int .i64 ge) := (q2).cell 6
  have kc7 : w2.cell? ⟨W.heap.size + 1 + 1, 7, none⟩ = some (.int .i64 st) := (q2).cell 7
  have kc8 : w2.cell? ⟨W.heap.size + 1 + 1, 8, none⟩ = some (.int .i64 ks0) := (q2).cell 8
  have bc2 : w2.cell? ⟨W.heap.size, 0, none⟩ = some (.int .i64 n) := a2.cell 0
  have er2 : ERow w2 (W.heap.size + 1) := ⟨_, rfl, e2⟩
  have c9 := r2.at'.hd.c9
  have hpast : ∀ nn, Calls Tryz.prog 50 #[.pointer (some ⟨p.cb, 0, none⟩), .int .i64 dl] (w2.drewN nn) fun e w' => e = .returned (.bool false) ∧ w' = w2.drewN nn := fun nn => by
    have h1 := Clock.past_any (w2.drewN nn) ⟨p.cb, 0, none⟩ m.now dl r2.at'.clk
    rw [hdd] at h1
    exact h1.mono (fun e w' hh => ⟨hh.1, hh.2.symm⟩)
  have HPA := Lib.hid hpast
  clear hpast hdd
  go_wp2_with fail
  go_quiet ((go_at_call 50; exact Calls.quiet_of_same (HPA.out _)))
  have r3 := r2.below (bdrewN (Below.refl _ _) nq)
  have er3 := er2.below (bdrewN (Below.refl _ _) nq)
  clear r2 er2 a2 q2 e2 c9 HPA kc0 kc1 kc2 kc3 kc4 kc5 kc6 kc7 kc8 bc2
  generalize hwz : w2.drewN nq = w3 at *
  clear hwz
  go_upto_region 4 with (fail)
  obtain ⟨Z, z1, z2⟩ := er3
  refine wp_region_lit ?_
  refine RowL.wpList_run rfl Ev.zero.val (by go_simp; try rfl) ?_
  refine RowL.wpList_store_row rfl 36 (.tmp 4) (.tmp 19) rfl (W.heap.size + 1) _ Z Ev.zero.cells rfl rfl z2 z1 (by kernel_rfl) (ev_one _) ?_
  go_wp2_with fail
  refine bodyPost_ret (results_row2 rfl _ _ (W.heap.size + 1) _ _ _ rfl (z2.set _) Tryz.underlying36 rfl (by kernel_rfl)) rfl ?_
  rw [HR.out]
  exact (r3.row (by omega) (by first | omega | (simp)) _).fin hB2 _

theorem m_wake {W : World} {p : Pl} {m : M} (h : MAt W p m) (who : Int) : Calls Tryz.prog 16 #[.pointer (some ⟨p.mb, 0, none⟩), .int .i64 who] W (MPost W p (.tuple #[(m.wake who).1.1.val, .bool (m.wake who).1.2]) (m.wake who).2) := by
  cases hw : m.has who
  · exact m_wake_no h who hw
  obtain ⟨n, rfl⟩ : ∃ n : Nat, who = (n : Int) := by
    simp [M.has] at hw
    exact Int.eq_ofNat_of_zero_le hw.1
  have hnl : n < m.ks.length := by simp [M.has] at hw; omega
  obtain ⟨k, hk⟩ : ∃ k, m.ks[n]? = some k := ⟨_, List.getElem?_eq_getElem hnl⟩
  obtain ⟨at0, ⟨op, dl, wt, fo, sl, ge, st⟩, ks0⟩ := k
  by_cases h3 : at0 = 3
  · subst h3; exact m_wake_told h n op dl wt fo sl ge st ks0 hw hk
  by_cases h2 : at0 = 2
  · subst h2
    have hgr := h.ok.grants _ (List.mem_of_getElem? hk) rfl
    obtain ⟨i, hi⟩ := Int.eq_ofNat_of_zero_le hgr.1
    simp only at hi
    subst hi
    exact m_wake_granted h n i op dl wt fo sl ge st hw hk
  by_cases h1 : at0 = 1
  · subst h1
    by_cases hd : dl ≤ m.now
    · exact m_wake_late h n op dl wt fo sl ge st ks0 hw hk hd
    · exact m_wake_soon h n op dl wt fo sl ge st ks0 hw hk hd
  · exact m_wake_rest h n at0 op dl wt fo sl ge st ks0 hw hk h3 h2 h1
end Go.Proofs.YtpmkgddjgebojaaGreatDoor.Mod

namespace Go.Proofs.YtpmkgddjgebojaaGreatDoor.Mod
set_option linter.unusedVariables false
set_option linter.unusedSimpArgs false
open Go.RowKit Hp Slot RowL Life

set_option maxRecDepth 100000 in
set_option maxHeartbeats 16000000 in
theorem played_any (W : World) (c : Conf.Cf) (hc : c.right = true) (hL : Laid W) (lv : Value) (l : List Tn) (hl : TurnsAt W lv l) (hn : l.length ≤ 60) :
    Calls Tryz.prog 31 #[c.val, lv] W fun e W' => ∃ p m evs, e = .returned (.pointer (some ⟨p.mb, 0, none⟩)) ∧ MAt W' p m ∧ Played c l.length m evs ∧ (∀ j, mfp p j → W.heap.size ≤ j) ∧ Below W.heap.size W W' := by
  have hB0 : Below W.heap.size W (W.alloc (.cells c.cells 23)) := (Below.refl _ _).alloc (Nat.le_refl _) _
  have hnew := m_new (W.alloc (.cells c.cells 23)) c hc (hL.stable (hB0.block 0 (hL.lt (by decide))))
  have r0 : RowAt (W.alloc (.cells c.cells 23)) W.heap.size c.cells 23 := RowAt.new _ _ _
  have hpos : 0 < W.heap.size := hL.lt (by decide)
  have HL := Lib.hid hl
  obtain ⟨i0, hi, hz0, hz1, hz2⟩ := info_parts ev_info
  obtain ⟨a, cp, rfl, htok, hcells⟩ := hl
  clear hcells hL
  obtain ⟨cw, cs, cst, cwa, cu⟩ := c
  simp only [Conf.Cf.val, Conf.Cf.cells] at *
  have HC := Lib.hid hc
  clear hc
  go_enter Tryz.func31, Tryz.ntmps31
  go_wp2_with fail
  refine hnew.mono ?_
  rintro e w1 ⟨p, rfl, h1, hp, hb1⟩
  have hs0 : (W.alloc (.cells #[.int .i64 cw, .int .i64 cs, .int .i64 cst, .int .i64 cwa, .int .i64 cu] 23)).heap.size = W.heap.size + 1 := by simp
  have hw1 := hb1.size
  have hstart : PlayB W (fun j => j = W.heap.size) p.mb (.slice none 0 0) w1 p (M.new ⟨cw, cs, cst, cwa, cu⟩) [] := ⟨hpos, rfl, h1, ownS_nil _ _, fun j hj => by have := hp j hj; omega, fun j hj => (fp_nil j hj).elim, fun j hj => (fp_nil j hj).elim, fun j hj => ⟨by omega, fun hm => by have := hp j hm; omega, fun hm => fp_nil j hm⟩, hB0.trans (hb1.mono (by omega))⟩
  have hrow0 : RowAt w1 W.heap.size #[.int .i64 cw, .int .i64 cs, .int .i64 cst, .int .i64 cwa, .int .i64 cu] 23 := r0.below hb1
  clear r0 hnew h1 hs0 hp hw1
  go_wp2_with fail
  go_loopw [7, 8] (fun v i wr => ∃ k : Nat, k ≤ l.length ∧ i = .int .i64 k ∧ ∃ q m evs, PlayB W (fun j => j = W.heap.size) p.mb v wr q m evs ∧ Played ⟨cw, cs, cst, cwa, cu⟩ k m evs ∧ RowAt wr W.heap.size #[.int .i64 cw, .int .i64 cs, .int .i64 cst, .int .i64 cwa, .int .i64 cu] 23) (fun _ i _ => l.length - (intOf i).toNat)
  case atStart => exact ⟨0, by omega, rfl, p, _, _, hstart, .new, hrow0⟩
  case round =>
    rename_i wr
    clear hstart hrow0
    obtain ⟨k, hk, rfl, q, m, evs, hB, hran, hrow⟩ := hrel
    by_cases hlt : k < l.length
    · obtain ⟨t, ht⟩ : ∃ t, l[k]? = some t := ⟨_, List.getElem?_eq_getElem hlt⟩
      have hto : t.ok := htok t (List.mem_of_getElem? ht)
      have hTw := HL.out.below hB.below
      obtain ⟨a', cp', he, -, hT⟩ := hTw
      cases he
      rcases hT with hT | ⟨g, off, rfl, hT⟩
      · subst hT; simp at hlt
      obtain ⟨tk, tw, tp, ts, tg, tn⟩ := t
      have hg : g < wr.heap.size := World.block_lt_of_cell? _ _ (hT k _ ht 0 _ rfl)
      have hcell : ∀ w', Below wr.heap.size wr w' → ∀ j u, (⟨tk, tw, tp, ts, tg, tn⟩ : Tn).cells[j]? = some u → w'.cell? ⟨g, off + k * 6 + j, none⟩ = some u := fun w' hb j u hu => (World.cell?_of_block (w := wr) (hb.block g hg)).trans (hT k _ ht j u hu)
      have hcrow : ∀ w', Below wr.heap.size wr w' → RowAt w' W.heap.size #[.int .i64 cw, .int .i64 cs, .int .i64 cst, .int .i64 cwa, .int .i64 cu] 23 := fun w' hb => hrow.below hb
      have hent : ∀ w', Below wr.heap.size wr w' → Calls Tryz.prog 21 #[.agg #[.int .u8 tk, .int .u8 tw, .int .u8 tp, .int .u8 ts, .int .u8 tg, .int .u8 tn], .agg #[.int .i64 cw, .int .i64 cs, .int .i64 cst, .int .i64 cwa, .int .i64 cu], u7] w' (EntryP w') := fun w' hb =>
        entry_any w' tk tw tp ts tg tn hto.1 hto.2.1 hto.2.2.1 hto.2.2.2.1 hto.2.2.2.2.1 hto.2.2.2.2.2 ⟨cw, cs, cst, cwa, cu⟩ HC.out u7 evs (by have := hran.len; omega) (hB.evs.stable hb.size (fun j hj => hb.block j (hB.evs.lt hj)))
      have HT := Lib.hid hT
      have b0 : (0 : Int) ≤ (k : Int) := by omega
      have b1 : (k : Int) < (l.length : Int) := by omega
      have b2 : (k : Int) ≤ (l.length : Int) - 1 := by omega
      clear hT
      go_upto_region 8 with (fail)
      go_cut [9] from 26 to 90 (fun s9 wx => (∃ eb : Nat, s9 = .pointer (some ⟨eb, 0, none⟩) ∧ wr.heap.size ≤ eb ∧ ∃ x : En, RowAt wx eb x.cells 54 ∧ x.ok) ∧ Below wr.heap.size wr wx)
      case first =>
        rename_i JJ KK hJJ hKK
        refine wp_region_held_drew (S := fun w' => Below wr.heap.size wr w') (by kernel_rfl) (by exact (Below.refl _ _).drew) (fun hHeld => ?_)
        refine takeg (i := 0) (d := some 32) (v := ?_) (by kernel_rfl) (by kernel_rfl) (by kernel_rfl) (by kernel_rfl) (fun _ _ _ h => h) (by kernel_rfl) ?_ hHeld ?_
        rotate_left
        · intro w hSw
          try dsimp only at hSw
          go_simp
          try with_reducible rfl
        try simp only [Act.put, List.setIfInBounds_toArray, List.set_cons_zero, List.set_cons_succ]
        refine takeg (i := 1) (d := some 33) (v := ?_) (by kernel_rfl) (by kernel_rfl) (by kernel_rfl) (by kernel_rfl) (fun _ _ _ h => h) (by kernel_rfl) ?_ hHeld ?_
        rotate_left
        · intro w hSw
          try dsimp only at hSw
          go_simp
          try with_reducible rfl
        try simp only [Act.put, List.setIfInBounds_toArray, List.set_cons_zero, List.set_cons_succ]
        refine takeg (i := 2) (d := some 34) (v := ?_) (by kernel_rfl) (by kernel_rfl) (by kernel_rfl) (by kernel_rfl) (fun _ _ _ h => h) (by kernel_rfl) ?_ hHeld ?_
        rotate_left
        · intro w hSw
          try dsimp only at hSw
          go_simp
          try with_reducible rfl
        try simp only [Act.put, List.setIfInBounds_toArray, List.set_cons_zero, List.set_cons_succ]
        refine takeg (i := 3) (d := some 35) (v := ?_) (by kernel_rfl) (by kernel_rfl) (by kernel_rfl) (by kernel_rfl) (fun _ _ _ h => h) (by kernel_rfl) ?_ hHeld ?_
        rotate_left
        · intro w hSw
          try dsimp only at hSw
          have c0 : w.cell? ⟨g, off + k * 6, none⟩ = some (.int .u8 tk) := hcell w hSw 0 _ rfl
          have c1 : w.cell? ⟨g, off + k * 6 + 1, none⟩ = some (.int .u8 tw) := hcell w hSw 1 _ rfl
          have c2 : w.cell? ⟨g, off + k * 6 + 2, none⟩ = some (.int .u8 tp) := hcell w hSw 2 _ rfl
          have c3 : w.cell? ⟨g, off + k * 6 + 3, none⟩ = some (.int .u8 ts) := hcell w hSw 3 _ rfl
          have c4 : w.cell? ⟨g, off + k * 6 + 4, none⟩ = some (.int .u8 tg) := hcell w hSw 4 _ rfl
          have c5 : w.cell? ⟨g, off + k * 6 + 5, none⟩ = some (.int .u8 tn) := hcell w hSw 5 _ rfl
          go_simp
          try with_reducible rfl
        try simp only [Act.put, List.setIfInBounds_toArray, List.set_cons_zero, List.set_cons_succ]
        refine takeg (i := 4) (d := some 36) (v := ?_) (by kernel_rfl) (by kernel_rfl) (by kernel_rfl) (by kernel_rfl) (fun _ _ _ h => h) (by kernel_rfl) ?_ hHeld ?_
        rotate_left
        · intro w hSw
          try dsimp only at hSw
          have c0 : w.cell? ⟨W.heap.size, 0, none⟩ = some (.int .i64 cw) := (hcrow w hSw).cell 0
          have c1 : w.cell? ⟨W.heap.size, 1, none⟩ = some (.int .i64 cs) := (hcrow w hSw).cell 1
          have c2 : w.cell? ⟨W.heap.size, 2, none⟩ = some (.int .i64 cst) := (hcrow w hSw).cell 2
          have c3 : w.cell? ⟨W.heap.size, 3, none⟩ = some (.int .i64 cwa) := (hcrow w hSw).cell 3
          have c4 : w.cell? ⟨W.heap.size, 4, none⟩ = some (.int .i64 cu) := (hcrow w hSw).cell 4
          go_simp
          try with_reducible rfl
        try simp only [Act.put, List.setIfInBounds_toArray, List.set_cons_zero, List.set_cons_succ]
        refine takeg (i := 5) (d := some 37) (v := ?_) (by kernel_rfl) (by kernel_rfl) (by kernel_rfl) (by kernel_rfl) (fun _ _ _ h => h) (by kernel_rfl) ?_ hHeld ?_
        rotate_left
        · intro w hSw
          try dsimp only at hSw
          go_simp
          try with_reducible rfl
        try simp only [Act.put, List.setIfInBounds_toArray, List.set_cons_zero, List.set_cons_succ]
        refine ready2 (i := 6) (k := 7) (by kernel_rfl) ?_ ?_
        · refine step_call 21 #[.tmp 35, .tmp 36, .tmp 37] #[57, 23, 52] (some 38) none (by kernel_rfl) (by kernel_rfl) #[.agg #[.int .u8 tk, .int .u8 tw, .int .u8 tp, .int .u8 ts, .int .u8 tg, .int .u8 tn], .agg #[.int .i64 cw, .int .i64 cs, .int .i64 cst, .int .i64 cwa, .int .i64 cu], u7] (by go_simp; try rfl) (enters_of Tryz.func21 (by kernel_rfl) rfl) ?_
          refine (hent _ hHeld).mono ?_
          rintro e w2 ⟨x, rfl, hx, hb2⟩
          have hb2' : Below wr.heap.size wr w2 := hHeld.trans (hb2.mono hHeld.size)
          refine ⟨_, rfl, hb2', fun hH2 => ?_⟩
          try simp only [Act.put, List.setIfInBounds_toArray, List.set_cons_zero, List.set_cons_succ]
          have hb3 : Below wr.heap.size wr (w2.alloc (.cells #[.int .i64 0, .int .i64 0, .int .i64 0, .int .i64 0, .bool false, .bool false, .int .i64 0, .int .i64 0, .int .i64 0, .int .i64 0, .bool false] 54)) := hb2'.alloc hb2'.size _
          refine ready1 (i := 7) (by kernel_rfl) (step_run (w' := w2.alloc (.cells #[.int .i64 0, .int .i64 0, .int .i64 0, .int .i64 0, .bool false, .bool false, .int .i64 0, .int .i64 0, .int .i64 0, .int .i64 0, .bool false] 54)) (some 9) (.pointer (some ⟨w2.heap.size, 0, none⟩)) (by kernel_rfl) (by kernel_rfl) (by go_simp; try rfl) hb3 (fun _ => ?_))
          try simp only [Act.put, List.setIfInBounds_toArray, List.set_cons_zero, List.set_cons_succ]
          have rz := RowAt.new w2 #[.int .i64 0, .int .i64 0, .int .i64 0, .int .i64 0, .bool false, .bool false, .int .i64 0, .int .i64 0, .int .i64 0, .int .i64 0, .bool false] 54
          have hb4 : Below wr.heap.size wr ((w2.alloc (.cells #[.int .i64 0, .int .i64 0, .int .i64 0, .int .i64 0, .bool false, .bool false, .int .i64 0, .int .i64 0, .int .i64 0, .int .i64 0, .bool false] 54)).setRow w2.heap.size x.cells) := below_setRow hb3 hb2'.size _
          have rx := rz.set x.cells
          refine ready1 (i := 8) (by kernel_rfl) (step_store_row 54 (.tmp 9) (.tmp 38) (by kernel_rfl) w2.heap.size 54 #[.int .i64 0, .int .i64 0, .int .i64 0, .int .i64 0, .bool false, .bool false, .int .i64 0, .int .i64 0, .int .i64 0, .int .i64 0, .bool false] x.cells rfl rfl rz rfl (by kernel_rfl) (by simp [En.cells, Value.oneCell']) hb4 (fun _ => ?_))
          try simp only [Act.put, List.setIfInBounds_toArray, List.set_cons_zero, List.set_cons_succ]
          refine wpAnyH_done (by kernel_rfl) ?_ _
          refine hKK _ _ (Met.intro (hJJ _ _ ?_))
          (repeat apply Exists.intro)
          refine ⟨?rel, rfl⟩
          case rel => exact ⟨⟨w2.heap.size, rfl, hb2'.size, x, rx, hx⟩, hb4⟩
        · have hb3 : Below wr.heap.size wr (wr.drew.alloc (.cells #[.int .i64 0, .int .i64 0, .int .i64 0, .int .i64 0, .bool false, .bool false, .int .i64 0, .int .i64 0, .int .i64 0, .int .i64 0, .bool false] 54)) := hHeld.alloc hHeld.size _
          refine step_run (w' := wr.drew.alloc (.cells #[.int .i64 0, .int .i64 0, .int .i64 0, .int .i64 0, .bool false, .bool false, .int .i64 0, .int .i64 0, .int .i64 0, .int .i64 0, .bool false] 54)) (some 9) (.pointer (some ⟨wr.heap.size, 0, none⟩)) (by kernel_rfl) (by kernel_rfl) (by go_simp; try rfl) hb3 (fun _ => ?_)
          try simp only [Act.put, List.setIfInBounds_toArray, List.set_cons_zero, List.set_cons_succ]
          have rz := RowAt.new wr.drew #[.int .i64 0, .int .i64 0, .int .i64 0, .int .i64 0, .bool false, .bool false, .int .i64 0, .int .i64 0, .int .i64 0, .int .i64 0, .bool false] 54
          refine ready1 (i := 6) (by kernel_rfl) ?_
          refine step_call 21 #[.tmp 35, .tmp 36, .tmp 37] #[57, 23, 52] (some 38) none (by kernel_rfl) (by kernel_rfl) #[.agg #[.int .u8 tk, .int .u8 tw, .int .u8 tp, .int .u8 ts, .int .u8 tg, .int .u8 tn], .agg #[.int .i64 cw, .int .i64 cs, .int .i64 cst, .int .i64 cwa, .int .i64 cu], u7] (by go_simp; try rfl) (enters_of Tryz.func21 (by kernel_rfl) rfl) ?_
          refine (hent _ hb3).mono ?_
          rintro e w2 ⟨x, rfl, hx, hb2⟩
          have hb2' : Below wr.heap.size wr w2 := hb3.trans (hb2.mono hb3.size)
          refine ⟨_, rfl, hb2', fun hH2 => ?_⟩
          try simp only [Act.put, List.setIfInBounds_toArray, List.set_cons_zero, List.set_cons_succ]
          have rz2 : RowAt w2 wr.heap.size #[.int .i64 0, .int .i64 0, .int .i64 0, .int .i64 0, .bool false, .bool false, .int .i64 0, .int .i64 0, .int .i64 0, .int .i64 0, .bool false] 54 := rz.below hb2
          have hb4 : Below wr.heap.size wr (w2.setRow wr.heap.size x.cells) := below_setRow hb2' (Nat.le_refl _) _
          have rx := rz2.set x.cells
          refine ready1 (i := 8) (by kernel_rfl) (step_store_row 54 (.tmp 9) (.tmp 38) (by kernel_rfl) wr.heap.size 54 #[.int .i64 0, .int .i64 0, .int .i64 0, .int .i64 0, .bool false, .bool false, .int .i64 0, .int .i64 0, .int .i64 0, .int .i64 0, .bool false] x.cells rfl rfl rz2 rfl (by kernel_rfl) (by simp [En.cells, Value.oneCell']) hb4 (fun _ => ?_))
          try simp only [Act.put, List.setIfInBounds_toArray, List.set_cons_zero, List.set_cons_succ]
          refine wpAnyH_done (by kernel_rfl) ?_ _
          refine hKK _ _ (Met.intro (hJJ _ _ ?_))
          (repeat apply Exists.intro)
          refine ⟨?rel, rfl⟩
          case rel => exact ⟨⟨wr.heap.size, rfl, Nat.le_refl _, x, rx, hx⟩, hb4⟩
      case rest =>
        obtain ⟨⟨eb, rfl, heb, x, rx, hx⟩, hb9⟩ := hcut
        generalize wc = w9 at *
        have hB9 := hB.below' hb9
        have hrow9 := hrow.below hb9
        obtain ⟨xk, xw, ⟨op, dl, wt, fo, sl, ge, st⟩, xn, xg⟩ := x
        simp only [En.cells] at rx
        clear hcell hcrow hent
        have e0 : w9.cell? ⟨eb, 0, none⟩ = some (.int .i64 xk) := rx.cell 0
        by_cases hk0 : xk = 0
        · subst hk0
          have hm := m_ask hB9.at' xw ⟨op, dl, wt, fo, sl, ge, st⟩
          rw [hB9.mb] at hm
          have hen : m.entry ⟨0, xw, ⟨op, dl, wt, fo, sl, ge, st⟩, xn, xg⟩ = (if (m.ask xw ⟨op, dl, wt, fo, sl, ge, st⟩).1.2.1 then some (m.ask xw ⟨op, dl, wt, fo, sl, ge, st⟩).1.1 else none, (m.ask xw ⟨op, dl, wt, fo, sl, ge, st⟩).2) := by simp [M.entry]
          generalize m.ask xw ⟨op, dl, wt, fo, sl, ge, st⟩ = r at hm hen
          obtain ⟨⟨y, yb, yc⟩, m2⟩ := r
          simp only at hen
          have HEN := Lib.hid hen
          clear hen
          have e1 : w9.cell? ⟨eb, 1, none⟩ = some (.int .i64 xw) := rx.cell 1
          have e2 : w9.cell? ⟨eb, 2, none⟩ = some (.int .i64 op) := rx.cell 2
          have e3 : w9.cell? ⟨eb, 3, none⟩ = some (.int .i64 dl) := rx.cell 3
          have e4 : w9.cell? ⟨eb, 4, none⟩ = some (.bool wt) := rx.cell 4
          have e5 : w9.cell? ⟨eb, 5, none⟩ = some (.bool fo) := rx.cell 5
          have e6 : w9.cell? ⟨eb, 6, none⟩ = some (.int .i64 sl) := rx.cell 6
          have e7 : w9.cell? ⟨eb, 7, none⟩ = some (.int .i64 ge) := rx.cell 7
          have e8 : w9.cell? ⟨eb, 8, none⟩ = some (.int .i64 st) := rx.cell 8
          go_wp2_with fail
          refine hm.mono ?_
          intro e w10 hpost
          obtain ⟨rfl, p2, hB2, hS2⟩ := hB9.post hpost
          clear hpost hm e1 e2 e3 e4 e5 e6 e7 e8
          have rz := RowAt.new w10 #[.bool false, .int .i64 0, .int .i64 0, .int .i64 0, .int .i64 0, .bool false, .bool false, .int .i64 0, .int .i64 0, .int .i64 0, .int .i64 0, .int .i64 0, .int .i64 0, .int .i64 0, .int .i64 0, .int .i64 0, .int .i64 0, .int .i64 0] 36
          have hst := ev_store rz rfl y
          have hsz := ev_size y
          have rw2 := rz.set y.cells
          have hb11 : Below w10.heap.size w10 ((w10.alloc (.cells #[.bool false, .int .i64 0, .int .i64 0, .int .i64 0, .int .i64 0, .bool false, .bool false, .int .i64 0, .int .i64 0, .int .i64 0, .int .i64 0, .int .i64 0, .int .i64 0, .int .i64 0, .int .i64 0, .int .i64 0, .int .i64 0, .int .i64 0] 36)).setRow w10.heap.size y.cells) := below_setRow ((Below.refl _ _).alloc (Nat.le_refl _) _) (Nat.le_refl _) _
          have hB3 := hB2.below' hb11
          have hS3 := hS2.trans (hB2.same hb11)
          cases yb
          · have hSw : Sw W (fun j => j = W.heap.size) p.mb w9 m evs ⟨0, xw, ⟨op, dl, wt, fo, sl, ge, st⟩, xn, xg⟩ u7 ((w10.alloc (.cells #[.bool false, .int .i64 0, .int .i64 0, .int .i64 0, .int .i64 0, .bool false, .bool false, .int .i64 0, .int .i64 0, .int .i64 0, .int .i64 0, .int .i64 0, .int .i64 0, .int .i64 0, .int .i64 0, .int .i64 0, .int .i64 0, .int .i64 0] 36)).setRow w10.heap.size y.cells) := Sw.none (by simpa using HEN.out) hB3 hS3
            clear HEN
            go_wp2_with fail
            go_round
            case rel => obtain ⟨p', hP', hS'⟩ := hSw; exact ⟨k + 1, by omega, rfl, p', _, _, hP', hran.step _ hx, RowAt.same hrow9 hS' rfl⟩
            case measure => simp [intOf] <;> omega
          · go_upto_region 13 with (fail)
            generalize (w10.alloc (.cells #[.bool false, .int .i64 0, .int .i64 0, .int .i64 0, .int .i64 0, .bool false, .bool false, .int .i64 0, .int .i64 0, .int .i64 0, .int .i64 0, .int .i64 0, .int .i64 0, .int .i64 0, .int .i64 0, .int .i64 0, .int .i64 0, .int .i64 0] 36)).setRow w10.heap.size y.cells = w11 at *
            generalize w10.heap.size = ab at *
            have hown := OwnS.alloc hB3.evs (.cells y.cells 36)
            refine wp_region_lit ?_
            refine wpList_run rfl u7 (by go_simp; try rfl) ?_
            refine RowL.wpList_load_row rfl 36 (.tmp 10) rfl ab _ y.cells _ rfl rw2 Tryz.underlying36 rfl (by kernel_rfl) ?_
            refine wpList_build_ev rfl (.tmp 55) rfl y rfl ?_
            refine Hp.wpList_append _ rfl (.tmp 54) (.tmp 56) 52 rfl 36 i0 Ev.zero.val 18 136 Tryz.underlying52 hi hz0 hz1 hz2 rfl (by decide) u7 evs.length (flatE evs) rfl hown ⟨w11.heap.size, 0, none⟩ 1 1 y.cells.toList rfl rfl (ev_new w11 y) (ev_ones y) ?c3 ?c4 ?_
            case c3 => have := hran.len; unfold maxLen; omega
            case c4 => have := hran.len; omega
            intro a' cn w13 hown' hfp hch
            have hb12 : Below w11.heap.size w11 (w11.alloc (.cells y.cells 36)) := (Below.refl _ _).alloc (Nat.le_refl _) _
            have hB12 := hB3.below' hb12
            obtain ⟨hB5, hS5⟩ := hB12.append hown' hfp hch
            have hSw : Sw W (fun j => j = W.heap.size) p.mb w9 m evs ⟨0, xw, ⟨op, dl, wt, fo, sl, ge, st⟩, xn, xg⟩ (.slice a' (evs.length + 1) cn) w13 := Sw.some (by simpa using HEN.out) hB5 (hS3.trans ((hB3.same hb12).trans hS5))
            clear HEN hown' hfp hch hB12 hown hb12
            go_wp2_with fail
            go_round
            case rel => obtain ⟨p', hP', hS'⟩ := hSw; exact ⟨k + 1, by omega, rfl, p', _, _, hP', hran.step _ hx, RowAt.same hrow9 hS' rfl⟩
            case measure => simp [intOf] <;> omega
        by_cases hk1 : xk = 1
        · subst hk1
          have hm := m_wake hB9.at' xw
          rw [hB9.mb] at hm
          have hen : m.entry ⟨1, xw, ⟨op, dl, wt, fo, sl, ge, st⟩, xn, xg⟩ = (if (m.wake xw).1.2 then some (m.wake xw).1.1 else none, (m.wake xw).2) := by simp [M.entry]
          generalize m.wake xw = r at hm hen
          obtain ⟨⟨y, yb⟩, m2⟩ := r
          simp only at hen
          have HEN := Lib.hid hen
          clear hen
          have e1 : w9.cell? ⟨eb, 1, none⟩ = some (.int .i64 xw) := rx.cell 1
          go_wp2_with fail
          refine hm.mono ?_
          intro e w10 hpost
          obtain ⟨rfl, p2, hB2, hS2⟩ := hB9.post hpost
          clear hpost hm e1
          have rz := RowAt.new w10 #[.bool false, .int .i64 0, .int .i64 0, .int .i64 0, .int .i64 0, .bool false, .bool false, .int .i64 0, .int .i64 0, .int .i64 0, .int .i64 0, .int .i64 0, .int .i64 0, .int .i64 0, .int .i64 0, .int .i64 0, .int .i64 0, .int .i64 0] 36
          have hst := ev_store rz rfl y
          have hsz := ev_size y
          have rw2 := rz.set y.cells
          have hb11 : Below w10.heap.size w10 ((w10.alloc (.cells #[.bool false, .int .i64 0, .int .i64 0, .int .i64 0, .int .i64 0, .bool false, .bool false, .int .i64 0, .int .i64 0, .int .i64 0, .int .i64 0, .int .i64 0, .int .i64 0, .int .i64 0, .int .i64 0, .int .i64 0, .int .i64 0, .int .i64 0] 36)).setRow w10.heap.size y.cells) := below_setRow ((Below.refl _ _).alloc (Nat.le_refl _) _) (Nat.le_refl _) _
          have hB3 := hB2.below' hb11
          have hS3 := hS2.trans (hB2.same hb11)
          cases yb
          · have hSw : Sw W (fun j => j = W.heap.size) p.mb w9 m evs ⟨1, xw, ⟨op, dl, wt, fo, sl, ge, st⟩, xn, xg⟩ u7 ((w10.alloc (.cells #[.bool false, .int .i64 0, .int .i64 0, .int .i64 0, .int .i64 0, .bool false, .bool false, .int .i64 0, .int .i64 0, .int .i64 0, .int .i64 0, .int .i64 0, .int .i64 0, .int .i64 0, .int .i64 0, .int .i64 0, .int .i64 0, .int .i64 0] 36)).setRow w10.heap.size y.cells) := Sw.none (by simpa using HEN.out) hB3 hS3
            clear HEN
            go_wp2_with fail
            go_round
            case rel => obtain ⟨p', hP', hS'⟩ := hSw; exact ⟨k + 1, by omega, rfl, p', _, _, hP', hran.step _ hx, RowAt.same hrow9 hS' rfl⟩
            case measure => simp [intOf] <;> omega
          · go_upto_region 17 with (fail)
            generalize (w10.alloc (.cells #[.bool false, .int .i64 0, .int .i64 0, .int .i64 0, .int .i64 0, .bool false, .bool false, .int .i64 0, .int .i64 0, .int .i64 0, .int .i64 0, .int .i64 0, .int .i64 0, .int .i64 0, .int .i64 0, .int .i64 0, .int .i64 0, .int .i64 0] 36)).setRow w10.heap.size y.cells = w11 at *
            generalize w10.heap.size = ab at *
            have hown := OwnS.alloc hB3.evs (.cells y.cells 36)
            refine wp_region_lit ?_
            refine wpList_run rfl u7 (by go_simp; try rfl) ?_
            refine RowL.wpList_load_row rfl 36 (.tmp 13) rfl ab _ y.cells _ rfl rw2 Tryz.underlying36 rfl (by kernel_rfl) ?_
            refine wpList_build_ev rfl (.tmp 69) rfl y rfl ?_
            refine Hp.wpList_append _ rfl (.tmp 68) (.tmp 70) 52 rfl 36 i0 Ev.zero.val 18 136 Tryz.underlying52 hi hz0 hz1 hz2 rfl (by decide) u7 evs.length (flatE evs) rfl hown ⟨w11.heap.size, 0, none⟩ 1 1 y.cells.toList rfl rfl (ev_new w11 y) (ev_ones y) ?c3 ?c4 ?_
            case c3 => have := hran.len; unfold maxLen; omega
            case c4 => have := hran.len; omega
            intro a' cn w13 hown' hfp hch
            have hb12 : Below w11.heap.size w11 (w11.alloc (.cells y.cells 36)) := (Below.refl _ _).alloc (Nat.le_refl _) _
            have hB12 := hB3.below' hb12
            obtain ⟨hB5, hS5⟩ := hB12.append hown' hfp hch
            have hSw : Sw W (fun j => j = W.heap.size) p.mb w9 m evs ⟨1, xw, ⟨op, dl, wt, fo, sl, ge, st⟩, xn, xg⟩ (.slice a' (evs.length + 1) cn) w13 := Sw.some (by simpa using HEN.out) hB5 (hS3.trans ((hB3.same hb12).trans hS5))
            clear HEN hown' hfp hch hB12 hown hb12
            go_wp2_with fail
            go_round
            case rel => obtain ⟨p', hP', hS'⟩ := hSw; exact ⟨k + 1, by omega, rfl, p', _, _, hP', hran.step _ hx, RowAt.same hrow9 hS' rfl⟩
            case measure => simp [intOf] <;> omega
        by_cases hk2 : xk = 2
        · subst hk2
          have hm := m_tick hB9.at' xn (by have := hx.2.1; simp only at this; omega) (by have := hx.2.2; simp only at this; omega)
          rw [hB9.mb] at hm
          have e9 : w9.cell? ⟨eb, 9, none⟩ = some (.int .i64 xn) := rx.cell 9
          go_wp2_with fail
          refine hm.mono ?_
          rintro e w10 ⟨⟨v, rfl⟩, hA, hC⟩
          have hpost : MPost w9 q v (m.tick xn) (.returned v) w10 := ⟨rfl, q.lv, q.rv, hA, fun k h => .inl h, fun k h => .inl h, hC⟩
          obtain ⟨-, p2, hB2, hS2⟩ := hB9.post hpost
          clear hpost hA hC hm
          have hSw : Sw W (fun j => j = W.heap.size) p.mb w9 m evs ⟨2, xw, ⟨op, dl, wt, fo, sl, ge, st⟩, xn, xg⟩ u7 w10 := Sw.none (by simp [M.entry]) hB2 hS2
          go_wp2_with fail
          go_round
          case rel => obtain ⟨p', hP', hS'⟩ := hSw; exact ⟨k + 1, by omega, rfl, p', _, _, hP', hran.step _ hx, RowAt.same hrow9 hS' rfl⟩
          case measure => simp [intOf] <;> omega
        by_cases hk3 : xk = 3
        · subst hk3
          have hm := m_feed hB9.at' xg
          rw [hB9.mb] at hm
          have e10 : w9.cell? ⟨eb, 10, none⟩ = some (.bool xg) := rx.cell 10
          go_wp2_with fail
          refine hm.mono ?_
          intro e w10 hpost
          obtain ⟨rfl, p2, hB2, hS2⟩ := hB9.post hpost
          clear hpost hm
          have hSw : Sw W (fun j => j = W.heap.size) p.mb w9 m evs ⟨3, xw, ⟨op, dl, wt, fo, sl, ge, st⟩, xn, xg⟩ u7 w10 := Sw.none (by simp [M.entry]) hB2 hS2
          go_wp2_with fail
          go_round
          case rel => obtain ⟨p', hP', hS'⟩ := hSw; exact ⟨k + 1, by omega, rfl, p', _, _, hP', hran.step _ hx, RowAt.same hrow9 hS' rfl⟩
          case measure => simp [intOf] <;> omega
        by_cases hk4 : xk = 4
        · subst hk4
          have hm := m_break hB9.at' sl
          rw [hB9.mb] at hm
          have e6 : w9.cell? ⟨eb, 6, none⟩ = some (.int .i64 sl) := rx.cell 6
          go_wp2_with fail
          refine hm.mono ?_
          intro e w10 hpost
          obtain ⟨rfl, p2, hB2, hS2⟩ := hB9.post hpost
          clear hpost hm
          have hSw : Sw W (fun j => j = W.heap.size) p.mb w9 m evs ⟨4, xw, ⟨op, dl, wt, fo, sl, ge, st⟩, xn, xg⟩ u7 w10 := Sw.none (by simp [M.entry]) hB2 hS2
          go_wp2_with fail
          go_round
          case rel => obtain ⟨p', hP', hS'⟩ := hSw; exact ⟨k + 1, by omega, rfl, p', _, _, hP', hran.step _ hx, RowAt.same hrow9 hS' rfl⟩
          case measure => simp [intOf] <;> omega
        have k0 : (xk == 0) = false := by simpa using hk0
        have k1 : (xk == 1) = false := by simpa using hk1
        have k2 : (xk == 2) = false := by simpa using hk2
        have k3 : (xk == 3) = false := by simpa using hk3
        have k4 : (xk == 4) = false := by simpa using hk4
        have hSw : Sw W (fun j => j = W.heap.size) p.mb w9 m evs ⟨xk, xw, ⟨op, dl, wt, fo, sl, ge, st⟩, xn, xg⟩ u7 w9 := Sw.none (by simp [M.entry, hk0, hk1, hk2, hk3, hk4]) hB9 (Same.refl _ _)
        clear hk0 hk1 hk2 hk3 hk4
        go_wp2_with fail
        go_round
        case rel => obtain ⟨p', hP', hS'⟩ := hSw; exact ⟨k + 1, by omega, rfl, p', _, _, hP', hran.step _ hx, RowAt.same hrow9 hS' rfl⟩
        case measure => simp [intOf] <;> omega
    · obtain rfl : k = l.length := by omega
      go_wp2_with fail
      go_ret
      exact ⟨q, m, evs, by rw [hB.mb]; rfl, hB.at', hran, hB.new, hB.below⟩
end Go.Proofs.YtpmkgddjgebojaaGreatDoor.Mod

namespace Go.Proofs.YtpmkgddjgebojaaGreatDoor.Mod
set_option linter.unusedVariables false
set_option linter.unusedSimpArgs false
open Go.RowKit Hp Slot RowL Life

def aw0 : M := M.new (⟨2, 1, 0, 1, 9⟩ : Conf.Cf)
def ea0 : Ev := ⟨true, 0, 0, ⟨0, 0, false, false, 0, 0, 0⟩, 0, 0, 1, 0, 0, 0, 0, 0⟩
theorem aw0_eq : (aw0.ask 0 (⟨0, 0, false, false, 0, 0, 0⟩ : Ask)).1 = ((ea0, true, true)) := by kernel_rfl
def aw1 : M := (aw0.ask 0 (⟨0, 0, false, false, 0, 0, 0⟩ : Ask)).2
def ea1 : Ev := Ev.zero
theorem aw1_eq : (aw1.ask 1 (⟨0, 9, true, false, 0, 0, 0⟩ : Ask)).1 = ((ea1, false, true)) := by kernel_rfl
def aw2 : M := (aw1.ask 1 (⟨0, 9, true, false, 0, 0, 0⟩ : Ask)).2
def ea2 : Ev := Ev.zero
theorem aw2_eq : (aw2.wake 1).1 = (ea2, false) := by kernel_rfl
def aw3 : M := (aw2.wake 1).2
def ea3 : Ev := ⟨true, 0, 0, ⟨1, 0, false, false, 0, 1, 0⟩, 0, 0, 0, 0, 0, 0, 0, 0⟩
theorem aw3_eq : (aw3.ask 0 (⟨1, 0, false, false, 0, 1, 0⟩ : Ask)).1 = ((ea3, true, true)) := by kernel_rfl
def aw4 : M := (aw3.ask 0 (⟨1, 0, false, false, 0, 1, 0⟩ : Ask)).2
def ea4 : Ev := ⟨true, 1, 0, ⟨0, 9, true, false, 0, 0, 0⟩, 0, 0, 2, 0, 0, 0, 0, 0⟩
theorem aw4_eq : (aw4.wake 1).1 = (ea4, true) := by kernel_rfl

set_option maxRecDepth 100000 in
set_option maxHeartbeats 16000000 in
theorem awake_any (W : World) (hL : Laid W) : Calls Tryz.prog 11 #[] W fun e W' => e = .returned (.bool true) ∧ Below W.heap.size W W' := by
  have hnew := m_new W (⟨2, 1, 0, 1, 9⟩ : Conf.Cf) (by decide) hL
  have hpos : 0 < W.heap.size := hL.lt (by decide)
  go_enter Tryz.func11, Tryz.ntmps11
  go_wp2_with fail
  refine hnew.mono ?_
  rintro e w1 ⟨p0, rfl, h1, hp, hb1⟩
  have hB0 : PlayB W (fun j => False) p0.mb (.slice none 0 0) w1 p0 aw0 [] := ⟨hpos, rfl, h1, ownS_nil _ _, hp, fun j hj => (fp_nil j hj).elim, fun j hj => (fp_nil j hj).elim, fun j hj => hj.elim, hb1⟩
  generalize p0.mb = mb at *
  clear hnew h1 hp hb1
  go_wp2_with fail
  have hm := m_ask hB0.at' 0 (⟨0, 0, false, false, 0, 0, 0⟩ : Ask)
  have hmb := hB0.mb
  have hq := aw0_eq
  rw [hmb, hq] at hm
  simp only at hm
  refine hm.mono ?_
  intro e v0 hpost
  obtain ⟨rfl, p1, hC0, hS0⟩ := hB0.post hpost
  clear hpost hm hmb hq
  have rz := RowAt.new v0 #[.bool false, .int .i64 0, .int .i64 0, .int .i64 0, .int .i64 0, .bool false, .bool false, .int .i64 0, .int .i64 0, .int .i64 0, .int .i64 0, .int .i64 0, .int .i64 0, .int .i64 0, .int .i64 0, .int .i64 0, .int .i64 0, .int .i64 0] 36
  have hst := ev_store rz rfl ea0
  have hsz := ev_size ea0
  have row0 := rz.set (ea0).cells
  have hb : Below v0.heap.size v0 ((v0.alloc (.cells #[.bool false, .int .i64 0, .int .i64 0, .int .i64 0, .int .i64 0, .bool false, .bool false, .int .i64 0, .int .i64 0, .int .i64 0, .int .i64 0, .int .i64 0, .int .i64 0, .int .i64 0, .int .i64 0, .int .i64 0, .int .i64 0, .int .i64 0] 36)).setRow v0.heap.size (ea0).cells) := below_setRow ((Below.refl _ _).alloc (Nat.le_refl _) _) (Nat.le_refl _) _
  obtain ⟨K0, hD, hKo, hKn⟩ := hC0.keepX hb
  have hK0 : K0 v0.heap.size := hKn _ (Nat.le_refl _) row0.lt
  clear hKo hKn hC0 hS0 hB0
  go_wp2_with fail
  generalize (v0.alloc (.cells #[.bool false, .int .i64 0, .int .i64 0, .int .i64 0, .int .i64 0, .bool false, .bool false, .int .i64 0, .int .i64 0, .int .i64 0, .int .i64 0, .int .i64 0, .int .i64 0, .int .i64 0, .int .i64 0, .int .i64 0, .int .i64 0, .int .i64 0] 36)).setRow v0.heap.size (ea0).cells = x0 at *
  generalize v0.heap.size = g0 at *
  have hB1 : PlayB W K0 mb (.slice none 0 0) x0 p1 aw1 [] := hD
  clear hD hst hsz rz hb
  have hm := m_ask hB1.at' 1 (⟨0, 9, true, false, 0, 0, 0⟩ : Ask)
  have hmb := hB1.mb
  have hq := aw1_eq
  rw [hmb, hq] at hm
  simp only at hm
  refine hm.mono ?_
  intro e v1 hpost
  obtain ⟨rfl, p2, hC1, hS1⟩ := hB1.post hpost
  clear hpost hm hmb hq
  have row0 := RowAt.same row0 hS1 hK0
  have rz := RowAt.new v1 #[.bool false, .int .i64 0, .int .i64 0, .int .i64 0, .int .i64 0, .bool false, .bool false, .int .i64 0, .int .i64 0, .int .i64 0, .int .i64 0, .int .i64 0, .int .i64 0, .int .i64 0, .int .i64 0, .int .i64 0, .int .i64 0, .int .i64 0] 36
  have hst := ev_store rz rfl ea1
  have hsz := ev_size ea1
  have row1 := rz.set (ea1).cells
  have hb : Below v1.heap.size v1 ((v1.alloc (.cells #[.bool false, .int .i64 0, .int .i64 0, .int .i64 0, .int .i64 0, .bool false, .bool false, .int .i64 0, .int .i64 0, .int .i64 0, .int .i64 0, .int .i64 0, .int .i64 0, .int .i64 0, .int .i64 0, .int .i64 0, .int .i64 0, .int .i64 0] 36)).setRow v1.heap.size (ea1).cells) := below_setRow ((Below.refl _ _).alloc (Nat.le_refl _) _) (Nat.le_refl _) _
  obtain ⟨K1, hD, hKo, hKn⟩ := hC1.keepX hb
  have hK1 : K1 v1.heap.size := hKn _ (Nat.le_refl _) row1.lt
  have row0 := row0.below hb
  have hK0 : K1 g0 := hKo _ hK0
  clear hKo hKn hC1 hS1 hB1
  go_wp2_with fail
  generalize (v1.alloc (.cells #[.bool false, .int .i64 0, .int .i64 0, .int .i64 0, .int .i64 0, .bool false, .bool false, .int .i64 0, .int .i64 0, .int .i64 0, .int .i64 0, .int .i64 0, .int .i64 0, .int .i64 0, .int .i64 0, .int .i64 0, .int .i64 0, .int .i64 0] 36)).setRow v1.heap.size (ea1).cells = x1 at *
  generalize v1.heap.size = g1 at *
  have hB2 : PlayB W K1 mb (.slice none 0 0) x1 p2 aw2 [] := hD
  clear hD hst hsz rz hb
  have hm := m_wake hB2.at' 1
  have hmb := hB2.mb
  have hq := aw2_eq
  rw [hmb, hq] at hm
  simp only at hm
  refine hm.mono ?_
  intro e v2 hpost
  obtain ⟨rfl, p3, hC2, hS2⟩ := hB2.post hpost
  clear hpost hm hmb hq
  have row0 := RowAt.same row0 hS2 hK0
  have row1 := RowAt.same row1 hS2 hK1
  have rz := RowAt.new v2 #[.bool false, .int .i64 0, .int .i64 0, .int .i64 0, .int .i64 0, .bool false, .bool false, .int .i64 0, .int .i64 0, .int .i64 0, .int .i64 0, .int .i64 0, .int .i64 0, .int .i64 0, .int .i64 0, .int .i64 0, .int .i64 0, .int .i64 0] 36
  have hst := ev_store rz rfl ea2
  have hsz := ev_size ea2
  have row2 := rz.set (ea2).cells
  have hb : Below v2.heap.size v2 ((v2.alloc (.cells #[.bool false, .int .i64 0, .int .i64 0, .int .i64 0, .int .i64 0, .bool false, .bool false, .int .i64 0, .int .i64 0, .int .i64 0, .int .i64 0, .int .i64 0, .int .i64 0, .int .i64 0, .int .i64 0, .int .i64 0, .int .i64 0, .int .i64 0] 36)).setRow v2.heap.size (ea2).cells) := below_setRow ((Below.refl _ _).alloc (Nat.le_refl _) _) (Nat.le_refl _) _
  obtain ⟨K2, hD, hKo, hKn⟩ := hC2.keepX hb
  have hK2 : K2 v2.heap.size := hKn _ (Nat.le_refl _) row2.lt
  have row0 := row0.below hb
  have hK0 : K2 g0 := hKo _ hK0
  have row1 := row1.below hb
  have hK1 : K2 g1 := hKo _ hK1
  clear hKo hKn hC2 hS2 hB2
  go_wp2_with fail
  generalize (v2.alloc (.cells #[.bool false, .int .i64 0, .int .i64 0, .int .i64 0, .int .i64 0, .bool false, .bool false, .int .i64 0, .int .i64 0, .int .i64 0, .int .i64 0, .int .i64 0, .int .i64 0, .int .i64 0, .int .i64 0, .int .i64 0, .int .i64 0, .int .i64 0] 36)).setRow v2.heap.size (ea2).cells = x2 at *
  generalize v2.heap.size = g2 at *
  have hB3 : PlayB W K2 mb (.slice none 0 0) x2 p3 aw3 [] := hD
  clear hD hst hsz rz hb
  have hm := m_ask hB3.at' 0 (⟨1, 0, false, false, 0, 1, 0⟩ : Ask)
  have hmb := hB3.mb
  have hq := aw3_eq
  rw [hmb, hq] at hm
  simp only at hm
  refine hm.mono ?_
  intro e v3 hpost
  obtain ⟨rfl, p4, hC3, hS3⟩ := hB3.post hpost
  clear hpost hm hmb hq
  have row0 := RowAt.same row0 hS3 hK0
  have row1 := RowAt.same row1 hS3 hK1
  have row2 := RowAt.same row2 hS3 hK2
  have rz := RowAt.new v3 #[.bool false, .int .i64 0, .int .i64 0, .int .i64 0, .int .i64 0, .bool false, .bool false, .int .i64 0, .int .i64 0, .int .i64 0, .int .i64 0, .int .i64 0, .int .i64 0, .int .i64 0, .int .i64 0, .int .i64 0, .int .i64 0, .int .i64 0] 36
  have hst := ev_store rz rfl ea3
  have hsz := ev_size ea3
  have row3 := rz.set (ea3).cells
  have hb : Below v3.heap.size v3 ((v3.alloc (.cells #[.bool false, .int .i64 0, .int .i64 0, .int .i64 0, .int .i64 0, .bool false, .bool false, .int .i64 0, .int .i64 0, .int .i64 0, .int .i64 0, .int .i64 0, .int .i64 0, .int .i64 0, .int .i64 0, .int .i64 0, .int .i64 0, .int .i64 0] 36)).setRow v3.heap.size (ea3).cells) := below_setRow ((Below.refl _ _).alloc (Nat.le_refl _) _) (Nat.le_refl _) _
  obtain ⟨K3, hD, hKo, hKn⟩ := hC3.keepX hb
  have hK3 : K3 v3.heap.size := hKn _ (Nat.le_refl _) row3.lt
  have row0 := row0.below hb
  have hK0 : K3 g0 := hKo _ hK0
  have row1 := row1.below hb
  have hK1 : K3 g1 := hKo _ hK1
  have row2 := row2.below hb
  have hK2 : K3 g2 := hKo _ hK2
  clear hKo hKn hC3 hS3 hB3
  go_wp2_with fail
  generalize (v3.alloc (.cells #[.bool false, .int .i64 0, .int .i64 0, .int .i64 0, .int .i64 0, .bool false, .bool false, .int .i64 0, .int .i64 0, .int .i64 0, .int .i64 0, .int .i64 0, .int .i64 0, .int .i64 0, .int .i64 0, .int .i64 0, .int .i64 0, .int .i64 0] 36)).setRow v3.heap.size (ea3).cells = x3 at *
  generalize v3.heap.size = g3 at *
  have hB4 : PlayB W K3 mb (.slice none 0 0) x3 p4 aw4 [] := hD
  clear hD hst hsz rz hb
  have hm := m_wake hB4.at' 1
  have hmb := hB4.mb
  have hq := aw4_eq
  rw [hmb, hq] at hm
  simp only at hm
  refine hm.mono ?_
  intro e v4 hpost
  obtain ⟨rfl, p5, hC4, hS4⟩ := hB4.post hpost
  clear hpost hm hmb hq
  have row0 := RowAt.same row0 hS4 hK0
  have row1 := RowAt.same row1 hS4 hK1
  have row2 := RowAt.same row2 hS4 hK2
  have row3 := RowAt.same row3 hS4 hK3
  have rz := RowAt.new v4 #[.bool false, .int .i64 0, .int .i64 0, .int .i64 0, .int .i64 0, .bool false, .bool false, .int .i64 0, .int .i64 0, .int .i64 0, .int .i64 0, .int .i64 0, .int .i64 0, .int .i64 0, .int .i64 0, .int .i64 0, .int .i64 0, .int .i64 0] 36
  have hst := ev_store rz rfl ea4
  have hsz := ev_size ea4
  have row4 := rz.set (ea4).cells
  have hb : Below v4.heap.size v4 ((v4.alloc (.cells #[.bool false, .int .i64 0, .int .i64 0, .int .i64 0, .int .i64 0, .bool false, .bool false, .int .i64 0, .int .i64 0, .int .i64 0, .int .i64 0, .int .i64 0, .int .i64 0, .int .i64 0, .int .i64 0, .int .i64 0, .int .i64 0, .int .i64 0] 36)).setRow v4.heap.size (ea4).cells) := below_setRow ((Below.refl _ _).alloc (Nat.le_refl _) _) (Nat.le_refl _) _
  obtain ⟨K4, hD, hKo, hKn⟩ := hC4.keepX hb
  have hK4 : K4 v4.heap.size := hKn _ (Nat.le_refl _) row4.lt
  have row0 := row0.below hb
  have hK0 : K4 g0 := hKo _ hK0
  have row1 := row1.below hb
  have hK1 : K4 g1 := hKo _ hK1
  have row2 := row2.below hb
  have hK2 : K4 g2 := hKo _ hK2
  have row3 := row3.below hb
  have hK3 : K4 g3 := hKo _ hK3
  clear hKo hKn hC4 hS4 hB4
  go_upto_region 9 with (fail)
  generalize (v4.alloc (.cells #[.bool false, .int .i64 0, .int .i64 0, .int .i64 0, .int .i64 0, .bool false, .bool false, .int .i64 0, .int .i64 0, .int .i64 0, .int .i64 0, .int .i64 0, .int .i64 0, .int .i64 0, .int .i64 0, .int .i64 0, .int .i64 0, .int .i64 0] 36)).setRow v4.heap.size (ea4).cells = x4 at *
  generalize v4.heap.size = g4 at *
  have hbe := hD.below
  clear hD hst hsz rz hb
  have c0o10 : x4.cell? ⟨g0, 10, none⟩ = some (.int .i64 0) := row0.cell 10
  have c0o12 : x4.cell? ⟨g0, 12, none⟩ = some (.int .i64 1) := row0.cell 12
  have c3o10 : x4.cell? ⟨g3, 10, none⟩ = some (.int .i64 0) := row3.cell 10
  have c4o10 : x4.cell? ⟨g4, 10, none⟩ = some (.int .i64 0) := row4.cell 10
  have c4o12 : x4.cell? ⟨g4, 12, none⟩ = some (.int .i64 2) := row4.cell 12
  have c4o1 : x4.cell? ⟨g4, 1, none⟩ = some (.int .i64 1) := row4.cell 1
  go_wp2_with fail
  go_ret
  exact ⟨rfl, hbe⟩
end Go.Proofs.YtpmkgddjgebojaaGreatDoor.Mod

namespace Go.Proofs.YtpmkgddjgebojaaGreatDoor.Mod
set_option linter.unusedVariables false
set_option linter.unusedSimpArgs false
open Go.RowKit Hp Slot RowL Life

set_option maxRecDepth 100000 in
set_option maxHeartbeats 4000000 in
theorem state_any (W : World) (g c : Nat) (ss : List S) (h : SlotsAt W g ss) (hn : ss.length ≤ 1000) (at' : Int) :
    Calls Tryz.prog 32 #[.slice (some ⟨g, 0, none⟩) ss.length c, .int .i64 at'] W fun e W' => e = .returned (.int .i64 (countAt ss at')) ∧ ∃ n, W' = W.drewN n := by
  have H := Lib.hid h
  clear h
  go_enter Tryz.func32, Tryz.ntmps32
  go_wp2
  go_loopw [5, 6] (fun x i wr => ∃ k : Nat, k ≤ ss.length ∧ i = .int .i64 k ∧ x = .int .i64 (countAt (ss.take k) at' : Nat) ∧ ∃ n, wr = W.drewN n) (fun _ i _ => ss.length - (intOf i).toNat)
  case atStart => exact ⟨0, by omega, rfl, rfl, 0, rfl⟩
  case round =>
    obtain ⟨k, hk, rfl, rfl, n, rfl⟩ := hrel
    by_cases hlt : k < ss.length
    · obtain ⟨s, hs⟩ : ∃ s, ss[k]? = some s := ⟨_, List.getElem?_eq_getElem hlt⟩
      have c0 : W.cell? ⟨g, k * 9, none⟩ = some (.int .i64 s.state) := (H.out.get hs).1
      have hc := countAt_le (ss.take k) at'
      have hl : (ss.take k).length ≤ ss.length := by simp [List.length_take] <;> omega
      have hst := Lib.hid (countAt_step hs at')
      generalize hq : countAt (ss.take k) at' = q at *
      have HQ := Lib.hid hq
      clear hq
      have b0 : (0 : Int) ≤ (k : Int) := by omega
      have b1 : (k : Int) < (ss.length : Int) := by omega
      have b2 : (k : Int) ≤ (ss.length : Int) - 1 := by omega
      have HS := Lib.hid hs
      clear hs
      cases hw : (s.state == at')
      · go_wp2
        go_round
        case rel => exact ⟨k + 1, by omega, rfl, by rw [hst.out, hw]; simp, _, rfl⟩
        case measure => simp [intOf] <;> omega
      · go_wp2
        go_round
        case rel => exact ⟨k + 1, by omega, rfl, by rw [hst.out, hw]; simp, _, rfl⟩
        case measure => simp [intOf] <;> omega
    · obtain rfl : k = ss.length := by omega
      rw [List.take_length]
      go_wp2
      go_ret
      exact ⟨rfl, n, rfl⟩
end Go.Proofs.YtpmkgddjgebojaaGreatDoor.Mod

namespace Go.Proofs.YtpmkgddjgebojaaGreatDoor.Mod
set_option linter.unusedVariables false
set_option linter.unusedSimpArgs false
open Go.RowKit Hp Slot RowL Life

/-- A list of numbers of one's own, all new since W0. -/
def NewInts (W0 W : World) (v : Value) (l : List Int) : Prop := OwnS W v l.length 1 (l.map (Value.int .i64)) ∧ (∀ j, Fp v j → W0.heap.size ≤ j) ∧ Below W0.heap.size W0 W

set_option maxRecDepth 100000 in
set_option maxHeartbeats 4000000 in
theorem drop_any (W : World) (v : Value) (l : List Int) (h : SliceAt W v (l.map (Value.int .i64))) (hn : l.length ≤ 1000) (x : Int) :
    Calls Tryz.prog 28 #[v, .int .i64 x] W fun e W' => ∃ v', e = .returned v' ∧ NewInts W W' v' (dropped l x) := by
  obtain ⟨a1, c1, rfl, m1, q1⟩ := h
  simp only [List.length_map] at m1 ⊢
  have Q1 := Lib.hid q1
  clear q1 m1
  obtain ⟨i0, hi, hz0, hz1, hz2⟩ := info_parts int_info
  go_enter Tryz.func28, Tryz.ntmps28
  go_wp2
  go_loopw [5, 6] (fun u i wr => ∃ k : Nat, k ≤ l.length ∧ i = .int .i64 k ∧ NewInts W wr u (dropped (l.take k) x)) (fun _ i _ => l.length - (intOf i).toNat)
  case atStart => exact ⟨0, by omega, rfl, ⟨ownS_nil _ _, fun j hj => (fp_nil j hj).elim, Below.refl _ _⟩⟩
  case round =>
    rename_i wr
    obtain ⟨k, hk, rfl, hw1, hw2, hw3⟩ := hrel
    by_cases hlt : k < l.length
    · obtain ⟨y, hy⟩ : ∃ y, l[k]? = some y := ⟨_, List.getElem?_eq_getElem hlt⟩
      rcases Q1.out with q1 | ⟨g1, o1, rfl, q1⟩
      · simp at q1; subst q1; simp at hlt
      have e0 : W.cell? ⟨g1, o1 + k, none⟩ = some (.int .i64 y) := q1 k _ (by simp [hy])
      have hg1 : g1 < W.heap.size := World.block_lt_of_cell? _ _ e0
      have e1 : wr.cell? ⟨g1, o1 + k, none⟩ = some (.int .i64 y) := (World.cell?_of_block (w := W) (hw3.block g1 hg1)).trans e0
      have hc := dropped_le (l.take k) x
      have hl : (l.take k).length ≤ l.length := by simp [List.length_take] <;> omega
      have hst := Lib.hid (dropped_step hy x)
      generalize hq : dropped (l.take k) x = q at *
      obtain ⟨a, c, rfl⟩ := hw1.form
      clear hq hy e0 q1
      have b0 : (0 : Int) ≤ (k : Int) := by omega
      have b1 : (k : Int) < (l.length : Int) := by omega
      have b2 : (k : Int) ≤ (l.length : Int) - 1 := by omega
      cases hw : (y != x)
      · go_wp2
        go_round
        case rel => exact ⟨k + 1, by omega, rfl, by rw [hst.out, hw]; simpa using ⟨hw1, hw2, hw3⟩⟩
        case measure => simp [intOf] <;> omega
      · have hown : OwnS (wr.alloc (.cells #[.int .i64 y] 3)) (.slice a q.length c) q.length 1 (q.map (Value.int .i64)) := OwnS.alloc hw1 _
        go_wp2_with (at_builtin; refine Hp.wpList_append _ rfl _ _ 43 rfl 3 i0 (.int .i64 0) 1 8 Tryz.underlying43 hi hz0 hz1 hz2 rfl (by decide) _ _ _ rfl hown ⟨wr.heap.size, 0, none⟩ 1 1 [.int .i64 y] rfl rfl ?c1 ?c2 ?c3 ?c4 ?_)
        case c1 => exact one_new _ _ _
        case c2 => simp [Value.oneCell']
        case c3 => unfold maxLen; omega
        case c4 => omega
        intro a' c' w5 hown' hfp hch
        go_wp2
        go_round
        case rel =>
          refine ⟨k + 1, by omega, rfl, ?_⟩
          rw [hst.out, hw]
          have hsz := hw3.size
          refine ⟨by simpa using hown', fun j hj => ?_, ?_⟩
          · rcases hfp j (by obtain ⟨ad, n, c, e, hb⟩ := hj; cases e; exact ⟨_, _, _, rfl, hb⟩) with h' | h'
            · exact hw2 j h'
            · first | omega | (simp at h'; omega)
          · exact (hw3.alloc hsz _).trans ((hch.below (by simp <;> omega) (fun j hj => by have := hw2 j hj; omega)))
        case measure => simp [intOf] <;> omega
    · obtain rfl : k = l.length := by omega
      rw [List.take_length] at hw1
      go_wp2
      go_ret
      exact ⟨_, rfl, hw1, hw2, hw3⟩
end Go.Proofs.YtpmkgddjgebojaaGreatDoor.Mod

namespace Go.Proofs.YtpmkgddjgebojaaGreatDoor.Mod
set_option linter.unusedVariables false
set_option linter.unusedSimpArgs false
open Go.RowKit Hp Slot RowL Life

/-- Nothing is left to tidy. -/
structure Still (m : M) : Prop where
  sw : ∀ s ∈ m.ss, Find.fits s 4 m.closed = false
  gr : m.closed = 0 → m.line ≠ [] → firstAt 3 0 m.ss = none
theorem map_id_of {α : Type} {f : α → α} {l : List α} (h : ∀ x ∈ l, f x = x) : l.map f = l := by
  induction l with
  | nil => rfl
  | cons x l ih => simp [h x (by simp), ih (fun y hy => h y (by simp [hy]))]
theorem Still.tidy {m : M} (h : Still m) : m.tidy = m := by
  have h1 : m.sweep = m := by
    unfold M.sweep
    rw [map_id_of (fun s hs => by rw [if_neg (by simp [h.sw s hs])])]
  unfold M.tidy
  rw [h1]
  unfold M.grant
  split
  · rename_i h0
    obtain ⟨cf, ss, ks, line, closed, now, ahead⟩ := m
    cases line with
    | nil => simp [M.grantL]
    | cons w l =>
      have h2 := h.gr h0 (by simp)
      simp only at h2
      simp only [M.grantL, h2]
  · rfl

theorem grant_step {s : S} {w : Int} (hr : s.right = true) (ho : 0 ≤ w ∧ w ≤ 15) (hf : Find.fits s 3 0 = true) :
    (step s (if s.state = 2 then 5 else 7) w 0).right = true ∧ ((step s (if s.state = 2 then 5 else 7) w 0).state = 4 ∨ (step s (if s.state = 2 then 5 else 7) w 0).state = 5) ∧ (step s (if s.state = 2 then 5 else 7) w 0).gen = s.gen := by
  refine ⟨step_right (by split <;> simp [Done]) hr, ?_⟩
  rcases some_fits hf with ⟨h2, hb⟩ | h0
  · rw [if_pos h2, step_keep hr ho h2 hb]; simp [«to»]
  · rw [if_neg (by omega), step_hold hr ho h0]; simp [«to»]
def grantR (s s' : S) : Prop := s' = s ∨ (Find.fits s 3 0 = true ∧ (s'.state = 4 ∨ s'.state = 5) ∧ s'.gen = s.gen ∧ s'.right = true)
theorem no_fit {s : S} (h : s.state = 4 ∨ s.state = 5) : Find.fits s 3 0 = false := by
  have h2 : s.state ≠ 2 ∧ s.state ≠ 0 := by omega
  simp [Find.fits, Find.sound, h2.1, h2.2]
theorem grantL_upd : ∀ (l : List Int) (ss : List S) (ks : List Wk), (∀ s ∈ ss, s.right = true) → (∀ x ∈ l, 0 ≤ x ∧ x ≤ 15) → Upd (fun _ => grantR) ss (M.grantL l ss ks).1
  | [], ss, ks, _, _ => (Upd.refl ss).mono fun _ _ _ _ h => .inl h
  | who :: l, ss, ks, hr, hx => by
    unfold M.grantL
    split
    · exact (Upd.refl ss).mono fun _ _ _ _ h => .inl h
    · rename_i i hi
      obtain ⟨s, h1, h2⟩ := first_some' hi
      have hg := grant_step (w := who) (hr s (get_mem h1)) (hx who (by simp)) h2
      simp only [h1, Option.getD_some]
      have hu : Upd (fun _ => grantR) ss (turnL ss i (if s.state = 2 then 5 else 7) who 0) := upd_turn.mono fun j u u' hj e => by
        rcases e with ⟨rfl, rfl⟩ | ⟨_, rfl⟩
        · rw [h1] at hj; cases hj; exact .inr ⟨h2, hg.2.1, hg.2.2, hg.1⟩
        · exact .inl rfl
      refine hu.trans (grantL_upd l _ _ (fun t ht => ?_) (fun x h => hx x (by simp [h]))) fun j a b c ha hab hbc => ?_
      · obtain ⟨j, hj⟩ := mem_get ht
        obtain ⟨u, e1, e2⟩ := hu.back hj
        rcases e2 with rfl | e2
        · exact hr _ (get_mem e1)
        · exact e2.2.2.2
      · rcases hbc with rfl | hbc
        · exact hab
        · rcases hab with rfl | hab
          · exact .inr hbc
          · exact absurd hbc.1 (by simp [no_fit hab.2.1])
theorem grantL_line : ∀ (l : List Int) (ss : List S) (ks : List Wk), ∃ j, (M.grantL l ss ks).2.2 = l.drop j
  | [], _, _ => ⟨0, rfl⟩
  | who :: l, ss, ks => by
    unfold M.grantL
    split
    · exact ⟨0, rfl⟩
    · exact (grantL_line l _ _).elim fun j hj => ⟨j + 1, hj⟩
theorem grantL_ks : ∀ (l : List Int) (ss : List S) (ks : List Wk) (w : Nat) (k' : Wk), (∀ x ∈ l, 0 ≤ x) → (M.grantL l ss ks).2.1[w]? = some k' → ∃ k, ks[w]? = some k ∧ k'.ask = k.ask ∧ (k' = k ∨ ((w : Int) ∈ l ∧ k'.at' = 2))
  | [], ss, ks, w, k', _, h => ⟨k', h, rfl, .inl rfl⟩
  | who :: l, ss, ks, w, k', hx, h => by
    unfold M.grantL at h
    split at h
    · exact ⟨k', h, rfl, .inl rfl⟩
    · rename_i i hi
      obtain ⟨k1, h1, h2, h3⟩ := grantL_ks l _ _ w k' (fun x hx' => hx x (by simp [hx'])) h
      obtain ⟨n, rfl⟩ := Int.eq_ofNat_of_zero_le (hx who (by simp))
      simp only [Int.toNat_natCast] at h1
      rw [List.getElem?_set] at h1
      split at h1
      · rename_i e
        subst e
        split at h1
        · rename_i hlt
          have hk : ks[n]? = some ks[n] := List.getElem?_eq_getElem hlt
          rw [hk] at h1
          simp only [Option.getD_some, Option.some.injEq] at h1
          subst h1
          refine ⟨_, hk, h2, .inr ⟨by simp, ?_⟩⟩
          rcases h3 with rfl | h3
          · rfl
          · exact h3.2
        · cases h1
      · exact ⟨k1, h1, h2, h3.imp id (fun h => ⟨by simp [h.1], h.2⟩)⟩
theorem grantL_len : ∀ (l : List Int) (ss : List S) (ks : List Wk), (M.grantL l ss ks).2.1.length = ks.length
  | [], ss, ks => rfl
  | who :: l, ss, ks => by
    unfold M.grantL
    split
    · rfl
    · rw [grantL_len l]; simp

theorem swept_of {s : S} {c : Int} (h : Find.fits s 4 c = true) : (s.state = 2 ∧ (s.broken = true ∨ c = 1 ∨ c = 2)) ∨ (s.state = 3 ∧ c = 2) := by
  simp [Find.fits, Find.swept] at h
  split at h
  · rename_i hs; exact .inl ⟨by simpa using hs, by simpa using h⟩
  · exact .inr h
def tidyR (c : Int) (s s' : S) : Prop := s' = s ∨ (s' = emptied s ∧ Find.fits s 4 c = true) ∨ (c = 0 ∧ (s'.state = 4 ∨ s'.state = 5) ∧ s'.gen = s.gen ∧ (s.state = 2 ∨ s.state = 0))
theorem tidy_upd {m : M} (h : Mid m) : Upd (fun _ => tidyR m.closed) m.ss m.tidy.ss := by
  have hs : Upd (fun _ s s' => (Find.fits s 4 m.closed = true ∧ s' = emptied s) ∨ s' = s) m.ss m.sweep.ss := upd_map.mono fun i s s' hi e => by
    subst e
    split
    · rename_i hf; exact .inl ⟨hf, rfl⟩
    · exact .inr rfl
  unfold M.tidy M.grant
  split
  · rename_i h0
    have h0 : m.closed = 0 := h0
    have hg := grantL_upd m.sweep.line m.sweep.ss m.sweep.ks h.sweep.rt (fun x hx => by have := h.lb x hx; have := h.nk; omega)
    refine hs.trans hg fun i s t u hi e1 e2 => ?_
    rcases e2 with rfl | ⟨f1, f2, f3, f4⟩
    · rcases e1 with ⟨a, rfl⟩ | rfl
      · exact .inr (.inl ⟨rfl, a⟩)
      · exact .inl rfl
    · refine .inr (.inr ⟨h0, f2, ?_, ?_⟩)
      · rcases e1 with ⟨a, rfl⟩ | rfl
        · exact f3
        · exact f3
      · rcases e1 with ⟨a, rfl⟩ | rfl
        · have := swept_of a; omega
        · have := some_fits f1; omega
  · refine hs.mono fun i s s' hi e => ?_
    rcases e with ⟨a, rfl⟩ | rfl
    · exact .inr (.inl ⟨rfl, a⟩)
    · exact .inl rfl
theorem tidy_line (m : M) : ∃ j, m.tidy.line = m.line.drop j := by
  unfold M.tidy M.grant
  split
  · exact grantL_line _ _ _
  · exact ⟨0, rfl⟩
theorem tidy_line_closed {m : M} (h : m.closed ≠ 0) : m.tidy.line = m.line ∧ m.tidy.ks = m.ks := by
  unfold M.tidy M.grant
  rw [if_neg (show ¬ m.sweep.closed = 0 from h)]
  exact ⟨rfl, rfl⟩
theorem tidy_klen (m : M) : m.tidy.ks.length = m.ks.length := by
  unfold M.tidy M.grant
  split
  · exact grantL_len _ _ _
  · rfl
theorem tidy_ks {m : M} (h : Mid m) {w : Nat} {k' : Wk} (hk : m.tidy.ks[w]? = some k') : ∃ k, m.ks[w]? = some k ∧ k'.ask = k.ask ∧ (k' = k ∨ (k.at' = 1 ∧ k'.at' = 2)) := by
  unfold M.tidy M.grant at hk
  split at hk
  · obtain ⟨k, h1, h2, h3⟩ := grantL_ks _ _ _ _ _ (fun x hx => (h.lb x hx).1) hk
    refine ⟨k, h1, h2, h3.imp id fun e => ⟨(h.ln w k h1).2 e.1, e.2⟩⟩
  · exact ⟨k', hk, rfl, .inl rfl⟩
theorem first_none_of {kind own : Int} : ∀ {ss : List S}, (∀ s ∈ ss, Find.fits s kind own = false) → firstAt kind own ss = none
  | [], _ => rfl
  | s :: l, h => by rw [firstAt, if_neg (by simp [h s (by simp)]), first_none_of (fun t ht => h t (by simp [ht]))]; rfl
/-- Tidied up nothing is left to tidy. -/
theorem Mid.still {m : M} (h : Mid m) : Still m.tidy := by
  refine ⟨fun s hs => ?_, fun h0 hl => first_none_of (h.tidied.fair hl)⟩
  rw [tidy_closed]
  obtain ⟨i, hi⟩ := mem_get hs
  obtain ⟨t, h1, e⟩ := (tidy_upd h).back hi
  rcases e with rfl | ⟨rfl, _⟩ | ⟨h0, h45, _⟩
  · -- as it was: it was not swept
    apply Classical.byContradiction
    intro hf
    have hf : Find.fits s 4 m.closed = true := by simpa using hf
    have hsw : m.sweep.ss[i]? = some (emptied s) := by simp [M.sweep, h1, hf]
    have hg : Upd (fun _ => grantR) m.sweep.ss m.tidy.ss := by
      unfold M.tidy M.grant
      split
      · exact grantL_upd m.sweep.line m.sweep.ss m.sweep.ks h.sweep.rt (fun x hx => by have := h.lb x hx; have := h.nk; omega)
      · exact (Upd.refl _).mono fun _ _ _ _ e => .inl e
    obtain ⟨u, u1, u2⟩ := hg.back hi
    rw [hsw] at u1
    cases u1
    rcases u2 with e | ⟨_, e, _⟩
    · have := swept_of hf
      rw [e] at this
      simp [emptied, S.zero] at this
    · have := swept_of hf
      omega
  · simp [Find.fits, Find.swept, emptied, S.zero]
  · have h2 : s.state ≠ 2 ∧ s.state ≠ 3 := by omega
    simp [Find.fits, Find.swept, h2.1, h2.2]
theorem tidy_tidy {m : M} (h : Mid m) : m.tidy.tidy = m.tidy := h.still.tidy

/-- Slots are counted. -/
theorem count_le : ∀ {ss ss' : List S} {p q : S → Bool}, ss'.length = ss.length → (∀ (i : Nat) s s', ss[i]? = some s → ss'[i]? = some s' → p s' = true → q s = true) → ss'.countP p ≤ ss.countP q
  | [], [], _, _, _, _ => by simp
  | s :: l, s' :: l', p, q, hl, h => by
    have ih := count_le (ss := l) (ss' := l') (p := p) (q := q) (by simpa using hl) (fun i a b ha hb => h (i + 1) a b (by simpa using ha) (by simpa using hb))
    have h0 := h 0 s s' rfl rfl
    rw [List.countP_cons, List.countP_cons]
    split <;> split <;> simp_all <;> omega
  | [], _ :: _, _, _, hl, _ => by simp at hl
  | _ :: _, [], _, _, hl, _ => by simp at hl
theorem upd_count_le {R : Nat → S → S → Prop} {ss ss' : List S} (h : Upd R ss ss') {a b : Int} (hR : ∀ i s s', ss[i]? = some s → R i s s' → s'.state = a → s.state = b) : countAt ss' a ≤ countAt ss b :=
  count_le h.1 fun i s s' hi hi' hp => by
    obtain ⟨t, t1, t2⟩ := h.2 i s hi
    rw [hi'] at t1
    cases t1
    simpa using hR i s s' hi t2 (by simpa using hp)
theorem upd_count_ge {R : Nat → S → S → Prop} {ss ss' : List S} (h : Upd R ss ss') {a b : Int} (hR : ∀ i s s', ss[i]? = some s → R i s s' → s.state = b → s'.state = a) : countAt ss b ≤ countAt ss' a :=
  count_le h.1.symm fun i s' s hi' hi hp => by
    obtain ⟨t, t1, t2⟩ := h.2 i s hi
    rw [hi'] at t1
    cases t1
    simpa using hR i s s' hi t2 (by simpa using hp)
theorem upd_count {R : Nat → S → S → Prop} {ss ss' : List S} (h : Upd R ss ss') {a : Int} (hR : ∀ i s s', ss[i]? = some s → R i s s' → (s'.state = a ↔ s.state = a)) : countAt ss' a = countAt ss a :=
  Nat.le_antisymm (upd_count_le h fun i s s' hi e => (hR i s s' hi e).1) (upd_count_ge h fun i s s' hi e => (hR i s s' hi e).2)
theorem count_zero {ss : List S} {a : Int} (h : ∀ s ∈ ss, s.state ≠ a) : countAt ss a = 0 := by
  unfold countAt
  rw [List.countP_eq_zero]
  intro s hs
  simp [h s hs]
theorem count_all {ss : List S} {a : Int} (h : ∀ s ∈ ss, s.state = a) : countAt ss a = ss.length := by
  unfold countAt
  rw [List.countP_eq_length]
  intro s hs
  simp [h s hs]
end Go.Proofs.YtpmkgddjgebojaaGreatDoor.Mod
