/- Part 32 of the walks and plain laws that the last text joins. -/
import Derived.Test.YtpmkgddjgebojaaGreatDoorE24
import Derived.Test.YtpmkgddjgebojaaGreatDoorE28
set_option maxRecDepth 100000
set_option maxHeartbeats 16000000
set_option linter.unusedVariables false
set_option linter.unusedSimpArgs false
namespace Go.Proofs.YtpmkgddjgebojaaGreatDoor.Mod
open Go.RowKit Hp Slot RowL Life
def rowsOf (z : Array Value) : Nat → Array Value
 | 0 => #[]
 | n + 1 => rowsOf z n ++ z
theorem rowsOf_size (z : Array Value) : ∀ n, (rowsOf z n).size = n * z.size
 | 0 => by simp [rowsOf]
 | n + 1 => by simp [rowsOf, rowsOf_size z n, Nat.add_mul]
theorem rowsOf_get (z : Array Value) : ∀ (n i j : Nat), i < n → j < z.size → (rowsOf z n)[i * z.size + j]? = z[j]?
 | 0, i, j, h, _ => by omega
 | n + 1, i, j, h, hj => by
  rw [rowsOf, Array.getElem?_append, rowsOf_size]
  by_cases hi : i < n
  ·have : i * z.size + j < n * z.size:=by
    have:=Nat.mul_le_mul_right z.size (show i + 1 ≤ n by omega)
    rw [Nat.add_mul] at this; omega
   rw [if_pos this]
   exact rowsOf_get z n i j hi hj
  ·obtain rfl : i = n:=by omega
   rw [if_neg (by omega), Nat.add_sub_cancel_left]
theorem mk_s1 (W : World) : (Instr.makeSlice 42 (.i 1) (.i 1)).run Tryz.prog W = .ok (.slice (some ⟨W.heap.size, 0, none⟩) 1 1) (W.alloc (.cells (rowsOf S.zero.cells 1) 59)):=by kernel_rfl
theorem mk_s2 (W : World) : (Instr.makeSlice 42 (.i 2) (.i 2)).run Tryz.prog W = .ok (.slice (some ⟨W.heap.size, 0, none⟩) 2 2) (W.alloc (.cells (rowsOf S.zero.cells 2) 59)):=by kernel_rfl
theorem mk_s3 (W : World) : (Instr.makeSlice 42 (.i 3) (.i 3)).run Tryz.prog W = .ok (.slice (some ⟨W.heap.size, 0, none⟩) 3 3) (W.alloc (.cells (rowsOf S.zero.cells 3) 59)):=by kernel_rfl
theorem mk_s4 (W : World) : (Instr.makeSlice 42 (.i 4) (.i 4)).run Tryz.prog W = .ok (.slice (some ⟨W.heap.size, 0, none⟩) 4 4) (W.alloc (.cells (rowsOf S.zero.cells 4) 59)):=by kernel_rfl
theorem mk_s5 (W : World) : (Instr.makeSlice 42 (.i 5) (.i 5)).run Tryz.prog W = .ok (.slice (some ⟨W.heap.size, 0, none⟩) 5 5) (W.alloc (.cells (rowsOf S.zero.cells 5) 59)):=by kernel_rfl
theorem mk_s6 (W : World) : (Instr.makeSlice 42 (.i 6) (.i 6)).run Tryz.prog W = .ok (.slice (some ⟨W.heap.size, 0, none⟩) 6 6) (W.alloc (.cells (rowsOf S.zero.cells 6) 59)):=by kernel_rfl
theorem mk_s7 (W : World) : (Instr.makeSlice 42 (.i 7) (.i 7)).run Tryz.prog W = .ok (.slice (some ⟨W.heap.size, 0, none⟩) 7 7) (W.alloc (.cells (rowsOf S.zero.cells 7) 59)):=by kernel_rfl
theorem mk_s8 (W : World) : (Instr.makeSlice 42 (.i 8) (.i 8)).run Tryz.prog W = .ok (.slice (some ⟨W.heap.size, 0, none⟩) 8 8) (W.alloc (.cells (rowsOf S.zero.cells 8) 59)):=by kernel_rfl
theorem mk_s9 (W : World) : (Instr.makeSlice 42 (.i 9) (.i 9)).run Tryz.prog W = .ok (.slice (some ⟨W.heap.size, 0, none⟩) 9 9) (W.alloc (.cells (rowsOf S.zero.cells 9) 59)):=by kernel_rfl
theorem mk_s10 (W : World) : (Instr.makeSlice 42 (.i 10) (.i 10)).run Tryz.prog W = .ok (.slice (some ⟨W.heap.size, 0, none⟩) 10 10) (W.alloc (.cells (rowsOf S.zero.cells 10) 59)):=by kernel_rfl
theorem mk_s11 (W : World) : (Instr.makeSlice 42 (.i 11) (.i 11)).run Tryz.prog W = .ok (.slice (some ⟨W.heap.size, 0, none⟩) 11 11) (W.alloc (.cells (rowsOf S.zero.cells 11) 59)):=by kernel_rfl
theorem mk_s12 (W : World) : (Instr.makeSlice 42 (.i 12) (.i 12)).run Tryz.prog W = .ok (.slice (some ⟨W.heap.size, 0, none⟩) 12 12) (W.alloc (.cells (rowsOf S.zero.cells 12) 59)):=by kernel_rfl
theorem mk_s13 (W : World) : (Instr.makeSlice 42 (.i 13) (.i 13)).run Tryz.prog W = .ok (.slice (some ⟨W.heap.size, 0, none⟩) 13 13) (W.alloc (.cells (rowsOf S.zero.cells 13) 59)):=by kernel_rfl
theorem mk_s14 (W : World) : (Instr.makeSlice 42 (.i 14) (.i 14)).run Tryz.prog W = .ok (.slice (some ⟨W.heap.size, 0, none⟩) 14 14) (W.alloc (.cells (rowsOf S.zero.cells 14) 59)):=by kernel_rfl
theorem mk_s15 (W : World) : (Instr.makeSlice 42 (.i 15) (.i 15)).run Tryz.prog W = .ok (.slice (some ⟨W.heap.size, 0, none⟩) 15 15) (W.alloc (.cells (rowsOf S.zero.cells 15) 59)):=by kernel_rfl
theorem mk_s16 (W : World) : (Instr.makeSlice 42 (.i 16) (.i 16)).run Tryz.prog W = .ok (.slice (some ⟨W.heap.size, 0, none⟩) 16 16) (W.alloc (.cells (rowsOf S.zero.cells 16) 59)):=by kernel_rfl
theorem mk_w1 (W : World) : (Instr.makeSlice 79 (.i 1) (.i 1)).run Tryz.prog W = .ok (.slice (some ⟨W.heap.size, 0, none⟩) 1 1) (W.alloc (.cells (rowsOf Wk.zero.cells 1) 94)):=by kernel_rfl
theorem mk_w2 (W : World) : (Instr.makeSlice 79 (.i 2) (.i 2)).run Tryz.prog W = .ok (.slice (some ⟨W.heap.size, 0, none⟩) 2 2) (W.alloc (.cells (rowsOf Wk.zero.cells 2) 94)):=by kernel_rfl
theorem mk_w3 (W : World) : (Instr.makeSlice 79 (.i 3) (.i 3)).run Tryz.prog W = .ok (.slice (some ⟨W.heap.size, 0, none⟩) 3 3) (W.alloc (.cells (rowsOf Wk.zero.cells 3) 94)):=by kernel_rfl
theorem mk_w4 (W : World) : (Instr.makeSlice 79 (.i 4) (.i 4)).run Tryz.prog W = .ok (.slice (some ⟨W.heap.size, 0, none⟩) 4 4) (W.alloc (.cells (rowsOf Wk.zero.cells 4) 94)):=by kernel_rfl
theorem mk_w5 (W : World) : (Instr.makeSlice 79 (.i 5) (.i 5)).run Tryz.prog W = .ok (.slice (some ⟨W.heap.size, 0, none⟩) 5 5) (W.alloc (.cells (rowsOf Wk.zero.cells 5) 94)):=by kernel_rfl
theorem mk_w6 (W : World) : (Instr.makeSlice 79 (.i 6) (.i 6)).run Tryz.prog W = .ok (.slice (some ⟨W.heap.size, 0, none⟩) 6 6) (W.alloc (.cells (rowsOf Wk.zero.cells 6) 94)):=by kernel_rfl
theorem mk_w7 (W : World) : (Instr.makeSlice 79 (.i 7) (.i 7)).run Tryz.prog W = .ok (.slice (some ⟨W.heap.size, 0, none⟩) 7 7) (W.alloc (.cells (rowsOf Wk.zero.cells 7) 94)):=by kernel_rfl
theorem mk_w8 (W : World) : (Instr.makeSlice 79 (.i 8) (.i 8)).run Tryz.prog W = .ok (.slice (some ⟨W.heap.size, 0, none⟩) 8 8) (W.alloc (.cells (rowsOf Wk.zero.cells 8) 94)):=by kernel_rfl
theorem mk_slots (n : Nat) (h1 : 1 ≤ n) (h2 : n ≤ 16) (W : World) : (Instr.makeSlice 42 (.i n) (.i n)).run Tryz.prog W = .ok (.slice (some ⟨W.heap.size, 0, none⟩) n n) (W.alloc (.cells (rowsOf S.zero.cells n) 59)):=by
 have h : n = 1 ∨ n = 2 ∨ n = 3 ∨ n = 4 ∨ n = 5 ∨ n = 6 ∨ n = 7 ∨ n = 8 ∨ n = 9 ∨ n = 10 ∨ n = 11 ∨ n = 12 ∨ n = 13 ∨ n = 14 ∨ n = 15 ∨ n = 16:=by omega
 rcases h with rfl | rfl | rfl | rfl | rfl | rfl | rfl | rfl | rfl | rfl | rfl | rfl | rfl | rfl | rfl | rfl
 ·exact mk_s1 W
 ·exact mk_s2 W
 ·exact mk_s3 W
 ·exact mk_s4 W
 ·exact mk_s5 W
 ·exact mk_s6 W
 ·exact mk_s7 W
 ·exact mk_s8 W
 ·exact mk_s9 W
 ·exact mk_s10 W
 ·exact mk_s11 W
 ·exact mk_s12 W
 ·exact mk_s13 W
 ·exact mk_s14 W
 ·exact mk_s15 W
 ·exact mk_s16 W
theorem mk_works (n : Nat) (h1 : 1 ≤ n) (h2 : n ≤ 8) (W : World) : (Instr.makeSlice 79 (.i n) (.i n)).run Tryz.prog W = .ok (.slice (some ⟨W.heap.size, 0, none⟩) n n) (W.alloc (.cells (rowsOf Wk.zero.cells n) 94)):=by
 have h : n = 1 ∨ n = 2 ∨ n = 3 ∨ n = 4 ∨ n = 5 ∨ n = 6 ∨ n = 7 ∨ n = 8:=by omega
 rcases h with rfl | rfl | rfl | rfl | rfl | rfl | rfl | rfl
 ·exact mk_w1 W
 ·exact mk_w2 W
 ·exact mk_w3 W
 ·exact mk_w4 W
 ·exact mk_w5 W
 ·exact mk_w6 W
 ·exact mk_w7 W
 ·exact mk_w8 W
theorem ne_of {l : List Nat} (h : l.isEmpty = false) : l.isEmpty = false:=h
theorem not_in {l : List Nat} {i : Nat} (hi : i ∈ l) (h : l.contains i = false) : False:=by simp at h; exact h hi
structure Mk (W w : World) (wn sn : Nat) (b3 b6 b7 b8 : Bool) (sb kb cb wb rb : Nat) : Prop where
 bel : Below W.heap.size W w
 ord : b8 = true → b7 = true
 fs : b3 = true → W.heap.size < sb ∧ w.heap[sb]? = some (.cells (rowsOf S.zero.cells sn) 59)
 fk : b6 = true → W.heap.size < kb ∧ w.heap[kb]? = some (.cells (rowsOf Wk.zero.cells wn) 94)
 fc : b7 = true → W.heap.size < cb ∧ w.heap[cb]? = some (.cells #[.i 0] 114)
 fw : b8 = true → W.heap.size < rb ∧ W.heap.size < wb ∧ World11.WAt w wb rb (.slice none 0 0) [] 0 0
 tag : ∃ t : Nat → Nat, (b3 = true → t sb = 2) ∧ (b6 = true → t kb = 3) ∧ (b7 = true → t cb = 4) ∧ (b8 = true → ∀ k, World11.wfp wb rb (.slice none 0 0) k → t k = 5)
 lt : W.heap.size < w.heap.size
section
variable {W w w' : World} {wn sn : Nat} {b3 b6 b7 b8 : Bool} {sb kb cb wb rb : Nat}
theorem Mk.below (h : Mk W w wn sn b3 b6 b7 b8 sb kb cb wb rb) (hb : Below w.heap.size w w') : Mk W w' wn sn b3 b6 b7 b8 sb kb cb wb rb :=
 ⟨h.bel.trans (hb.mono h.bel.size), h.ord, fun e => ⟨(h.fs e).1, (hb.block sb (Array.getElem?_eq_some_iff.1 (h.fs e).2).1).trans (h.fs e).2⟩, fun e => ⟨(h.fk e).1, (hb.block kb (Array.getElem?_eq_some_iff.1 (h.fk e).2).1).trans (h.fk e).2⟩,
  fun e => ⟨(h.fc e).1, (hb.block cb (Array.getElem?_eq_some_iff.1 (h.fc e).2).1).trans (h.fc e).2⟩, fun e => ⟨(h.fw e).1, (h.fw e).2.1, (h.fw e).2.2.below hb⟩, h.tag, Nat.lt_of_lt_of_le h.lt hb.size⟩
theorem Mk.adds (h : Mk W w wn sn false b6 b7 b8 sb kb cb wb rb) : Mk W (w.alloc (.cells (rowsOf S.zero.cells sn) 59)) wn sn true b6 b7 b8 w.heap.size kb cb wb rb:=by
 have hb : Below w.heap.size w (w.alloc (.cells (rowsOf S.zero.cells sn) 59)):=(Below.refl _ _).alloc (Nat.le_refl _) _
 have h2:=h.below hb
 obtain ⟨t, -, t3, t4, t5⟩:=h.tag
 refine ⟨h2.bel, h2.ord, fun _ => ⟨h.lt, heap_alloc_new _ _⟩, h2.fk, h2.fc, h2.fw, ⟨fun k => if k < w.heap.size then t k else 2, fun _ => by simp, fun e => ?_, fun e => ?_, fun e k hk => ?_⟩, h2.lt⟩
 ·have:=(Array.getElem?_eq_some_iff.1 (h.fk e).2).1; simp [this, t3 e]
 ·have:=(Array.getElem?_eq_some_iff.1 (h.fc e).2).1; simp [this, t4 e]
 ·have:=(h.fw e).2.2.lt hk; simp [this, t5 e k hk]
theorem Mk.addk (h : Mk W w wn sn b3 false b7 b8 sb kb cb wb rb) : Mk W (w.alloc (.cells (rowsOf Wk.zero.cells wn) 94)) wn sn b3 true b7 b8 sb w.heap.size cb wb rb:=by
 have hb : Below w.heap.size w (w.alloc (.cells (rowsOf Wk.zero.cells wn) 94)):=(Below.refl _ _).alloc (Nat.le_refl _) _
 have h2:=h.below hb
 obtain ⟨t, t2, -, t4, t5⟩:=h.tag
 refine ⟨h2.bel, h2.ord, h2.fs, fun _ => ⟨h.lt, heap_alloc_new _ _⟩, h2.fc, h2.fw, ⟨fun k => if k < w.heap.size then t k else 3, fun e => ?_, fun _ => by simp, fun e => ?_, fun e k hk => ?_⟩, h2.lt⟩
 ·have:=(Array.getElem?_eq_some_iff.1 (h.fs e).2).1; simp [this, t2 e]
 ·have:=(Array.getElem?_eq_some_iff.1 (h.fc e).2).1; simp [this, t4 e]
 ·have:=(h.fw e).2.2.lt hk; simp [this, t5 e k hk]
theorem Mk.addc (h : Mk W w wn sn b3 b6 false b8 sb kb cb wb rb) : Mk W (w.alloc (.cells #[.i 0] 114)) wn sn b3 b6 true b8 sb kb w.heap.size wb rb:=by
 have hb : Below w.heap.size w (w.alloc (.cells #[.i 0] 114)):=(Below.refl _ _).alloc (Nat.le_refl _) _
 have h2:=h.below hb
 obtain ⟨t, t2, t3, -, t5⟩:=h.tag
 refine ⟨h2.bel, fun _ => rfl, h2.fs, h2.fk, fun _ => ⟨h.lt, heap_alloc_new _ _⟩, h2.fw, ⟨fun k => if k < w.heap.size then t k else 4, fun e => ?_, fun e => ?_, fun _ => by simp, fun e k hk => ?_⟩, h2.lt⟩
 ·have:=(Array.getElem?_eq_some_iff.1 (h.fs e).2).1; simp [this, t2 e]
 ·have:=(Array.getElem?_eq_some_iff.1 (h.fk e).2).1; simp [this, t3 e]
 ·have:=(h.fw e).2.2.lt hk; simp [this, t5 e k hk]
theorem Mk.addw (h : Mk W w wn sn b3 b6 true false sb kb cb wb rb) (hA : World11.WAt w' (w.heap.size + 1) w.heap.size (.slice none 0 0) [] 0 0) (hb : Below w.heap.size w w') : Mk W w' wn sn b3 b6 true true sb kb cb (w.heap.size + 1) w.heap.size:=by
 have h2:=h.below hb
 obtain ⟨t, t2, t3, t4, -⟩:=h.tag
 have hl:=h.lt
 refine ⟨h2.bel, fun _ => rfl, h2.fs, h2.fk, h2.fc, fun _ => ⟨h.lt, by omega, hA⟩, ⟨fun k => if k < w.heap.size then t k else 5, fun e => ?_, fun e => ?_, fun e => ?_, fun _ k hk => ?_⟩, h2.lt⟩
 ·have:=(Array.getElem?_eq_some_iff.1 (h.fs e).2).1; simp [this, t2 e]
 ·have:=(Array.getElem?_eq_some_iff.1 (h.fk e).2).1; simp [this, t3 e]
 ·have:=(Array.getElem?_eq_some_iff.1 (h.fc e).2).1; simp [this, t4 e]
 ·have hge : w.heap.size ≤ k:=by
   rcases hk with hk | hk | hk
   ·omega
   ·omega
   ·exact (fp_nil _ hk).elim
  show (if k < w.heap.size then t k else 5) = 5
  rw [if_neg (by omega)]
end
theorem zero9 (z : Array Value) (hz : z.size = 9) {W : World} {b n : Nat} {T : TypeId} (h : W.heap[b]? = some (.cells (rowsOf z n) T)) (i j : Nat) (hi : i < n) (hj : j < 9) : W.cell? ⟨b, i * 9 + j, none⟩ = z[j]? ∧ W.frozen? ⟨b, i * 9 + j, none⟩ = false:=by
 have h1:=cell_of_row W b (i * 9 + j) (rowsOf z n) T (0, 0) h
 have h2:=rowsOf_get z n i j hi (by omega)
 rw [hz] at h2
 exact ⟨h1.trans h2, by simp [World.frozen?, h]⟩
theorem mk_mat {W w : World} {wn sn : Nat} {st wa us : Int} {sb kb cb wb rb : Nat} (hL : Laid W) (hc : (⟨wn, sn, st, wa, us⟩ : Conf.Cf).right = true) (hM : Mk W w wn sn true true true true sb kb cb wb rb) :
  ∃ p : Pl, Ending.returned (.tuple #[.pointer (some ⟨w.heap.size, 0, none⟩), .i 0]) = .returned (.tuple #[.pointer (some ⟨p.mb, 0, none⟩), .i 0]) ∧ MAt (w.alloc (.cells #[.i (wn : Int), .i (sn : Int), .i st, .i wa, .i us, .slice (some ⟨sb, 0, none⟩) sn sn, .slice (some ⟨kb, 0, none⟩) wn wn, .slice none 0 0, .i 0, .pointer (some ⟨cb, 0, none⟩), .pointer (some ⟨wb, 0, none⟩)] 85)) p (M.new ⟨wn, sn, st, wa, us⟩) ∧ (∀ k, mfp p k → W.heap.size ≤ k) ∧ Below W.heap.size W (w.alloc (.cells #[.i (wn : Int), .i (sn : Int), .i st, .i wa, .i us, .slice (some ⟨sb, 0, none⟩) sn sn, .slice (some ⟨kb, 0, none⟩) wn wn, .slice none 0 0, .i 0, .pointer (some ⟨cb, 0, none⟩), .pointer (some ⟨wb, 0, none⟩)] 85)):=by
 obtain ⟨hs1, hs2⟩:=hM.fs rfl
 obtain ⟨hk1, hk2⟩:=hM.fk rfl
 obtain ⟨hc1, hc2⟩:=hM.fc rfl
 obtain ⟨hw1, hw2, hwA⟩:=hM.fw rfl
 obtain ⟨t, t2, t3, t4, t5⟩:=hM.tag
 have hlt:=hM.lt
 have l2:=(Array.getElem?_eq_some_iff.1 hs2).1
 have l3:=(Array.getElem?_eq_some_iff.1 hk2).1
 have l4:=(Array.getElem?_eq_some_iff.1 hc2).1
 have hL0 : 0 < W.heap.size:=hL.lt (by decide)
 have hbA : Below w.heap.size w (w.alloc (.cells #[.i (wn : Int), .i (sn : Int), .i st, .i wa, .i us, .slice (some ⟨sb, 0, none⟩) sn sn, .slice (some ⟨kb, 0, none⟩) wn wn, .slice none 0 0, .i 0, .pointer (some ⟨cb, 0, none⟩), .pointer (some ⟨wb, 0, none⟩)] 85)):=(Below.refl _ _).alloc (Nat.le_refl _) _
 have row : RowAt (w.alloc (.cells #[.i (wn : Int), .i (sn : Int), .i st, .i wa, .i us, .slice (some ⟨sb, 0, none⟩) sn sn, .slice (some ⟨kb, 0, none⟩) wn wn, .slice none 0 0, .i 0, .pointer (some ⟨cb, 0, none⟩), .pointer (some ⟨wb, 0, none⟩)] 85)) w.heap.size #[.i (wn : Int), .i (sn : Int), .i st, .i wa, .i us, .slice (some ⟨sb, 0, none⟩) sn sn, .slice (some ⟨kb, 0, none⟩) wn wn, .slice none 0 0, .i 0, .pointer (some ⟨cb, 0, none⟩), .pointer (some ⟨wb, 0, none⟩)] 85:=RowAt.new _ _ _
 have hcc:=hc
 simp [Conf.Cf.right, Conf.btw] at hcc
 have e2:=(hbA.block sb l2).trans hs2
 have e3:=(hbA.block kb l3).trans hk2
 have e4:=(hbA.block cb l4).trans hc2
 have hBW:=hM.bel.trans (hbA.mono hM.bel.size)
 refine ⟨⟨w.heap.size, sb, kb, cb, wb, rb, .slice none 0 0, .slice none 0 0⟩, rfl, ⟨hL.stable (hBW.block 0 hL0), ⟨fun k => if k = 0 then 0 else if k < w.heap.size then t k else 1, ?_, ?_, ?_, ?_, ?_, ?_, ?_⟩, ?_, ?_, ?_, ?_, ?_, ⟨0, 0, hwA.below hbA⟩, ownS_nil _ _, ?_⟩, ?_, hBW⟩
 ·simp
 ·show (if w.heap.size = 0 then 0 else if w.heap.size < w.heap.size then t w.heap.size else 1) = 1
  rw [if_neg (by omega), if_neg (by omega)]
 ·show (if sb = 0 then 0 else if sb < w.heap.size then t sb else 1) = 2
  rw [if_neg (by omega), if_pos l2]; exact t2 rfl
 ·show (if kb = 0 then 0 else if kb < w.heap.size then t kb else 1) = 3
  rw [if_neg (by omega), if_pos l3]; exact t3 rfl
 ·show (if cb = 0 then 0 else if cb < w.heap.size then t cb else 1) = 4
  rw [if_neg (by omega), if_pos l4]; exact t4 rfl
 ·intro k hk
  have h1:=hwA.lt hk
  have h2 : W.heap.size < k:=by
   rcases hk with hk | hk | hk
   ·have : k = wb:=hk
    omega
   ·have : k = rb:=hk
    omega
   ·exact (fp_nil _ hk).elim
  show (if k = 0 then 0 else if k < w.heap.size then t k else 1) = 5
  rw [if_neg (by omega), if_pos h1]
  exact t5 rfl k hk
 ·intro k hk; exact (fp_nil _ hk).elim
 ·have hz1 : (M.new ⟨wn, sn, st, wa, us⟩).ss.length = sn:=by simp [M.new]
  have hz2 : (M.new ⟨wn, sn, st, wa, us⟩).ks.length = wn:=by simp [M.new]
  rw [hz1, hz2]
  exact ⟨row.cell 0, row.cell 1, row.cell 2, row.cell 3, row.cell 4, row.cell 5, row.cell 6, row.cell 7, row.cell 8, row.cell 9, row.cell 10, row.frozen 7, row.frozen 8⟩
 ·refine ⟨fun i s hs j v hv => ?_, fun i j hi hj => ?_⟩
  ·have hi : i < sn:=by have:=(List.getElem?_eq_some_iff.1 hs).1; simpa [M.new] using this
   have hj : j < 9:=by have:=(Array.getElem?_eq_some_iff.1 hv).1; simpa [S.cells] using this
   obtain rfl : s = S.zero:=by have:=List.mem_of_getElem? hs; simpa [M.new] using (List.mem_replicate.1 this).2
   exact (zero9 S.zero.cells rfl e2 i j hi hj).1.trans hv
  ·exact (zero9 S.zero.cells rfl e2 i j (by simpa [M.new] using hi) hj).2
 ·refine ⟨fun i s hs j v hv => ?_, fun i j hi hj => ?_⟩
  ·have hi : i < wn:=by have:=(List.getElem?_eq_some_iff.1 hs).1; simpa [M.new] using this
   have hj : j < 9:=by have:=(Array.getElem?_eq_some_iff.1 hv).1; simpa [Wk.cells] using this
   obtain rfl : s = Wk.zero:=by have:=List.mem_of_getElem? hs; simpa [M.new] using (List.mem_replicate.1 this).2
   exact (zero9 Wk.zero.cells rfl e3 i j hi hj).1.trans hv
  ·exact (zero9 Wk.zero.cells rfl e3 i j (by simpa [M.new] using hi) hj).2
 ·exact cell_of_row _ cb 0 #[.i 0] _ (0, 0) e4
 ·simp [World.frozen?, e4]
 ·refine ⟨hc, by simp [M.new], by simp [M.new], fun s hs => ?_, fun x hx => by simp [M.new] at hx, by simp [M.new], fun k hk h2 => ?_, .inl rfl, by simp [M.new], by simp [M.new]⟩
  ·obtain rfl : s = S.zero:=by simpa [M.new] using (List.mem_replicate.1 hs).2
   exact zero_right
  ·obtain rfl : k = Wk.zero:=by simpa [M.new] using (List.mem_replicate.1 hk).2
   cases h2
 ·rintro k (hk | hk | hk | hk | hk | hk)
  ·have : k = w.heap.size:=hk
   omega
  ·have : k = sb:=hk
   omega
  ·have : k = kb:=hk
   omega
  ·have : k = cb:=hk
   omega
  ·rcases hk with hk | hk | hk
   ·have : k = wb:=hk
    omega
   ·have : k = rb:=hk
    omega
   ·exact (fp_nil _ hk).elim
  ·exact (fp_nil _ hk).elim
theorem m_new (W : World) (c : Conf.Cf) (hc : c.right = true) (hL : Laid W) : Calls Tryz.prog 12 #[c.val] W fun e W' =>
  ∃ p : Pl, e = .returned (.tuple #[.pointer (some ⟨p.mb, 0, none⟩), .i 0]) ∧ MAt W' p (M.new c) ∧ (∀ k, mfp p k → W.heap.size ≤ k) ∧ Below W.heap.size W W':=by
 have hr:=Conf.right_any (W.alloc (.cells c.cells 23)) c
 rw [hc] at hr
 obtain ⟨wo, sl, st, wa, us⟩:=c
 have hcc:=hc
 simp [Conf.Cf.right, Conf.btw] at hcc
 obtain ⟨wn, rfl⟩:=Int.eq_ofNat_of_zero_le (show 0 ≤ wo by omega)
 obtain ⟨sn, rfl⟩:=Int.eq_ofNat_of_zero_le (show 0 ≤ sl by omega)
 have hsn : 1 ≤ sn ∧ sn ≤ 16:=by omega
 have hwn : 1 ≤ wn ∧ wn ≤ 8:=by omega
 have HC:=Lib.hid hc
 clear hcc hc
 simp only [Conf.Cf.val, Conf.Cf.cells] at *
 have hB0 : Below W.heap.size W (W.alloc (.cells (Aa (wn : Int) (sn : Int) st wa us) 23)):=(Below.refl _ _).alloc (Nat.le_refl _) _
 have a0 : RowAt (W.alloc (.cells (Aa (wn : Int) (sn : Int) st wa us) 23)) W.heap.size (Aa (wn : Int) (sn : Int) st wa us) 23:=RowAt.new _ _ _
 go_enter Tryz.func12, Tryz.ntmps12
 go_wp2_with fail
 refine hr.mono ?_
 rintro e w1 ⟨rfl, hb1⟩
 have hB1:=hB0.trans (hb1.mono hB0.size)
 have a1:=a0.below hb1
 have hl1 : W.heap.size < w1.heap.size:=(Array.getElem?_eq_some_iff.1 a1).1
 clear hr hb1 hB0 a0
 have LA : ∀ w', Below w1.heap.size w1 w' → RowAt w' W.heap.size (Aa (wn : Int) (sn : Int) st wa us) 23:=fun w' h => a1.below h
 have LA0 : ∀ w', Below w1.heap.size w1 w' → w'.cell? ⟨W.heap.size, 0, none⟩ = some (.i (wn : Int)):=fun w' h => (LA w' h).cell 0
 have LA1 : ∀ w', Below w1.heap.size w1 w' → w'.cell? ⟨W.heap.size, 1, none⟩ = some (.i (sn : Int)):=fun w' h => (LA w' h).cell 1
 have hKd : Below w1.heap.size w1 w1.drew:=(Below.refl _ _).drew
 have hM0 : Mk W w1.drew wn sn false false false false 0 0 0 0 0:=⟨hB1.drew, fun e => e, nofun, nofun, nofun, nofun, ⟨fun _ => 0, nofun, nofun, nofun, nofun⟩, hl1⟩
 go_wp2_with fail
 refine wp_region_held_drew (S:=fun w' => Below w1.heap.size w1 w') (by kernel_rfl) (by exact hKd) (fun hHeld => ?_)
 refine tKw (gd:=none) 0 7 (.load 23 (.tmp 1)) (.agg (Aa (wn : Int) (sn : Int) st wa us)) (run_load_row 23 (.tmp 1) (W.heap.size) 23 (Aa (wn : Int) (sn : Int) st wa us) _ (by kernel_rfl) Tryz.underlying23 rfl (by kernel_rfl) LA) hHeld ?_
 try simp only [Act.put, sA, sZ, sS]
 refine tKg 1 8 hHeld ?_
 try simp only [Act.put, sA, sZ, sS]
 refine tKg 2 9 hHeld ?_
 try simp only [Act.put, sA, sZ, sS]
 refine tKg 4 11 hHeld ?_
 try simp only [Act.put, sA, sZ, sS]
 refine tKg 5 12 hHeld ?_
 try simp only [Act.put, sA, sZ, sS]
 have mkS:=fun w => mk_slots sn hsn.1 hsn.2 w
 have mkW:=fun w => mk_works wn hwn.1 hwn.2 w
 refine wpAnyH_inv2 (fun f l a w => ∃ (b3 b6 b7 b8 : Bool) (sb kb cb wb rb : Nat), (b3 && (b6 && (b7 && b8))) = false ∧ l = #[true, true, true, b3, true, true, b6, b7, b8, false, false, false, false] ∧ f = 4 + (cond b3 0 1 + cond b6 0 1 + cond b7 0 1 + cond b8 0 1) ∧ a = { tmps:=#[.agg (Aa (wn : Int) (sn : Int) st wa us), .pointer (some ⟨W.heap.size, 0, none⟩), .pointer none, .i 0, .agg (Aa (wn : Int) (sn : Int) st wa us), .bool true, .bool false, .agg (Aa (wn : Int) (sn : Int) st wa us), .pointer (some ⟨W.heap.size, 1, none⟩), .i (sn : Int), (cond b3 (.slice (some ⟨sb, 0, none⟩) sn sn) undef), .pointer (some ⟨W.heap.size, 0, none⟩), .i (wn : Int), (cond b6 (.slice (some ⟨kb, 0, none⟩) wn wn) undef), (cond b7 (.pointer (some ⟨cb, 0, none⟩)) undef), (cond b8 (.pointer (some ⟨wb, 0, none⟩)) undef), undef, undef], defers:=[] } ∧ Below w1.heap.size w1 w ∧ Mk W w wn sn b3 b6 b7 b8 sb kb cb wb rb) (fun f l a w => ∃ (sb kb cb wb rb : Nat), l = #[true, true, true, true, true, true, true, true, true, false, false, false, false] ∧ f = 4 ∧ a = { tmps:=#[.agg (Aa (wn : Int) (sn : Int) st wa us), .pointer (some ⟨W.heap.size, 0, none⟩), .pointer none, .i 0, .agg (Aa (wn : Int) (sn : Int) st wa us), .bool true, .bool false, .agg (Aa (wn : Int) (sn : Int) st wa us), .pointer (some ⟨W.heap.size, 1, none⟩), .i (sn : Int), (.slice (some ⟨sb, 0, none⟩) sn sn), .pointer (some ⟨W.heap.size, 0, none⟩), .i (wn : Int), (.slice (some ⟨kb, 0, none⟩) wn wn), (.pointer (some ⟨cb, 0, none⟩)), (.pointer (some ⟨wb, 0, none⟩)), undef, undef], defers:=[] } ∧ Below w1.heap.size w1 w ∧ Mk W w wn sn true true true true sb kb cb wb rb) ?hfin ?hne ?hst _ _ _ _ ⟨false, false, false, false, 0, 0, 0, 0, 0, rfl, rfl, rfl, rfl, hHeld, hM0⟩
 case hne =>
  rintro f l a w ⟨b3, b6, b7, b8, sb, kb, cb, wb, rb, hno, rfl, -, -, -, hM⟩
  have ho:=hM.ord
  cases b3 <;> cases b6 <;> cases b7 <;> cases b8 <;> first | (cases hno; done) | (exact nomatch (show false = true from ho rfl)) | exact ne_of (by kernel_rfl)
 case hst =>
  rintro f l a w ⟨b3, b6, b7, b8, sb, kb, cb, wb, rb, hno, rfl, rfl, rfl, hb, hM⟩ i hi
  have ho:=ready_open hi
  have hi':=hi
  rcases i with _ | _ | _ | _ | _ | _ | _ | _ | _ | _ | _ | _ | _ | i <;> simp at ho
  ·subst ho
   refine ⟨4 + (cond b6 0 1 + cond b7 0 1 + cond b8 0 1), by simp [cond]; omega, ?_⟩
   refine wpOp_run (some 10) (.slice (some ⟨w.heap.size, 0, none⟩) sn sn) (by kernel_rfl) (by kernel_rfl) (by go_simp; try rfl) ?_
   have hb2 : Below w1.heap.size w1 (w.alloc (.cells (rowsOf S.zero.cells sn) 59)):=hb.alloc hb.size _
   by_cases hall : (b6 && (b7 && b8)) = true
   ·simp only [Bool.and_eq_true] at hall
    obtain ⟨rfl, rfl, rfl⟩:=hall
    exact ⟨hb2, .inr ⟨w.heap.size, kb, cb, wb, rb, rfl, rfl, rfl, hb2, hM.adds⟩⟩
   ·exact ⟨hb2, .inl ⟨true, b6, b7, b8, w.heap.size, kb, cb, wb, rb, by revert hall; cases b6 <;> cases b7 <;> cases b8 <;> simp, rfl, by simp [cond], rfl, hb2, hM.adds⟩⟩
  ·subst ho
   refine ⟨4 + (cond b3 0 1 + cond b7 0 1 + cond b8 0 1), by simp [cond]; omega, ?_⟩
   refine wpOp_run (some 13) (.slice (some ⟨w.heap.size, 0, none⟩) wn wn) (by kernel_rfl) (by kernel_rfl) (by go_simp; try rfl) ?_
   have hb2 : Below w1.heap.size w1 (w.alloc (.cells (rowsOf Wk.zero.cells wn) 94)):=hb.alloc hb.size _
   by_cases hall : (b3 && (b7 && b8)) = true
   ·simp only [Bool.and_eq_true] at hall
    obtain ⟨rfl, rfl, rfl⟩:=hall
    exact ⟨hb2, .inr ⟨sb, w.heap.size, cb, wb, rb, rfl, rfl, rfl, hb2, hM.addk⟩⟩
   ·exact ⟨hb2, .inl ⟨b3, true, b7, b8, sb, w.heap.size, cb, wb, rb, by revert hall; cases b3 <;> cases b7 <;> cases b8 <;> simp, rfl, by simp [cond], rfl, hb2, hM.addk⟩⟩
  ·subst ho
   refine ⟨4 + (cond b3 0 1 + cond b6 0 1 + cond b8 0 1), by simp [cond]; omega, ?_⟩
   have hb8 : b8 = false:=by cases b8 with
    | false => rfl
    | true => exact absurd (hM.ord rfl) (by simp)
   subst hb8
   refine wpOp_call 35 #[] #[] (some 14) none (by kernel_rfl) (by kernel_rfl) #[] (by kernel_rfl) (enters_of Tryz.func35 (by kernel_rfl) rfl) ?_
   refine (Clock.new_any w).mono ?_
   rintro e w' ⟨rfl, rfl⟩
   have hb2 : Below w1.heap.size w1 (w.alloc (.cells #[.i 0] 114)):=hb.alloc hb.size _
   exact ⟨_, rfl, hb2, .inl ⟨b3, b6, true, false, sb, kb, w.heap.size, wb, rb, by cases b3 <;> cases b6 <;> simp, rfl, by simp [cond], rfl, hb2, hM.addc⟩⟩
  ·subst ho
   cases b7
   ·exact (by cases b3 <;> cases b6 <;> exact not_in hi' (by kernel_rfl) : False).elim
   refine ⟨4 + (cond b3 0 1 + cond b6 0 1), by simp [cond]; omega, ?_⟩
   refine wpOp_call 36 #[] #[] (some 15) none (by kernel_rfl) (by kernel_rfl) #[] (by kernel_rfl) (enters_of Tryz.func36 (by kernel_rfl) rfl) ?_
   refine (World11.new_any w).mono ?_
   rintro e w' ⟨rfl, hA, hbw⟩
   have hb2 : Below w1.heap.size w1 w':=hb.trans (hbw.mono hb.size)
   by_cases hall : (b3 && b6) = true
   ·simp only [Bool.and_eq_true] at hall
    obtain ⟨rfl, rfl⟩:=hall
    exact ⟨_, rfl, hb2, .inr ⟨sb, kb, cb, w.heap.size + 1, w.heap.size, rfl, rfl, rfl, hb2, hM.addw hA hbw⟩⟩
   ·exact ⟨_, rfl, hb2, .inl ⟨b3, b6, true, true, sb, kb, cb, w.heap.size + 1, w.heap.size, by revert hall; cases b3 <;> cases b6 <;> simp, rfl, by simp [cond], rfl, hb2, hM.addw hA hbw⟩⟩
  ·exact (by cases b3 <;> cases b6 <;> cases b7 <;> cases b8 <;> first | (cases hno; done) | (exact nomatch (show false = true from hM.ord rfl)) | exact not_in hi' (by kernel_rfl) : False).elim
  ·exact (by cases b3 <;> cases b6 <;> cases b7 <;> cases b8 <;> first | (cases hno; done) | (exact nomatch (show false = true from hM.ord rfl)) | exact not_in hi' (by kernel_rfl) : False).elim
  ·exact (by cases b3 <;> cases b6 <;> cases b7 <;> cases b8 <;> first | (cases hno; done) | (exact nomatch (show false = true from hM.ord rfl)) | exact not_in hi' (by kernel_rfl) : False).elim
  ·exact (by cases b3 <;> cases b6 <;> cases b7 <;> cases b8 <;> first | (cases hno; done) | (exact nomatch (show false = true from hM.ord rfl)) | exact not_in hi' (by kernel_rfl) : False).elim
 case hfin =>
  rintro f l a w ⟨sb, kb, cb, wb, rb, rfl, rfl, rfl, hb, hM⟩
  clear mkS mkW
  try dsimp only [cond]
  refine tKg 9 16 hb ?_
  try simp only [Act.put, sA, sZ, sS]
  have hb2 : Below w1.heap.size w1 (w.alloc (.cells #[.i (wn : Int), .i (sn : Int), .i st, .i wa, .i us, .slice (some ⟨sb, 0, none⟩) sn sn, .slice (some ⟨kb, 0, none⟩) wn wn, .slice none 0 0, .i 0, .pointer (some ⟨cb, 0, none⟩), .pointer (some ⟨wb, 0, none⟩)] 85)):=hb.alloc hb.size _
  refine ready1 (i:=10) (by kernel_rfl) (step_run (some 17) (.pointer (some ⟨w.heap.size, 0, none⟩)) (by kernel_rfl) (by kernel_rfl) (by go_simp; try rfl) hb2 (fun _ => ?_))
  try simp only [Act.put, sA, sZ, sS]
  have hA:=mk_mat hL HC.out hM
  generalize hwz : w.alloc (.cells #[.i (wn : Int), .i (sn : Int), .i st, .i wa, .i us, .slice (some ⟨sb, 0, none⟩) sn sn, .slice (some ⟨kb, 0, none⟩) wn wn, .slice none 0 0, .i 0, .pointer (some ⟨cb, 0, none⟩), .pointer (some ⟨wb, 0, none⟩)] 85) = w9 at *
  clear hwz
  refine tKg 11 2 hb2 ?_
  try simp only [Act.put, sA, sZ, sS]
  refine tKg 12 3 hb2 ?_
  try simp only [Act.put, sA, sZ, sS]
  refine wpAnyH_done (by kernel_rfl) ?_ _
  have HA:=Lib.hid hA
  clear hA
  go_wp2_with fail
  go_ret2
  exact HA.out
end Go.Proofs.YtpmkgddjgebojaaGreatDoor.Mod
namespace Go.Proofs.YtpmkgddjgebojaaGreatDoor.Mod
open Go.RowKit Hp Slot RowL Life R8
theorem q_count {W : World} {p : Ql} {m : M} (h : QAt W p m) : Calls Tryz.prog 45 #[.pointer (some ⟨p.mb, 0, none⟩)] W fun e W' => e = .returned m.stats.val ∧ Below W.heap.size W W':=by
 have hR:=stats_eq m
 generalize m.stats = R at *
 have HR:=Lib.hid hR
 have hlt : p.mb < W.heap.size:=h.lt (.inl rfl)
 have c5:=h.hd.c5
 have hns:=h.ok.ns
 have H:=Lib.hid h
 clear hR h
 have hB : Below W.heap.size W ((W.alloc (.cells ev0 36)).alloc (.cells #[.i 0, .i 0, .i 0, .i 0] 34)):=((Below.refl _ _).alloc (Nat.le_refl _) _).alloc (by simp) _
 have e0 : ERow ((W.alloc (.cells ev0 36)).alloc (.cells #[.i 0, .i 0, .i 0, .i 0] 34)) W.heap.size:=⟨ev0, rfl, heap_alloc2_old W _ _⟩
 have q0 : RowAt ((W.alloc (.cells ev0 36)).alloc (.cells #[.i 0, .i 0, .i 0, .i 0] 34)) (W.heap.size + 1) #[.i 0, .i 0, .i 0, .i 0] 34:=heap_alloc2_new W _ _
 have E0:=Lib.hid e0
 have Q0:=Lib.hid q0
 have HB:=Lib.hid hB
 clear e0 q0 hB
 go_enter Tryz.func45, Tryz.ntmps45
 go_wp2_with fail
 clear c5
 go_loopw [4] (fun i wr => ∃ k : Nat, k ≤ m.ss.length ∧ i = .i k ∧ Below W.heap.size W wr ∧ ERow wr W.heap.size ∧ RowAt wr (W.heap.size + 1) #[.i (cnt isIdle m.ss k), .i (cnt isLeased m.ss k), .i (cnt isEmpty m.ss k), .i (cnt isOther m.ss k)] 34) (fun i _ => m.ss.length - (intOf i).toNat)
 case atStart => exact ⟨0, by omega, rfl, HB.out, E0.out, Q0.out⟩
 case round =>
  clear E0 Q0 HB
  obtain ⟨k, hk, rfl, hb, e1, q1⟩:=hrel
  have k0 : (0 : Int) ≤ (k : Int):=by omega
  have k5:=(H.out.below hb).hd.c5
  by_cases hlt : k < m.ss.length
  ·obtain ⟨s, hs⟩ : ∃ s, m.ss[k]? = some s:=⟨_, List.getElem?_eq_getElem hlt⟩
   have d:=(H.out.below hb).slots.get hs
   have n1:=cnt_bd isIdle m.ss k
   have n2:=cnt_bd isLeased m.ss k
   have n3:=cnt_bd isEmpty m.ss k
   have n4:=cnt_bd isOther m.ss k
   have S1:=Lib.hid (cnt_step isIdle hs)
   have S2:=Lib.hid (cnt_step isLeased hs)
   have S3:=Lib.hid (cnt_step isEmpty hs)
   have S4:=Lib.hid (cnt_step isOther hs)
   have E1:=Lib.hid e1
   have Q1:=Lib.hid q1
   have HB:=Lib.hid hb
   have c0:=q1.cell 0
   have c1:=q1.cell 1
   have c2:=q1.cell 2
   have c3:=q1.cell 3
   have f0:=q1.frozen 0
   have f1:=q1.frozen 1
   have f2:=q1.frozen 2
   have f3:=q1.frozen 3
   have hlw : W.heap.size + 1 < wr.heap.size:=q1.lt
   simp only [List.getElem?_toArray, List.getElem?_cons_zero, List.getElem?_cons_succ] at c0 c1 c2 c3
   generalize cnt isIdle m.ss k = a1 at *
   generalize cnt isLeased m.ss k = a2 at *
   generalize cnt isEmpty m.ss k = a3 at *
   generalize cnt isOther m.ss k = a4 at *
   obtain ⟨n1, n1'⟩:=n1
   obtain ⟨n2, n2'⟩:=n2
   obtain ⟨n3, n3'⟩:=n3
   obtain ⟨n4, n4'⟩:=n4
   clear hs e1 q1 hb
   obtain ⟨s0, s1, s2, s3, s4, s5, s6, s7, s8⟩:=s
   obtain ⟨d0, d1, d2, d3, d4, d5, d6, d7, d8⟩:=d
   simp only [isIdle, isLeased, isEmpty, isOther] at S1 S2 S3 S4
   by_cases x2 : s0 = 2
   ·subst x2
    have hr : RowAt (wr.setCell ⟨W.heap.size + 1, 0, none⟩ (.i (a1 + 1))) (W.heap.size + 1) #[.i (cnt isIdle m.ss (k + 1)), .i (cnt isLeased m.ss (k + 1)), .i (cnt isEmpty m.ss (k + 1)), .i (cnt isOther m.ss (k + 1))] 34:=by
     rw [S1.out, S2.out, S3.out, S4.out]
     have:=Q1.out.setc 0 (.i (a1 + 1))
     simpa [] using this
    have HRr:=Lib.hid hr
    clear hr
    go_wp2_with fail
    go_roundw
    case rel => exact ⟨k + 1, by omega, by go_num, HB.out.setCell (by simp) _, E1.out.chg (F:=fun k => k = W.heap.size + 1) ((Chg.refl (fun k => k = W.heap.size + 1) wr).setCell _ _ (fun _ => rfl)) (by omega), HRr.out⟩
    case measure => simp [intOf]; omega
   ·have z2 : (s0 == 2) = false:=by simp [x2]
    have z2' : (s0 != 2) = true:=by simp [x2]
    by_cases x3 : s0 = 3
    ·subst x3
     have hr : RowAt (wr.setCell ⟨W.heap.size + 1, 1, none⟩ (.i (a2 + 1))) (W.heap.size + 1) #[.i (cnt isIdle m.ss (k + 1)), .i (cnt isLeased m.ss (k + 1)), .i (cnt isEmpty m.ss (k + 1)), .i (cnt isOther m.ss (k + 1))] 34:=by
      rw [S1.out, S2.out, S3.out, S4.out]
      have:=Q1.out.setc 1 (.i (a2 + 1))
      simpa [] using this
     have HRr:=Lib.hid hr
     clear hr
     go_wp2_with fail
     go_roundw
     case rel => exact ⟨k + 1, by omega, by go_num, HB.out.setCell (by simp) _, E1.out.chg (F:=fun k => k = W.heap.size + 1) ((Chg.refl (fun k => k = W.heap.size + 1) wr).setCell _ _ (fun _ => rfl)) (by omega), HRr.out⟩
     case measure => simp [intOf]; omega
    ·have z3 : (s0 == 3) = false:=by simp [x3]
     have z3' : (s0 != 3) = true:=by simp [x3]
     by_cases x0 : s0 = 0
     ·subst x0
      have hr : RowAt (wr.setCell ⟨W.heap.size + 1, 2, none⟩ (.i (a3 + 1))) (W.heap.size + 1) #[.i (cnt isIdle m.ss (k + 1)), .i (cnt isLeased m.ss (k + 1)), .i (cnt isEmpty m.ss (k + 1)), .i (cnt isOther m.ss (k + 1))] 34:=by
       rw [S1.out, S2.out, S3.out, S4.out]
       have:=Q1.out.setc 2 (.i (a3 + 1))
       simpa [] using this
      have HRr:=Lib.hid hr
      clear hr
      go_wp2_with fail
      go_roundw
      case rel => exact ⟨k + 1, by omega, by go_num, HB.out.setCell (by simp) _, E1.out.chg (F:=fun k => k = W.heap.size + 1) ((Chg.refl (fun k => k = W.heap.size + 1) wr).setCell _ _ (fun _ => rfl)) (by omega), HRr.out⟩
      case measure => simp [intOf]; omega
     ·have z0 : (s0 == 0) = false:=by simp [x0]
      have z0' : (s0 != 0) = true:=by simp [x0]
      have hr : RowAt (wr.setCell ⟨W.heap.size + 1, 3, none⟩ (.i (a4 + 1))) (W.heap.size + 1) #[.i (cnt isIdle m.ss (k + 1)), .i (cnt isLeased m.ss (k + 1)), .i (cnt isEmpty m.ss (k + 1)), .i (cnt isOther m.ss (k + 1))] 34:=by
       rw [S1.out, S2.out, S3.out, S4.out]
       have:=Q1.out.setc 3 (.i (a4 + 1))
       simpa [x0, x2, x3] using this
      have HRr:=Lib.hid hr
      clear hr
      go_wp2_with fail
      go_roundw
      case rel => exact ⟨k + 1, by omega, by go_num, HB.out.setCell (by simp) _, E1.out.chg (F:=fun k => k = W.heap.size + 1) ((Chg.refl (fun k => k = W.heap.size + 1) wr).setCell _ _ (fun _ => rfl)) (by omega), HRr.out⟩
      case measure => simp [intOf]; omega
  ·have hkk : k = m.ss.length:=by omega
   have HR2 : RowKit.Hid (R = { Ev.zero with idle:=cnt isIdle m.ss k, leased:=cnt isLeased m.ss k, empty:=cnt isEmpty m.ss k, other:=cnt isOther m.ss k }):=Lib.hid (by rw [hkk]; exact HR.out)
   have c0:=q1.cell 0
   have c1:=q1.cell 1
   have c2:=q1.cell 2
   have c3:=q1.cell 3
   simp only [List.getElem?_toArray, List.getElem?_cons_zero, List.getElem?_cons_succ] at c0 c1 c2 c3
   generalize cnt isIdle m.ss k = a1 at *
   generalize cnt isLeased m.ss k = a2 at *
   generalize cnt isEmpty m.ss k = a3 at *
   generalize cnt isOther m.ss k = a4 at *
   have HB:=Lib.hid hb
   clear hkk HR hb q1
   go_upto_region 13 with (fail)
   obtain ⟨Z, z1, z2⟩:=e1
   refine wp_region_lit ?_
   refine RowL.gl (.agg #[.i a1, .i a2, .i a3, .i a4]) ?_ (by go_simp; try rfl)
   refine RowL.gl ({ Ev.zero with idle:=a1, leased:=a2, empty:=a3, other:=a4 } : Ev).val ?_ (by go_simp; try rfl)
   refine RowL.gSt z2 ({ Ev.zero with idle:=a1, leased:=a2, empty:=a3, other:=a4 } : Ev).cells 36 (.tmp 2) (.tmp 46) ?_ (hsz:=z1) (h1:=ev_one _)
   go_wp2_with fail
   refine bR1 W.heap.size (z2.set _) Tryz.underlying36 ?_
   exact ⟨by rw [HR2.out], HB.out.trans ((chg_setRow (F:=fun k => k = W.heap.size) (Chg.refl _ _) _ _ (fun _ => rfl)).below HB.out.size (fun k e => by omega))⟩
end Go.Proofs.YtpmkgddjgebojaaGreatDoor.Mod
