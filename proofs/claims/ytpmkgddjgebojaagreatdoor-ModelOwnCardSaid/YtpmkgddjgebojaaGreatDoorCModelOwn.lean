/- The statement ModelOwn holds, for every input: the call answers true and leaves what it was handed as it was, where the package's table slot.fields is laid as the program's text lays it (the tied card). -/
import Derived.Test.YtpmkgddjgebojaaGreatDoorA6
import Derived.Test.YtpmkgddjgebojaaGreatDoorRows
import Derived.Test.YtpmkgddjgebojaaGreatDoorTie
import Derived.Test.YtpmkgddjgebojaaGreatDoorCards
import Derived.WalkKit
import Derived.ProofKit
import Derived.OpenShut
import Derived.ShutString
import Derived.ChangeOld
import Derived.Below
import Derived.LaidMore
import Derived.SevenTiedAt
import Derived.Deep.CutBlock

namespace Go.Proofs.YtpmkgddjgebojaaGreatDoor.Mod
set_option linter.unusedVariables false
set_option linter.unusedSimpArgs false
open Go.RowKit Hp Slot RowL Life

def zerosI (n : Nat) : Array Value := ⟨(List.replicate n (0 : Int)).map (Value.int .i64)⟩
theorem mk_i1 (W : World) : (Instr.makeSlice 43 (.int .i64 1) (.int .i64 1)).run Tryz.prog W = .ok (.slice (some ⟨W.heap.size, 0, none⟩) 1 1) (W.alloc (.cells (zerosI 1) 3)) := by kernel_rfl
theorem mk_i2 (W : World) : (Instr.makeSlice 43 (.int .i64 2) (.int .i64 2)).run Tryz.prog W = .ok (.slice (some ⟨W.heap.size, 0, none⟩) 2 2) (W.alloc (.cells (zerosI 2) 3)) := by kernel_rfl
theorem mk_i3 (W : World) : (Instr.makeSlice 43 (.int .i64 3) (.int .i64 3)).run Tryz.prog W = .ok (.slice (some ⟨W.heap.size, 0, none⟩) 3 3) (W.alloc (.cells (zerosI 3) 3)) := by kernel_rfl
theorem mk_i4 (W : World) : (Instr.makeSlice 43 (.int .i64 4) (.int .i64 4)).run Tryz.prog W = .ok (.slice (some ⟨W.heap.size, 0, none⟩) 4 4) (W.alloc (.cells (zerosI 4) 3)) := by kernel_rfl
theorem mk_i5 (W : World) : (Instr.makeSlice 43 (.int .i64 5) (.int .i64 5)).run Tryz.prog W = .ok (.slice (some ⟨W.heap.size, 0, none⟩) 5 5) (W.alloc (.cells (zerosI 5) 3)) := by kernel_rfl
theorem mk_i6 (W : World) : (Instr.makeSlice 43 (.int .i64 6) (.int .i64 6)).run Tryz.prog W = .ok (.slice (some ⟨W.heap.size, 0, none⟩) 6 6) (W.alloc (.cells (zerosI 6) 3)) := by kernel_rfl
theorem mk_i7 (W : World) : (Instr.makeSlice 43 (.int .i64 7) (.int .i64 7)).run Tryz.prog W = .ok (.slice (some ⟨W.heap.size, 0, none⟩) 7 7) (W.alloc (.cells (zerosI 7) 3)) := by kernel_rfl
theorem mk_i8 (W : World) : (Instr.makeSlice 43 (.int .i64 8) (.int .i64 8)).run Tryz.prog W = .ok (.slice (some ⟨W.heap.size, 0, none⟩) 8 8) (W.alloc (.cells (zerosI 8) 3)) := by kernel_rfl
theorem mk_i9 (W : World) : (Instr.makeSlice 43 (.int .i64 9) (.int .i64 9)).run Tryz.prog W = .ok (.slice (some ⟨W.heap.size, 0, none⟩) 9 9) (W.alloc (.cells (zerosI 9) 3)) := by kernel_rfl
theorem mk_i10 (W : World) : (Instr.makeSlice 43 (.int .i64 10) (.int .i64 10)).run Tryz.prog W = .ok (.slice (some ⟨W.heap.size, 0, none⟩) 10 10) (W.alloc (.cells (zerosI 10) 3)) := by kernel_rfl
theorem mk_i11 (W : World) : (Instr.makeSlice 43 (.int .i64 11) (.int .i64 11)).run Tryz.prog W = .ok (.slice (some ⟨W.heap.size, 0, none⟩) 11 11) (W.alloc (.cells (zerosI 11) 3)) := by kernel_rfl
theorem mk_i12 (W : World) : (Instr.makeSlice 43 (.int .i64 12) (.int .i64 12)).run Tryz.prog W = .ok (.slice (some ⟨W.heap.size, 0, none⟩) 12 12) (W.alloc (.cells (zerosI 12) 3)) := by kernel_rfl
theorem mk_i13 (W : World) : (Instr.makeSlice 43 (.int .i64 13) (.int .i64 13)).run Tryz.prog W = .ok (.slice (some ⟨W.heap.size, 0, none⟩) 13 13) (W.alloc (.cells (zerosI 13) 3)) := by kernel_rfl
theorem mk_i14 (W : World) : (Instr.makeSlice 43 (.int .i64 14) (.int .i64 14)).run Tryz.prog W = .ok (.slice (some ⟨W.heap.size, 0, none⟩) 14 14) (W.alloc (.cells (zerosI 14) 3)) := by kernel_rfl
theorem mk_i15 (W : World) : (Instr.makeSlice 43 (.int .i64 15) (.int .i64 15)).run Tryz.prog W = .ok (.slice (some ⟨W.heap.size, 0, none⟩) 15 15) (W.alloc (.cells (zerosI 15) 3)) := by kernel_rfl
theorem mk_i16 (W : World) : (Instr.makeSlice 43 (.int .i64 16) (.int .i64 16)).run Tryz.prog W = .ok (.slice (some ⟨W.heap.size, 0, none⟩) 16 16) (W.alloc (.cells (zerosI 16) 3)) := by kernel_rfl
theorem mk_ints (n : Nat) (h1 : 1 ≤ n) (h2 : n ≤ 16) (W : World) : (Instr.makeSlice 43 (.int .i64 n) (.int .i64 n)).run Tryz.prog W = .ok (.slice (some ⟨W.heap.size, 0, none⟩) n n) (W.alloc (.cells (zerosI n) 3)) := by
  have h : n = 1 ∨ n = 2 ∨ n = 3 ∨ n = 4 ∨ n = 5 ∨ n = 6 ∨ n = 7 ∨ n = 8 ∨ n = 9 ∨ n = 10 ∨ n = 11 ∨ n = 12 ∨ n = 13 ∨ n = 14 ∨ n = 15 ∨ n = 16 := by omega
  rcases h with rfl | rfl | rfl | rfl | rfl | rfl | rfl | rfl | rfl | rfl | rfl | rfl | rfl | rfl | rfl | rfl
  · exact mk_i1 W
  · exact mk_i2 W
  · exact mk_i3 W
  · exact mk_i4 W
  · exact mk_i5 W
  · exact mk_i6 W
  · exact mk_i7 W
  · exact mk_i8 W
  · exact mk_i9 W
  · exact mk_i10 W
  · exact mk_i11 W
  · exact mk_i12 W
  · exact mk_i13 W
  · exact mk_i14 W
  · exact mk_i15 W
  · exact mk_i16 W
/-- A list of numbers fills a block. -/
def RowI (W : World) (g : Nat) (l : List Int) : Prop := RowAt W g ⟨l.map (Value.int .i64)⟩ 3
theorem RowI.get {W : World} {g : Nat} {l : List Int} (h : RowI W g l) {i : Nat} {x : Int} (hx : l[i]? = some x) : W.cell? ⟨g, i, none⟩ = some (.int .i64 x) := by
  rw [RowAt.cell h i]
  simp [hx]
theorem RowI.set {W : World} {g : Nat} {l : List Int} (h : RowI W g l) (i : Nat) (x : Int) : RowI (W.setCell ⟨g, i, none⟩ (.int .i64 x)) g (l.set i x) := by
  have h1 := RowAt.setc h i (.int .i64 x)
  unfold RowI
  have e : (⟨l.map (Value.int .i64)⟩ : Array Value).setIfInBounds i (.int .i64 x) = ⟨(l.set i x).map (Value.int .i64)⟩ := by
    rw [List.map_set]
    simp
  rw [← e]
  exact h1
theorem RowI.other {W : World} {g g' : Nat} {l : List Int} (h : RowI W g l) (hg : g ≠ g') (i : Nat) (v : Value) : RowI (W.setCell ⟨g', i, none⟩ v) g l := (heap_setCell_other W ⟨g', i, none⟩ g v hg).trans h
theorem PlayB.set {W0 W : World} {K : Nat → Prop} {mb : Nat} {ev : Value} {p : Pl} {m : M} {evs : List Ev} (h : PlayB W0 K mb ev W p m evs) {g : Nat} (hg : K g) (hl : W0.heap.size ≤ g) (i : Nat) (v : Value) : PlayB W0 K mb ev (W.setCell ⟨g, i, none⟩ v) p m evs := by
  have hC : Chg (fun k => k = g) W (W.setCell ⟨g, i, none⟩ v) := (Chg.refl (fun k => k = g) W).setCell ⟨g, i, none⟩ v (fun _ => rfl)
  have hk := h.kept g hg
  have hp := h.pos
  refine ⟨h.pos, h.mb, h.at'.chg hC (fun k hk' e => hk.2.1 (e ▸ hk')) (by omega), h.evs.chg hC (fun k hk' e => hk.2.2 (e ▸ hk')), h.new, h.newE, h.own, fun j hj => ⟨Nat.lt_of_lt_of_le (h.ltK hj) hC.size, (h.kept j hj).2⟩, ?_⟩
  exact h.below.trans (hC.below (by have := h.below.size; omega) (fun j hj => by omega))
/-- An entry that asks, wakes, or does nothing: what was told stays right, or is told anew. -/
theorem own_entry {m : M} {ws gs : List Int} {e : Int} (h : Inv m) (ho : OwnI m ws gs e) (h4 : e ≤ 4000) {z : En} (hz : z.ok) (hk : z.kind = 0 ∨ z.kind = 1 ∨ z.kind = 9) :
    ((m.entry z).1 = none → OwnI (m.entry z).2 ws gs (e + 1)) ∧ ∀ y, (m.entry z).1 = some y → OwnE m (m.entry z).2 ws gs e y := by
  rcases hk with h0 | h1 | h9
  · have ha := own_ask h ho h4 z.who z.ask hz.1.2
    have e1 : m.entry z = (if (m.ask z.who z.ask).1.2.1 then some (m.ask z.who z.ask).1.1 else none, (m.ask z.who z.ask).2) := by unfold M.entry; rw [if_pos h0]
    rw [e1]
    cases hb : (m.ask z.who z.ask).1.2.1
    · exact ⟨fun _ => ha.2 hb, fun y hy => by simp at hy⟩
    · exact ⟨fun hy => by simp at hy, fun y hy => by simp at hy; subst hy; exact ha.1 hb⟩
  · have ha := own_wake h ho h4 z.who
    have e1 : m.entry z = (if (m.wake z.who).1.2 then some (m.wake z.who).1.1 else none, (m.wake z.who).2) := by unfold M.entry; rw [if_neg (by omega), if_pos h1]
    rw [e1]
    cases hb : (m.wake z.who).1.2
    · exact ⟨fun _ => ha.2 hb, fun y hy => by simp at hy⟩
    · exact ⟨fun hy => by simp at hy, fun y hy => by simp at hy; subst hy; exact ha.1 hb⟩
  · have e1 : m.entry z = (none, m) := by
      unfold M.entry
      rw [if_neg (by omega), if_neg (by omega), if_neg (by omega), if_neg (by omega), if_neg (by omega)]
    rw [e1]
    exact ⟨fun _ => ho.up, fun y hy => by cases hy⟩
/-- Whose events are told. -/
theorem entry_who {m : M} (h : Mid m) {z : En} {y : Ev} (hy : (m.entry z).1 = some y) : 0 ≤ y.who ∧ y.who ≤ 8 := by
  have hk := h.nk
  have key : ∀ n : Nat, n < m.ks.length → (0 : Int) ≤ (n : Int) ∧ (n : Int) ≤ 8 := fun n hn => by omega
  unfold M.entry at hy
  split at hy
  · unfold M.ask at hy
    split at hy
    · rename_i hc
      obtain ⟨-, n, k, hn, hkn, -⟩ := can_of hc
      have hl := key n (List.getElem?_eq_some_iff.1 hkn).1
      rw [hn] at hy
      simp only at hy
      split at hy
      · simp only [if_true, Option.some.injEq] at hy
        subst hy
        exact hl
      · simp at hy
    · simp at hy
  split at hy
  · by_cases hh : m.has z.who = true
    · obtain ⟨n, hn, hnl⟩ := has_nat hh
      have hl := key n hnl
      have hkn : m.ks[n]? = some m.ks[n] := List.getElem?_eq_getElem hnl
      rw [hn, wake_of hkn] at hy
      split at hy
      · simp only [if_true, Option.some.injEq] at hy
        subst hy
        exact hl
      split at hy
      · simp only [if_true, Option.some.injEq] at hy
        subst hy
        exact hl
      split at hy
      · simp only [if_true, Option.some.injEq] at hy
        subst hy
        exact hl
      · simp at hy
    · have e : m.wake z.who = ((Ev.zero, false), m) := by
        unfold M.wake
        rw [if_pos (by simpa using hh)]
      rw [e] at hy
      simp at hy
  split at hy
  · cases hy
  split at hy
  · cases hy
  split at hy
  · cases hy
  · cases hy
theorem ev_range {W : World} {ea : Option Addr} {n c : Nat} {T : List Ev} (h : EvsAt W (.slice ea n c) T) {j : Nat} {y : Ev} (hy : T[j]? = some y) : ∃ g off, ea = some ⟨g, off, none⟩ ∧ W.rangeAt g (off + j * 18) y.cells.toList := by
  have hj := (List.getElem?_eq_some_iff.1 hy).1
  rcases h.2 with ⟨h1, h2⟩ | ⟨g, off, cap, h1, a1, a2, a3, a4, a5, a6⟩
  · omega
  · simp only [Value.slice.injEq] at h1
    refine ⟨g, off, h1.1, fun q v hv => ?_⟩
    have hq : q < 18 := by have := (List.getElem?_eq_some_iff.1 hv).1; simpa [Ev.cells] using this
    have := a6 (j * 18 + q) v (by rw [flatE_at T j y q hy hq]; simpa using hv)
    rw [← Nat.add_assoc] at this
    exact this
/-- Few events. -/
structure Few (k : Nat) (evs : List Ev) : Prop where
  len : evs.length ≤ k
end Go.Proofs.YtpmkgddjgebojaaGreatDoor.Mod

namespace Go.Proofs.YtpmkgddjgebojaaGreatDoor.Mod
set_option linter.unusedVariables false
set_option linter.unusedSimpArgs false
open Go.RowKit Hp Slot RowL Life

set_option maxRecDepth 100000 in
set_option maxHeartbeats 16000000 in
theorem modelOwn_walk (W : World) (hL : Laid W) (ga gb gc gd ge : Int) (xa : 0 ≤ ga ∧ ga < 256) (xb : 0 ≤ gb ∧ gb < 256) (xc : 0 ≤ gc ∧ gc < 256) (xd : 0 ≤ gd ∧ gd < 256) (xe : 0 ≤ ge ∧ ge < 256) (lv : Value) (l : List Tn) (hl : TurnsAt W lv l) :
    Calls Tryz.prog 4 #[.agg #[.int .u8 ga, .int .u8 gb, .int .u8 gc, .int .u8 gd, .int .u8 ge], lv] W fun e W' => e = .returned (.bool true) ∧ Below W.heap.size W W' := by
  have hbA : Below W.heap.size W (W.alloc (.cells #[.int .u8 ga, .int .u8 gb, .int .u8 gc, .int .u8 gd, .int .u8 ge] 49)) := (Below.refl _ _).alloc (Nat.le_refl _) _
  have haw := awake_any (W.alloc (.cells #[.int .u8 ga, .int .u8 gb, .int .u8 gc, .int .u8 gd, .int .u8 ge] 49)) (hL.stable (hbA.block 0 (hL.lt (by decide))))
  have rA : RowAt (W.alloc (.cells #[.int .u8 ga, .int .u8 gb, .int .u8 gc, .int .u8 gd, .int .u8 ge] 49)) W.heap.size #[.int .u8 ga, .int .u8 gb, .int .u8 gc, .int .u8 gd, .int .u8 ge] 49 := RowAt.new _ _ _
  have hpos : 0 < W.heap.size := hL.lt (by decide)
  have HLd := Lib.hid hL
  have HL := Lib.hid hl
  obtain ⟨a, cp, rfl, htok, hcells⟩ := hl
  clear hcells hL htok
  go_enter Tryz.func4, Tryz.ntmps4
  go_wp2_with fail
  refine haw.mono ?_
  rintro e w1 ⟨rfl, hb1⟩
  have r1 := rA.below hb1
  clear haw rA
  by_cases hn : l.length ≤ 60
  rotate_left
  · have hn' : (60 : Int) < l.length := by omega
    go_wp2
    go_ret
    exact ⟨rfl, hbA.trans (hb1.mono hbA.size)⟩
  have hn' : ¬ (60 : Int) < l.length := by omega
  have d0 : w1.cell? ⟨W.heap.size, 0, none⟩ = some (.int .u8 ga) := r1.cell 0
  have d1 : w1.cell? ⟨W.heap.size, 1, none⟩ = some (.int .u8 gb) := r1.cell 1
  have d2 : w1.cell? ⟨W.heap.size, 2, none⟩ = some (.int .u8 gc) := r1.cell 2
  have d3 : w1.cell? ⟨W.heap.size, 3, none⟩ = some (.int .u8 gd) := r1.cell 3
  have d4 : w1.cell? ⟨W.heap.size, 4, none⟩ = some (.int .u8 ge) := r1.cell 4
  have hcf := conf_any w1 ga gb gc gd ge xa xb xc xd xe
  have hcr := confOf_right ga gb gc gd ge
  generalize confOf ga gb gc gd ge = c at *
  have hlb := HL.out.below (hbA.trans (hb1.mono hbA.size))
  go_wp2_with fail
  refine hcf.mono ?_
  rintro e w2 ⟨rfl, hb2⟩
  clear hcf d0 d1 d2 d3 d4 r1
  have rz := RowAt.new w2 #[.int .i64 0, .int .i64 0, .int .i64 0, .int .i64 0, .int .i64 0] 23
  have hst := conf_store rz rfl c
  have row3 := rz.set c.cells
  have hb3 : Below w2.heap.size w2 ((w2.alloc (.cells #[.int .i64 0, .int .i64 0, .int .i64 0, .int .i64 0, .int .i64 0] 23)).setRow w2.heap.size c.cells) := below_setRow ((Below.refl _ _).alloc (Nat.le_refl _) _) (Nat.le_refl _) _
  have hb13 : Below w1.heap.size w1 ((w2.alloc (.cells #[.int .i64 0, .int .i64 0, .int .i64 0, .int .i64 0, .int .i64 0] 23)).setRow w2.heap.size c.cells) := hb2.trans (hb3.mono hb2.size)
  have hbW : Below W.heap.size W ((w2.alloc (.cells #[.int .i64 0, .int .i64 0, .int .i64 0, .int .i64 0, .int .i64 0] 23)).setRow w2.heap.size c.cells) := (hbA.trans (hb1.mono hbA.size)).trans (hb13.mono (Nat.le_trans hbA.size hb1.size))
  have hcb : W.heap.size ≤ w2.heap.size := Nat.le_trans hbA.size (Nat.le_trans hb1.size hb2.size)
  have hsc : c.cells.size = 5 := rfl
  go_upto_region 5 with (fail)
  generalize (w2.alloc (.cells #[.int .i64 0, .int .i64 0, .int .i64 0, .int .i64 0, .int .i64 0] 23)).setRow w2.heap.size c.cells = w3 at *
  generalize w2.heap.size = cb at *
  clear hst rz hb13 hb3 hb2 hb1 hbA hsc hlb
  have hL3 : Laid w3 := HLd.out.stable (hbW.block 0 (HLd.out.lt (by decide)))
  have hl3 := HL.out.below hbW
  refine wp_region_lit ?_
  refine RowL.wpList_load_row rfl 23 (.tmp 6) rfl cb _ c.cells _ rfl row3 Tryz.underlying23 rfl (by kernel_rfl) ?_
  have hpl := m_new w3 c hcr hL3
  go_wp2_with fail
  refine hpl.mono ?_
  rintro e w4 ⟨p, rfl, hA, hnew, hb4⟩
  have row4 : RowAt w4 cb c.cells 23 := row3.below hb4
  have hcb3 : cb < w3.heap.size := row3.lt
  have hB4 : PlayB W (fun j => j = cb) p.mb (.slice none 0 0) w4 p (M.new c) [] := ⟨hpos, rfl, hA, ownS_nil _ _, fun j hj => by have := hnew j hj; have := hbW.size; omega, fun j hj => (fp_nil j hj).elim, fun j hj => (fp_nil j hj).elim, fun j hj => ⟨by have := hb4.size; omega, fun hm => by have := hnew j hm; omega, fun hm => fp_nil j hm⟩, hbW.trans (hb4.mono hbW.size)⟩
  have hInv := Inv.new hcr
  generalize p.mb = mb at *
  clear hpl hA hnew hb4 hL3 hl3 row3 hbW
  obtain ⟨i0, hi, hz0, hz1, hz2⟩ := info_parts ev_info
  have HC := Lib.hid hcr
  obtain ⟨ns, hns⟩ : ∃ ns : Nat, c.slots = (ns : Int) := ⟨c.slots.toNat, by have := hcr; simp [Conf.Cf.right, Conf.btw] at this; omega⟩
  have hns16 : 1 ≤ ns ∧ ns ≤ 16 := by have := hcr; simp [Conf.Cf.right, Conf.btw] at this; omega
  have ho4 := own_new c hcr
  have HNS := Lib.hid hns
  have hmk := fun w => mk_ints ns hns16.1 hns16.2 w
  have e1 : w4.cell? ⟨cb, 1, none⟩ = some (.int .i64 ns) := by rw [← hns]; exact row4.cell 1
  have hrn : c.slots.toNat = ns := by rw [hns]; simp
  rw [hrn] at ho4
  clear hcr hns
  have hbg : Below w4.heap.size w4 (w4.alloc (.cells (zerosI ns) 3)) := (Below.refl _ _).alloc (Nat.le_refl _) _
  have e2 : (w4.alloc (.cells (zerosI ns) 3)).cell? ⟨cb, 1, none⟩ = some (.int .i64 ns) := by rw [← HNS.out]; exact (row4.below hbg).cell 1
  go_upto_region 11 with (fail)
  have g5 : RowI (w4.alloc (.cells (zerosI ns) 3)) w4.heap.size (List.replicate ns 0) := RowAt.new _ _ _
  have hbu : Below (w4.alloc (.cells (zerosI ns) 3)).heap.size (w4.alloc (.cells (zerosI ns) 3)) ((w4.alloc (.cells (zerosI ns) 3)).alloc (.cells (zerosI ns) 3)) := (Below.refl _ _).alloc (Nat.le_refl _) _
  have u5 : RowI ((w4.alloc (.cells (zerosI ns) 3)).alloc (.cells (zerosI ns) 3)) (w4.alloc (.cells (zerosI ns) 3)).heap.size (List.replicate ns 0) := RowAt.new _ _ _
  have hsz1 : (w4.alloc (.cells (zerosI ns) 3)).heap.size = w4.heap.size + 1 := by simp
  rw [hsz1] at u5
  have hbb := hbg.trans (hbu.mono hbg.size)
  have g6 := RowAt.below g5 hbu
  obtain ⟨K0, hB5, hKo, hKn⟩ := hB4.keepX hbb
  have hgl : w4.heap.size < ((w4.alloc (.cells (zerosI ns) 3)).alloc (.cells (zerosI ns) 3)).heap.size := RowAt.lt g6
  have hul : w4.heap.size + 1 < ((w4.alloc (.cells (zerosI ns) 3)).alloc (.cells (zerosI ns) 3)).heap.size := RowAt.lt u5
  have hB6 := hB5.less (K' := fun j => j = cb ∨ j = w4.heap.size ∨ j = w4.heap.size + 1) (fun j hj => by
    rcases hj with rfl | rfl | rfl
    · exact hKo _ rfl
    · exact hKn _ (Nat.le_refl _) hgl
    · exact hKn _ (by omega) hul)
  have row6 := row4.below hbb
  have hWg : W.heap.size ≤ w4.heap.size := hB4.below.size
  generalize (w4.alloc (.cells (zerosI ns) 3)).alloc (.cells (zerosI ns) 3) = w6 at *
  have hcg : cb < w4.heap.size := row4.lt
  have hug : w4.heap.size ≠ w4.heap.size + 1 := by omega
  have hWu : W.heap.size ≤ w4.heap.size + 1 := by omega
  have hcu : cb ≠ w4.heap.size + 1 := by omega
  have hcg' : cb ≠ w4.heap.size := by omega
  clear hmk e1 e2 hrn hbg g5 hbu hsz1 hbb hB5 hKo hKn hgl hul hB4 row4
  generalize w4.heap.size + 1 = ub at *
  generalize w4.heap.size = gb at *
  clear hcg
  go_wp2_with fail
  go_loopw [9, 12] (fun ev i wr => ∃ k : Nat, k ≤ l.length ∧ i = .int .i64 k ∧ ∃ q m evs ws gs, PlayB W (fun j => j = cb ∨ j = gb ∨ j = ub) mb ev wr q m evs ∧ Few k evs ∧ Inv m ∧ m.cf = c ∧ RowAt wr cb c.cells 23 ∧ RowI wr gb gs ∧ RowI wr ub ws ∧ OwnI m ws gs k) (fun _ i _ => l.length - (intOf i).toNat)
  case atStart => exact ⟨0, by omega, rfl, p, _, _, _, _, hB6, ⟨by simp⟩, hInv, rfl, row6, g6, u5, ho4⟩
  case round =>
    rename_i wr
    clear hB6 hInv row6 g6 u5 ho4
    obtain ⟨k, hk, rfl, q, m, evs, ws, gs, hB, hran, hI, hcm, hrow, hgs, hus, hown⟩ := hrel
    by_cases hlt : k < l.length
    · obtain ⟨t, ht⟩ : ∃ t, l[k]? = some t := ⟨_, List.getElem?_eq_getElem hlt⟩
      have hTw := HL.out.below hB.below
      obtain ⟨a', cp', he, htok, hT⟩ := hTw
      have hto : t.ok := htok t (List.mem_of_getElem? ht)
      clear htok
      cases he
      rcases hT with hT | ⟨g, off, rfl, hT⟩
      · subst hT; simp at hlt
      obtain ⟨tk, tw, tp, ts, tg, tn⟩ := t
      have hg : g < wr.heap.size := World.block_lt_of_cell? _ _ (hT k _ ht 0 _ rfl)
      have hcell : ∀ w', Below wr.heap.size wr w' → ∀ j u, (⟨tk, tw, tp, ts, tg, tn⟩ : Tn).cells[j]? = some u → w'.cell? ⟨g, off + k * 6 + j, none⟩ = some u := fun w' hb j u hu => (World.cell?_of_block (w := wr) (hb.block g hg)).trans (hT k _ ht j u hu)
      have hcrow : ∀ w', Below wr.heap.size wr w' → RowAt w' cb #[.int .i64 c.workers, .int .i64 c.slots, .int .i64 c.streams, .int .i64 c.waiters, .int .i64 c.uses] 23 := fun w' hb => hrow.below hb
      have hent : ∀ w', Below wr.heap.size wr w' → Calls Tryz.prog 21 #[.agg #[.int .u8 tk, .int .u8 tw, .int .u8 tp, .int .u8 ts, .int .u8 tg, .int .u8 tn], .agg #[.int .i64 c.workers, .int .i64 c.slots, .int .i64 c.streams, .int .i64 c.waiters, .int .i64 c.uses], u9] w' (EntryP w') := fun w' hb =>
        entry_any w' tk tw tp ts tg tn hto.1 hto.2.1 hto.2.2.1 hto.2.2.2.1 hto.2.2.2.2.1 hto.2.2.2.2.2 c HC.out u9 evs (by have := hran.len; omega) (hB.evs.stable hb.size (fun j hj => hb.block j (hB.evs.lt hj)))
      have HT := Lib.hid hT
      have b0 : (0 : Int) ≤ (k : Int) := by omega
      have b1 : (k : Int) < (l.length : Int) := by omega
      have b2 : (k : Int) ≤ (l.length : Int) - 1 := by omega
      clear hT
      go_upto_region 14 with (fail)
      go_cut [13] from 49 to 261 (fun s9 wx => (∃ eb : Nat, s9 = .pointer (some ⟨eb, 0, none⟩) ∧ wr.heap.size ≤ eb ∧ ∃ x : En, RowAt wx eb x.cells 54 ∧ x.ok) ∧ Below wr.heap.size wr wx)
      case first =>
        rename_i JJ KK hJJ hKK
        refine wp_region_held_drew (S := fun w' => Below wr.heap.size wr w') (by kernel_rfl) (by exact (Below.refl _ _).drew) (fun hHeld => ?_)
        refine takeg (i := 0) (d := some 55) (v := ?_) (by kernel_rfl) (by kernel_rfl) (by kernel_rfl) (by kernel_rfl) (fun _ _ _ h => h) (by kernel_rfl) ?_ hHeld ?_
        rotate_left
        · intro w hSw
          try dsimp only at hSw
          go_simp
          try with_reducible rfl
        try simp only [Act.put, List.setIfInBounds_toArray, List.set_cons_zero, List.set_cons_succ]
        refine takeg (i := 1) (d := some 56) (v := ?_) (by kernel_rfl) (by kernel_rfl) (by kernel_rfl) (by kernel_rfl) (fun _ _ _ h => h) (by kernel_rfl) ?_ hHeld ?_
        rotate_left
        · intro w hSw
          try dsimp only at hSw
          go_simp
          try with_reducible rfl
        try simp only [Act.put, List.setIfInBounds_toArray, List.set_cons_zero, List.set_cons_succ]
        refine takeg (i := 2) (d := some 57) (v := ?_) (by kernel_rfl) (by kernel_rfl) (by kernel_rfl) (by kernel_rfl) (fun _ _ _ h => h) (by kernel_rfl) ?_ hHeld ?_
        rotate_left
        · intro w hSw
          try dsimp only at hSw
          go_simp
          try with_reducible rfl
        try simp only [Act.put, List.setIfInBounds_toArray, List.set_cons_zero, List.set_cons_succ]
        refine takeg (i := 3) (d := some 58) (v := ?_) (by kernel_rfl) (by kernel_rfl) (by kernel_rfl) (by kernel_rfl) (fun _ _ _ h => h) (by kernel_rfl) ?_ hHeld ?_
        rotate_left
        · intro w hSw
          try dsimp only at hSw
          have c0 : w.cell? ⟨g, off + k * 6, none⟩ = some (.int .u8 tk) := hcell w hSw 0 _ rfl
          have c1 : w.cell? ⟨g, off + k * 6 + 1, none⟩ = some (.int .u8 tw) := hcell w hSw 1 _ rfl
          have c2 : w.cell? ⟨g, off + k * 6 + 2, none⟩ = some (.int .u8 tp) := hcell w hSw 2 _ rfl
          have c3 : w.cell? ⟨g, off + k * 6 + 3, none⟩ = some (.int .u8 ts) := hcell w hSw 3 _ rfl
          have c4 : w.cell? ⟨g, off + k * 6 + 4, none⟩ = some (.int .u8 tg) := hcell w hSw 4 _ rfl
          have c5 : w.cell? ⟨g, off + k * 6 + 5, none⟩ = some (.int .u8 tn) := hcell w hSw 5 _ rfl
          go_simp
          try with_reducible rfl
        try simp only [Act.put, List.setIfInBounds_toArray, List.set_cons_zero, List.set_cons_succ]
        refine takeg (i := 4) (d := some 59) (v := ?_) (by kernel_rfl) (by kernel_rfl) (by kernel_rfl) (by kernel_rfl) (fun _ _ _ h => h) (by kernel_rfl) ?_ hHeld ?_
        rotate_left
        · intro w hSw
          try dsimp only at hSw
          have c0 : w.cell? ⟨cb, 0, none⟩ = some (.int .i64 c.workers) := (hcrow w hSw).cell 0
          have c1 : w.cell? ⟨cb, 1, none⟩ = some (.int .i64 c.slots) := (hcrow w hSw).cell 1
          have c2 : w.cell? ⟨cb, 2, none⟩ = some (.int .i64 c.streams) := (hcrow w hSw).cell 2
          have c3 : w.cell? ⟨cb, 3, none⟩ = some (.int .i64 c.waiters) := (hcrow w hSw).cell 3
          have c4 : w.cell? ⟨cb, 4, none⟩ = some (.int .i64 c.uses) := (hcrow w hSw).cell 4
          go_simp
          try with_reducible rfl
        try simp only [Act.put, List.setIfInBounds_toArray, List.set_cons_zero, List.set_cons_succ]
        refine takeg (i := 5) (d := some 60) (v := ?_) (by kernel_rfl) (by kernel_rfl) (by kernel_rfl) (by kernel_rfl) (fun _ _ _ h => h) (by kernel_rfl) ?_ hHeld ?_
        rotate_left
        · intro w hSw
          try dsimp only at hSw
          go_simp
          try with_reducible rfl
        try simp only [Act.put, List.setIfInBounds_toArray, List.set_cons_zero, List.set_cons_succ]
        refine ready2 (i := 6) (k := 7) (by kernel_rfl) ?_ ?_
        · refine step_call 21 #[.tmp 58, .tmp 59, .tmp 60] #[57, 23, 52] (some 61) none (by kernel_rfl) (by kernel_rfl) #[.agg #[.int .u8 tk, .int .u8 tw, .int .u8 tp, .int .u8 ts, .int .u8 tg, .int .u8 tn], .agg #[.int .i64 c.workers, .int .i64 c.slots, .int .i64 c.streams, .int .i64 c.waiters, .int .i64 c.uses], u9] (by go_simp; try rfl) (enters_of Tryz.func21 (by kernel_rfl) rfl) ?_
          refine (hent _ hHeld).mono ?_
          rintro e w2 ⟨x, rfl, hx, hb2⟩
          have hb2' : Below wr.heap.size wr w2 := hHeld.trans (hb2.mono hHeld.size)
          refine ⟨_, rfl, hb2', fun hH2 => ?_⟩
          try simp only [Act.put, List.setIfInBounds_toArray, List.set_cons_zero, List.set_cons_succ]
          have hb3 : Below wr.heap.size wr (w2.alloc (.cells #[.int .i64 0, .int .i64 0, .int .i64 0, .int .i64 0, .bool false, .bool false, .int .i64 0, .int .i64 0, .int .i64 0, .int .i64 0, .bool false] 54)) := hb2'.alloc hb2'.size _
          refine ready1 (i := 7) (by kernel_rfl) (step_run (w' := w2.alloc (.cells #[.int .i64 0, .int .i64 0, .int .i64 0, .int .i64 0, .bool false, .bool false, .int .i64 0, .int .i64 0, .int .i64 0, .int .i64 0, .bool false] 54)) (some 13) (.pointer (some ⟨w2.heap.size, 0, none⟩)) (by kernel_rfl) (by kernel_rfl) (by go_simp; try rfl) hb3 (fun _ => ?_))
          try simp only [Act.put, List.setIfInBounds_toArray, List.set_cons_zero, List.set_cons_succ]
          have rz := RowAt.new w2 #[.int .i64 0, .int .i64 0, .int .i64 0, .int .i64 0, .bool false, .bool false, .int .i64 0, .int .i64 0, .int .i64 0, .int .i64 0, .bool false] 54
          have hb4 : Below wr.heap.size wr ((w2.alloc (.cells #[.int .i64 0, .int .i64 0, .int .i64 0, .int .i64 0, .bool false, .bool false, .int .i64 0, .int .i64 0, .int .i64 0, .int .i64 0, .bool false] 54)).setRow w2.heap.size x.cells) := below_setRow hb3 hb2'.size _
          have rx := rz.set x.cells
          refine ready1 (i := 8) (by kernel_rfl) (step_store_row 54 (.tmp 13) (.tmp 61) (by kernel_rfl) w2.heap.size 54 #[.int .i64 0, .int .i64 0, .int .i64 0, .int .i64 0, .bool false, .bool false, .int .i64 0, .int .i64 0, .int .i64 0, .int .i64 0, .bool false] x.cells rfl rfl rz rfl (by kernel_rfl) (by simp [En.cells, Value.oneCell']) hb4 (fun _ => ?_))
          try simp only [Act.put, List.setIfInBounds_toArray, List.set_cons_zero, List.set_cons_succ]
          refine wpAnyH_done (by kernel_rfl) ?_ _
          refine hKK _ _ (Met.intro (hJJ _ _ ?_))
          (repeat apply Exists.intro)
          refine ⟨?rel, rfl⟩
          case rel => exact ⟨⟨w2.heap.size, rfl, hb2'.size, x, rx, hx⟩, hb4⟩
        · have hb3 : Below wr.heap.size wr (wr.drew.alloc (.cells #[.int .i64 0, .int .i64 0, .int .i64 0, .int .i64 0, .bool false, .bool false, .int .i64 0, .int .i64 0, .int .i64 0, .int .i64 0, .bool false] 54)) := hHeld.alloc hHeld.size _
          refine step_run (w' := wr.drew.alloc (.cells #[.int .i64 0, .int .i64 0, .int .i64 0, .int .i64 0, .bool false, .bool false, .int .i64 0, .int .i64 0, .int .i64 0, .int .i64 0, .bool false] 54)) (some 13) (.pointer (some ⟨wr.heap.size, 0, none⟩)) (by kernel_rfl) (by kernel_rfl) (by go_simp; try rfl) hb3 (fun _ => ?_)
          try simp only [Act.put, List.setIfInBounds_toArray, List.set_cons_zero, List.set_cons_succ]
          have rz := RowAt.new wr.drew #[.int .i64 0, .int .i64 0, .int .i64 0, .int .i64 0, .bool false, .bool false, .int .i64 0, .int .i64 0, .int .i64 0, .int .i64 0, .bool false] 54
          refine ready1 (i := 6) (by kernel_rfl) ?_
          refine step_call 21 #[.tmp 58, .tmp 59, .tmp 60] #[57, 23, 52] (some 61) none (by kernel_rfl) (by kernel_rfl) #[.agg #[.int .u8 tk, .int .u8 tw, .int .u8 tp, .int .u8 ts, .int .u8 tg, .int .u8 tn], .agg #[.int .i64 c.workers, .int .i64 c.slots, .int .i64 c.streams, .int .i64 c.waiters, .int .i64 c.uses], u9] (by go_simp; try rfl) (enters_of Tryz.func21 (by kernel_rfl) rfl) ?_
          refine (hent _ hb3).mono ?_
          rintro e w2 ⟨x, rfl, hx, hb2⟩
          have hb2' : Below wr.heap.size wr w2 := hb3.trans (hb2.mono hb3.size)
          refine ⟨_, rfl, hb2', fun hH2 => ?_⟩
          try simp only [Act.put, List.setIfInBounds_toArray, List.set_cons_zero, List.set_cons_succ]
          have rz2 : RowAt w2 wr.heap.size #[.int .i64 0, .int .i64 0, .int .i64 0, .int .i64 0, .bool false, .bool false, .int .i64 0, .int .i64 0, .int .i64 0, .int .i64 0, .bool false] 54 := rz.below hb2
          have hb4 : Below wr.heap.size wr (w2.setRow wr.heap.size x.cells) := below_setRow hb2' (Nat.le_refl _) _
          have rx := rz2.set x.cells
          refine ready1 (i := 8) (by kernel_rfl) (step_store_row 54 (.tmp 13) (.tmp 61) (by kernel_rfl) wr.heap.size 54 #[.int .i64 0, .int .i64 0, .int .i64 0, .int .i64 0, .bool false, .bool false, .int .i64 0, .int .i64 0, .int .i64 0, .int .i64 0, .bool false] x.cells rfl rfl rz2 rfl (by kernel_rfl) (by simp [En.cells, Value.oneCell']) hb4 (fun _ => ?_))
          try simp only [Act.put, List.setIfInBounds_toArray, List.set_cons_zero, List.set_cons_succ]
          refine wpAnyH_done (by kernel_rfl) ?_ _
          refine hKK _ _ (Met.intro (hJJ _ _ ?_))
          (repeat apply Exists.intro)
          refine ⟨?rel, rfl⟩
          case rel => exact ⟨⟨wr.heap.size, rfl, Nat.le_refl _, x, rx, hx⟩, hb4⟩
      case rest =>
        obtain ⟨⟨eb, rfl, heb, x, rx, hx⟩, hb8⟩ := hcut
        generalize wc = w8 at *
        have hB8 := hB.below' hb8
        have hrow8 := hrow.below hb8
        obtain ⟨xk, xw, ⟨op, dl, wt, fo, sl, ge, st⟩, xn, xg⟩ := x
        simp only [En.cells] at rx
        obtain ⟨K1, hB8, hKo1, hKn1⟩ := hB.keepX hb8
        have hKc : K1 cb := hKo1 _ (.inl rfl)
        have hKg : K1 gb := hKo1 _ (.inr (.inl rfl))
        have hKu : K1 ub := hKo1 _ (.inr (.inr rfl))
        have hgs8 := RowAt.below hgs hb8
        have hus8 := RowAt.below hus hb8
        clear hcell hcrow hent hKo1 hKn1
        have hB9 := hB8
        have hrow9 := hrow8
        have hw9 : w8 = w8 := rfl
        generalize w8 = w9 at *
        clear hB8 hrow8 hB hrow hgs hus hb8 hw9
        have e0 : w9.cell? ⟨eb, 0, none⟩ = some (.int .i64 xk) := rx.cell 0
        obtain ⟨ea, ec, hev⟩ := hB9.evs.form
        subst hev
        go_upto_block 2 with (fail)
        clear e0
        go_cut [9, 15, 16, 17, 18, 19] from 49 to 261 (fun s9 s15 s16 s17 s18 s19 wx => ∃ z : En, z.ok ∧ (z.kind = 0 ∨ z.kind = 1 ∨ z.kind = 9) ∧ Sw W K1 mb w9 m evs z s9 wx)
        case first =>
          by_cases hk0 : xk = 0
          · as_aux_lemma =>
              subst hk0
              have hm := m_ask hB9.at' xw ⟨op, dl, wt, fo, sl, ge, st⟩
              rw [hB9.mb] at hm
              have hen : m.entry ⟨0, xw, ⟨op, dl, wt, fo, sl, ge, st⟩, xn, xg⟩ = (if (m.ask xw ⟨op, dl, wt, fo, sl, ge, st⟩).1.2.1 then some (m.ask xw ⟨op, dl, wt, fo, sl, ge, st⟩).1.1 else none, (m.ask xw ⟨op, dl, wt, fo, sl, ge, st⟩).2) := by simp [M.entry]
              generalize m.ask xw ⟨op, dl, wt, fo, sl, ge, st⟩ = r at hm hen
              obtain ⟨⟨y, yb, yc⟩, m2⟩ := r
              simp only at hen
              have HEN := Lib.hid hen
              clear hen
              have e1 : w9.cell? ⟨eb, 1, none⟩ = some (.int .i64 xw) := rx.cell 1
              have e2 : w9.cell? ⟨eb, 2, none⟩ = some (.int .i64 op) := rx.cell 2
              have e3 : w9.cell? ⟨eb, 3, none⟩ = some (.int .i64 dl) := rx.cell 3
              have e4 : w9.cell? ⟨eb, 4, none⟩ = some (.bool wt) := rx.cell 4
              have e5 : w9.cell? ⟨eb, 5, none⟩ = some (.bool fo) := rx.cell 5
              have e6 : w9.cell? ⟨eb, 6, none⟩ = some (.int .i64 sl) := rx.cell 6
              have e7 : w9.cell? ⟨eb, 7, none⟩ = some (.int .i64 ge) := rx.cell 7
              have e8 : w9.cell? ⟨eb, 8, none⟩ = some (.int .i64 st) := rx.cell 8
              go_wp2_with fail
              refine hm.mono ?_
              intro e w10 hpost
              obtain ⟨rfl, p2, hB2, hS2⟩ := hB9.post hpost
              clear hpost hm e1 e2 e3 e4 e5 e6 e7 e8
              have rz := RowAt.new w10 #[.bool false, .int .i64 0, .int .i64 0, .int .i64 0, .int .i64 0, .bool false, .bool false, .int .i64 0, .int .i64 0, .int .i64 0, .int .i64 0, .int .i64 0, .int .i64 0, .int .i64 0, .int .i64 0, .int .i64 0, .int .i64 0, .int .i64 0] 36
              have hst := ev_store rz rfl y
              have hsz := ev_size y
              have rw2 := rz.set y.cells
              have hb11 : Below w10.heap.size w10 ((w10.alloc (.cells #[.bool false, .int .i64 0, .int .i64 0, .int .i64 0, .int .i64 0, .bool false, .bool false, .int .i64 0, .int .i64 0, .int .i64 0, .int .i64 0, .int .i64 0, .int .i64 0, .int .i64 0, .int .i64 0, .int .i64 0, .int .i64 0, .int .i64 0] 36)).setRow w10.heap.size y.cells) := below_setRow ((Below.refl _ _).alloc (Nat.le_refl _) _) (Nat.le_refl _) _
              have hB3 := hB2.below' hb11
              have hS3 := hS2.trans (hB2.same hb11)
              cases yb
              · have hSw : Sw W K1 mb w9 m evs ⟨0, xw, ⟨op, dl, wt, fo, sl, ge, st⟩, xn, xg⟩ (.slice ea evs.length ec) ((w10.alloc (.cells #[.bool false, .int .i64 0, .int .i64 0, .int .i64 0, .int .i64 0, .bool false, .bool false, .int .i64 0, .int .i64 0, .int .i64 0, .int .i64 0, .int .i64 0, .int .i64 0, .int .i64 0, .int .i64 0, .int .i64 0, .int .i64 0, .int .i64 0] 36)).setRow w10.heap.size y.cells) := Sw.none (by simpa using HEN.out) hB3 hS3
                clear HEN
                go_wp2_with fail
                go_meet
                case rel => exact ⟨_, hx, by simp, hSw⟩
              · go_upto_region 20 with (fail)
                generalize (w10.alloc (.cells #[.bool false, .int .i64 0, .int .i64 0, .int .i64 0, .int .i64 0, .bool false, .bool false, .int .i64 0, .int .i64 0, .int .i64 0, .int .i64 0, .int .i64 0, .int .i64 0, .int .i64 0, .int .i64 0, .int .i64 0, .int .i64 0, .int .i64 0] 36)).setRow w10.heap.size y.cells = w11 at *
                generalize w10.heap.size = ab at *
                have hown := OwnS.alloc hB3.evs (.cells y.cells 36)
                refine wp_region_lit ?_
                refine wpList_run rfl (.slice ea evs.length ec) (by go_simp; try rfl) ?_
                refine RowL.wpList_load_row rfl 36 (.tmp 15) rfl ab _ y.cells _ rfl rw2 Tryz.underlying36 rfl (by kernel_rfl) ?_
                refine wpList_build_ev rfl (.tmp 80) rfl y rfl ?_
                refine Hp.wpList_append _ rfl (.tmp 79) (.tmp 81) 52 rfl 36 i0 Ev.zero.val 18 136 Tryz.underlying52 hi hz0 hz1 hz2 rfl (by decide) (.slice ea evs.length ec) evs.length (flatE evs) rfl hown ⟨w11.heap.size, 0, none⟩ 1 1 y.cells.toList rfl rfl (ev_new w11 y) (ev_ones y) ?c3 ?c4 ?_
                case c3 => have := hran.len; unfold maxLen; omega
                case c4 => have := hran.len; omega
                intro a' cn w13 hown' hfp hch
                have hb12 : Below w11.heap.size w11 (w11.alloc (.cells y.cells 36)) := (Below.refl _ _).alloc (Nat.le_refl _) _
                have hB12 := hB3.below' hb12
                obtain ⟨hB5, hS5⟩ := hB12.append hown' hfp hch
                have hSw : Sw W K1 mb w9 m evs ⟨0, xw, ⟨op, dl, wt, fo, sl, ge, st⟩, xn, xg⟩ (.slice a' (evs.length + 1) cn) w13 := Sw.some (by simpa using HEN.out) hB5 (hS3.trans ((hB3.same hb12).trans hS5))
                clear HEN hown' hfp hch hB12 hown hb12
                go_wp2_with fail
                go_meet
                case rel => exact ⟨_, hx, by simp, hSw⟩
          by_cases hk1 : xk = 1
          · as_aux_lemma =>
              subst hk1
              have hm := m_wake hB9.at' xw
              rw [hB9.mb] at hm
              have hen : m.entry ⟨1, xw, ⟨op, dl, wt, fo, sl, ge, st⟩, xn, xg⟩ = (if (m.wake xw).1.2 then some (m.wake xw).1.1 else none, (m.wake xw).2) := by simp [M.entry]
              generalize m.wake xw = r at hm hen
              obtain ⟨⟨y, yb⟩, m2⟩ := r
              simp only at hen
              have HEN := Lib.hid hen
              clear hen
              have e1 : w9.cell? ⟨eb, 1, none⟩ = some (.int .i64 xw) := rx.cell 1
              go_wp2_with fail
              refine hm.mono ?_
              intro e w10 hpost
              obtain ⟨rfl, p2, hB2, hS2⟩ := hB9.post hpost
              clear hpost hm e1
              have rz := RowAt.new w10 #[.bool false, .int .i64 0, .int .i64 0, .int .i64 0, .int .i64 0, .bool false, .bool false, .int .i64 0, .int .i64 0, .int .i64 0, .int .i64 0, .int .i64 0, .int .i64 0, .int .i64 0, .int .i64 0, .int .i64 0, .int .i64 0, .int .i64 0] 36
              have hst := ev_store rz rfl y
              have hsz := ev_size y
              have rw2 := rz.set y.cells
              have hb11 : Below w10.heap.size w10 ((w10.alloc (.cells #[.bool false, .int .i64 0, .int .i64 0, .int .i64 0, .int .i64 0, .bool false, .bool false, .int .i64 0, .int .i64 0, .int .i64 0, .int .i64 0, .int .i64 0, .int .i64 0, .int .i64 0, .int .i64 0, .int .i64 0, .int .i64 0, .int .i64 0] 36)).setRow w10.heap.size y.cells) := below_setRow ((Below.refl _ _).alloc (Nat.le_refl _) _) (Nat.le_refl _) _
              have hB3 := hB2.below' hb11
              have hS3 := hS2.trans (hB2.same hb11)
              cases yb
              · have hSw : Sw W K1 mb w9 m evs ⟨1, xw, ⟨op, dl, wt, fo, sl, ge, st⟩, xn, xg⟩ (.slice ea evs.length ec) ((w10.alloc (.cells #[.bool false, .int .i64 0, .int .i64 0, .int .i64 0, .int .i64 0, .bool false, .bool false, .int .i64 0, .int .i64 0, .int .i64 0, .int .i64 0, .int .i64 0, .int .i64 0, .int .i64 0, .int .i64 0, .int .i64 0, .int .i64 0, .int .i64 0] 36)).setRow w10.heap.size y.cells) := Sw.none (by simpa using HEN.out) hB3 hS3
                clear HEN
                go_wp2_with fail
                go_meet
                case rel => exact ⟨_, hx, by simp, hSw⟩
              · go_upto_region 24 with (fail)
                generalize (w10.alloc (.cells #[.bool false, .int .i64 0, .int .i64 0, .int .i64 0, .int .i64 0, .bool false, .bool false, .int .i64 0, .int .i64 0, .int .i64 0, .int .i64 0, .int .i64 0, .int .i64 0, .int .i64 0, .int .i64 0, .int .i64 0, .int .i64 0, .int .i64 0] 36)).setRow w10.heap.size y.cells = w11 at *
                generalize w10.heap.size = ab at *
                have hown := OwnS.alloc hB3.evs (.cells y.cells 36)
                refine wp_region_lit ?_
                refine wpList_run rfl (.slice ea evs.length ec) (by go_simp; try rfl) ?_
                refine RowL.wpList_load_row rfl 36 (.tmp 18) rfl ab _ y.cells _ rfl rw2 Tryz.underlying36 rfl (by kernel_rfl) ?_
                refine wpList_build_ev rfl (.tmp 94) rfl y rfl ?_
                refine Hp.wpList_append _ rfl (.tmp 93) (.tmp 95) 52 rfl 36 i0 Ev.zero.val 18 136 Tryz.underlying52 hi hz0 hz1 hz2 rfl (by decide) (.slice ea evs.length ec) evs.length (flatE evs) rfl hown ⟨w11.heap.size, 0, none⟩ 1 1 y.cells.toList rfl rfl (ev_new w11 y) (ev_ones y) ?c3 ?c4 ?_
                case c3 => have := hran.len; unfold maxLen; omega
                case c4 => have := hran.len; omega
                intro a' cn w13 hown' hfp hch
                have hb12 : Below w11.heap.size w11 (w11.alloc (.cells y.cells 36)) := (Below.refl _ _).alloc (Nat.le_refl _) _
                have hB12 := hB3.below' hb12
                obtain ⟨hB5, hS5⟩ := hB12.append hown' hfp hch
                have hSw : Sw W K1 mb w9 m evs ⟨1, xw, ⟨op, dl, wt, fo, sl, ge, st⟩, xn, xg⟩ (.slice a' (evs.length + 1) cn) w13 := Sw.some (by simpa using HEN.out) hB5 (hS3.trans ((hB3.same hb12).trans hS5))
                clear HEN hown' hfp hch hB12 hown hb12
                go_wp2_with fail
                go_meet
                case rel => exact ⟨_, hx, by simp, hSw⟩
          · as_aux_lemma =>
              have k0 : (xk == 0) = false := by simpa using hk0
              have k1 : (xk == 1) = false := by simpa using hk1
              have hSw : Sw W K1 mb w9 m evs ⟨9, xw, ⟨op, dl, wt, fo, sl, ge, st⟩, xn, xg⟩ (.slice ea evs.length ec) w9 := Sw.none (by simp [M.entry]) hB9 (Same.refl _ _)
              clear hk0 hk1
              go_wp2_with fail
              go_meet
              case rel => exact ⟨⟨9, xw, ⟨op, dl, wt, fo, sl, ge, st⟩, xn, xg⟩, hx, by simp, hSw⟩
        case rest =>
          obtain ⟨z, hz, hzk, p12, hB12, hS12⟩ := hcut
          generalize wc = w12 at *
          have hrow12 := RowAt.same hrow9 hS12 hKc
          have hgs12 : RowI w12 gb gs := RowAt.same hgs8 hS12 hKg
          have hus12 : RowI w12 ub ws := RowAt.same hus8 hS12 hKu
          have hE := own_entry hI hown (by omega) hz hzk
          have hwho := fun y => entry_who hI.toMid (z := z) (y := y)
          have hI2 := hI.entry hz
          have hcf2 := (entry_cf m z).trans hcm
          have hms : (m.ss.length : Int) = ns := by have := hB9.at'.ok.nss; rw [hcm, HNS.out] at this; exact this
          have hlen := hran.len
          have hlw := hown.lw
          have hlg := hown.lg
          generalize m.entry z = r at *
          obtain ⟨o2, m2⟩ := r
          simp only at hB12 hI2 hcf2 hE hwho
          obtain ⟨ea2, ec2, hev2⟩ := hB12.evs.form
          subst hev2
          have hti := told_len evs o2
          have hst0 : (told evs o2).length = evs.length → OwnI m2 ws gs (k + 1) := fun h => by
            cases o2 with
            | none => exact hE.1 rfl
            | some y => simp [told] at h
          have hst1 : ∀ y, (told evs o2)[evs.length]? = some y → OwnE m m2 ws gs k y ∧ 0 ≤ y.who ∧ y.who ≤ 8 := fun y h => by
            cases o2 with
            | none => simp [told] at h
            | some y' => simp [told] at h; subst h; exact ⟨hE.2 _ rfl, hwho _ rfl⟩
          have hge : evs.length ≤ (told evs o2).length := by simp [told]
          generalize hT : told evs o2 = T at *
          have HT := Lib.hid hT
          have HS0 := Lib.hid hst0
          have HS1 := Lib.hid hst1
          have HI2 := Lib.hid hI2
          have HCF2 := Lib.hid hcf2
          have HLW := Lib.hid hlw
          have HLG := Lib.hid hlg
          have HMS := Lib.hid hms
          clear hT hst0 hst1 hI2 hcf2 hE hwho hlw hlg hms hB9 hrow9 hgs8 hus8 rx hS12 hI hown hz hzk
          go_upto_block 3 with (fail)
          go_cut [20, 21] from 49 to 261 (fun s20 s21 wx => ∃ ws' gs', PlayB W K1 mb (.slice ea2 T.length ec2) wx p12 m2 T ∧ RowAt wx cb c.cells 23 ∧ RowI wx gb gs' ∧ RowI wx ub ws' ∧ OwnI m2 ws' gs' (k + 1))
          case first =>
            as_aux_lemma =>
              go_wp2_with fail
              go_loopw [20] (fun js wr => ∃ w', w' = wr ∧ ∃ j : Nat, evs.length ≤ j ∧ j ≤ T.length ∧ js = .int .i64 j ∧ ∃ ws' gs', PlayB W K1 mb (.slice ea2 T.length ec2) w' p12 m2 T ∧ RowAt w' cb c.cells 23 ∧ RowI w' gb gs' ∧ RowI w' ub ws' ∧ (j = evs.length → ws' = ws ∧ gs' = gs) ∧ (j = T.length → OwnI m2 ws' gs' (k + 1))) (fun js _ => T.length - (intOf js).toNat)
              case atStart => exact ⟨_, rfl, evs.length, by omega, hge, rfl, ws, gs, hB12, hrow12, hgs12, hus12, fun _ => ⟨rfl, rfl⟩, fun h => HS0.out h.symm⟩
              case round =>
                obtain ⟨wr2, rfl, j, hj0, hj, rfl, ws', gs', hB, hrow, hgs, hus, hsame, hdone⟩ := hrel
                have j0 : (0 : Int) ≤ (j : Int) := by omega
                clear hB12 hrow12 hgs12 hus12
                by_cases hjl : j < T.length
                · have hje : j = evs.length := by omega
                  subst hje
                  obtain ⟨rfl, rfl⟩ := hsame rfl
                  obtain ⟨y, hy⟩ : ∃ y, T[evs.length]? = some y := ⟨_, List.getElem?_eq_getElem hjl⟩
                  obtain ⟨⟨hok, hO2⟩, hwh⟩ := HS1.out y hy
                  obtain ⟨eg, eo, rfl, hrg⟩ := ev_range hB.evs hy
                  have hTl : T.length = evs.length + 1 := by have := HT.out; omega
                  have HOK := Lib.hid hok
                  have HO2 := Lib.hid hO2
                  have HTL := Lib.hid hTl
                  have hulb : ub < wr2.heap.size := RowAt.lt hus
                  have hglb : gb < wr2.heap.size := RowAt.lt hgs
                  have n1 : ((evs.length : Nat) : Int) < (T.length : Int) := by omega
                  have n2 : ((evs.length : Nat) : Int) ≤ (T.length : Int) - 1 := by omega
                  have rz := RowAt.new wr2 #[.bool false, .int .i64 0, .int .i64 0, .int .i64 0, .int .i64 0, .bool false, .bool false, .int .i64 0, .int .i64 0, .int .i64 0, .int .i64 0, .int .i64 0, .int .i64 0, .int .i64 0, .int .i64 0, .int .i64 0, .int .i64 0, .int .i64 0] 36
                  have hst := ev_store rz rfl y
                  have hsz := ev_size y
                  have rw2 := rz.set y.cells
                  have hb11 : Below wr2.heap.size wr2 ((wr2.alloc (.cells #[.bool false, .int .i64 0, .int .i64 0, .int .i64 0, .int .i64 0, .bool false, .bool false, .int .i64 0, .int .i64 0, .int .i64 0, .int .i64 0, .int .i64 0, .int .i64 0, .int .i64 0, .int .i64 0, .int .i64 0, .int .i64 0, .int .i64 0] 36)).setRow wr2.heap.size y.cells) := below_setRow ((Below.refl _ _).alloc (Nat.le_refl _) _) (Nat.le_refl _) _
                  have hB7 := hB.below' hb11
                  have hrow7 := hrow.below hb11
                  have hgs7 : RowI _ gb gs' := RowAt.below hgs hb11
                  have hus7 : RowI _ ub ws' := RowAt.below hus hb11
                  clear hy hok hO2 hTl hsame hdone rz hB hrow hgs hus hb11
                  go_upto_region 29 with (refine wpList_load_mid rfl 36 (.tmp 106) rfl eg (eo + evs.length * 18) rfl y.cells.toList _ hrg Tryz.underlying36 rfl (by kernel_rfl) ?_; simp only [Array.toArray_toList])
                  generalize (wr2.alloc (.cells #[.bool false, .int .i64 0, .int .i64 0, .int .i64 0, .int .i64 0, .bool false, .bool false, .int .i64 0, .int .i64 0, .int .i64 0, .int .i64 0, .int .i64 0, .int .i64 0, .int .i64 0, .int .i64 0, .int .i64 0, .int .i64 0, .int .i64 0] 36)).setRow wr2.heap.size y.cells = w7 at *
                  generalize wr2.heap.size = yb at *
                  clear hst hsz hrg n1 n2
                  have f0 : w7.cell? ⟨yb, 10, none⟩ = some (.int .i64 y.e) := rw2.cell 10
                  have f1 : w7.cell? ⟨yb, 3, none⟩ = some (.int .i64 y.ask.op) := rw2.cell 3
                  have f2 : w7.cell? ⟨yb, 11, none⟩ = some (.int .i64 y.slot) := rw2.cell 11
                  have f3 : w7.cell? ⟨yb, 12, none⟩ = some (.int .i64 y.gen) := rw2.cell 12
                  have f4 : w7.cell? ⟨yb, 1, none⟩ = some (.int .i64 y.who) := rw2.cell 1
                  have f5 : w7.cell? ⟨yb, 7, none⟩ = some (.int .i64 y.ask.slot) := rw2.cell 7
                  have f6 : w7.cell? ⟨yb, 8, none⟩ = some (.int .i64 y.ask.gen) := rw2.cell 8
                  have f7 : w7.cell? ⟨cb, 1, none⟩ = some (.int .i64 ns) := by rw [← HNS.out]; exact hrow7.cell 1
                  have hI0 : (m.ss.length : Int) = ns := HMS.out
                  have hul7 : ub < yb := hulb
                  have hgl7 : gb < yb := hglb
                  have hyu : yb ≠ ub := by omega
                  have hyu' : ub ≠ yb := by omega
                  have hyg : yb ≠ gb := by omega
                  have hyg' : gb ≠ yb := by omega
                  have hug' : ub ≠ gb := fun e => hug e.symm
                  have HR7 := Lib.hid hrow7
                  have HB7 := Lib.hid hB7
                  have HG7 := Lib.hid hgs7
                  have HU7 := Lib.hid hus7
                  clear hrow7 hB7 hgs7 hus7 rw2
                  by_cases he : y.e = 0
                  · rw [he] at f0
                    by_cases h0 : y.ask.op = 0
                    · rw [h0] at f1
                      obtain ⟨i, hs, hil, hw0, g0, hg0, hlt⟩ := (HOK.out he).1 h0
                      have hoo : OwnI m2 (ws'.set i (y.who + 1)) (gs'.set i y.gen) (k + 1) := by
                        have h1 := HO2.out
                        unfold ownW ownG at h1
                        rw [if_neg (show ¬ y.e ≠ 0 by omega), if_neg (show ¬ y.e ≠ 0 by omega), if_pos h0, if_pos h0, hs, Int.toNat_natCast] at h1
                        exact h1
                      have HOO := Lib.hid hoo
                      rw [hs] at f2
                      have c1 : w7.cell? ⟨ub, i, none⟩ = some (.int .i64 0) := HU7.out.get hw0
                      have c2 : w7.cell? ⟨gb, i, none⟩ = some (.int .i64 g0) := HG7.out.get hg0
                      have z1 : w7.frozen? ⟨ub, i, none⟩ = false := RowAt.frozen HU7.out i
                      have z2 : w7.frozen? ⟨gb, i, none⟩ = false := RowAt.frozen HG7.out i
                      have i0 : (0 : Int) ≤ (i : Int) := by omega
                      have i1 : (i : Int) < (ns : Int) := by omega
                      have i2 : (i : Int) ≤ (ns : Int) - 1 := by omega
                      have i3 : ¬ (ns : Int) ≤ (i : Int) := by omega
                      have i4 : ¬ ns ≤ i := by omega
                      have i5 : i < ns := by omega
                      have i6 : ¬ y.gen ≤ g0 := by omega
                      obtain ⟨w8a, w8b⟩ := hwh
                      clear hoo hs hil hw0 hg0 hlt he h0 f5 f6 hI0
                      generalize y.gen = yg at *
                      generalize y.who = yw at *
                      go_wp2_with fail
                      go_quiet (fail)
                      go_wp2_with fail
                      go_round
                      case rel =>
                        have hd : Below w7.heap.size w7 (w7.drewN nq) := bdrewN (Below.refl _ _) nq
                        exact ⟨_, rfl, evs.length + 1, by omega, by have := HTL.out; omega, rfl, ws'.set i (yw + 1), gs'.set i yg, (((HB7.out.below' hd).set hKu hWu i _).set hKg hWg i _), setOther (setOther (HR7.out.below hd) _ hcu) _ hcg', RowI.set (RowI.other (RowAt.below HG7.out hd) hug i _) i yg, RowI.other (RowI.set (RowAt.below HU7.out hd) i (yw + 1)) hug' i _, fun h => by omega, fun _ => HOO.out⟩
                      case measure => simp [intOf] <;> omega
                    · by_cases h12 : y.ask.op = 1 ∨ y.ask.op = 2
                      · obtain ⟨i, hs, hil, hw0, hg0⟩ := (HOK.out he).2 h12
                        have hoo : OwnI m2 (ws'.set i 0) gs' (k + 1) := by
                          have h1 := HO2.out
                          unfold ownW ownG at h1
                          rw [if_neg (show ¬ y.e ≠ 0 by omega), if_neg (show ¬ y.e ≠ 0 by omega), if_neg h0, if_neg h0, if_pos h12, hs, Int.toNat_natCast] at h1
                          exact h1
                        have HOO := Lib.hid hoo
                        rw [hs] at f5
                        have c1 : w7.cell? ⟨ub, i, none⟩ = some (.int .i64 (y.who + 1)) := HU7.out.get hw0
                        have c2 : w7.cell? ⟨gb, i, none⟩ = some (.int .i64 y.ask.gen) := HG7.out.get hg0
                        have z1 : w7.frozen? ⟨ub, i, none⟩ = false := RowAt.frozen HU7.out i
                        have i0 : (0 : Int) ≤ (i : Int) := by omega
                        have i1 : (i : Int) < (ns : Int) := by omega
                        have i2 : (i : Int) ≤ (ns : Int) - 1 := by omega
                        have i3 : ¬ (ns : Int) ≤ (i : Int) := by omega
                        have i4 : ¬ ns ≤ i := by omega
                        have i5 : i < ns := by omega
                        have i7 : (y.ask.op == 0) = false := by simpa using h0
                        obtain ⟨w8a, w8b⟩ := hwh
                        clear hoo hs hil hw0 hg0 he h0 hI0
                        generalize y.ask.gen = yg at *
                        generalize y.who = yw at *
                        rcases h12 with h1 | h2
                        · rw [h1] at f1
                          clear h1 i7
                          go_wp2_with fail
                          go_quiet (fail)
                          go_wp2_with fail
                          go_round
                          case rel =>
                            have hd : Below w7.heap.size w7 (w7.drewN nq) := bdrewN (Below.refl _ _) nq
                            exact ⟨_, rfl, evs.length + 1, by omega, by have := HTL.out; omega, rfl, ws'.set i 0, gs', ((HB7.out.below' hd).set hKu hWu i _), setOther (HR7.out.below hd) _ hcu, RowI.other (RowAt.below HG7.out hd) hug i _, RowI.set (RowAt.below HU7.out hd) i 0, fun h => by omega, fun _ => HOO.out⟩
                          case measure => simp [intOf] <;> omega
                        · rw [h2] at f1
                          clear h2 i7
                          go_wp2_with fail
                          go_quiet (fail)
                          go_wp2_with fail
                          go_round
                          case rel =>
                            have hd : Below w7.heap.size w7 (w7.drewN nq) := bdrewN (Below.refl _ _) nq
                            exact ⟨_, rfl, evs.length + 1, by omega, by have := HTL.out; omega, rfl, ws'.set i 0, gs', ((HB7.out.below' hd).set hKu hWu i _), setOther (HR7.out.below hd) _ hcu, RowI.other (RowAt.below HG7.out hd) hug i _, RowI.set (RowAt.below HU7.out hd) i 0, fun h => by omega, fun _ => HOO.out⟩
                          case measure => simp [intOf] <;> omega
                      · have h1 : y.ask.op ≠ 1 := fun e => h12 (.inl e)
                        have h2 : y.ask.op ≠ 2 := fun e => h12 (.inr e)
                        have hoo : OwnI m2 ws' gs' (k + 1) := by
                          have h3 := HO2.out
                          unfold ownW ownG at h3
                          rw [if_neg h0, if_neg h0, if_neg h12] at h3
                          simpa using h3
                        have HOO := Lib.hid hoo
                        have b0 : (y.ask.op == 0) = false := by simpa using h0
                        have b1 : (y.ask.op == 1) = false := by simpa using h1
                        have b2 : (y.ask.op == 2) = false := by simpa using h2
                        clear hoo he h0 h12 h1 h2 hI0 hwh
                        go_wp2_with fail
                        go_round
                        case rel => exact ⟨_, rfl, evs.length + 1, by omega, by have := HTL.out; omega, rfl, ws', gs', HB7.out, HR7.out, HG7.out, HU7.out, fun h => by omega, fun _ => HOO.out⟩
                        case measure => simp [intOf] <;> omega
                  · have b0 : (y.e == 0) = false := by simpa using he
                    have hoo : OwnI m2 ws' gs' (k + 1) := by
                      have h3 := HO2.out
                      unfold ownW ownG at h3
                      rw [if_pos he, if_pos he] at h3
                      exact h3
                    have HOO := Lib.hid hoo
                    clear hoo he hI0 hwh
                    go_wp2_with fail
                    go_round
                    case rel => exact ⟨_, rfl, evs.length + 1, by omega, by have := HTL.out; omega, rfl, ws', gs', HB7.out, HR7.out, HG7.out, HU7.out, fun h => by omega, fun _ => HOO.out⟩
                    case measure => simp [intOf] <;> omega
                · obtain rfl : j = T.length := by omega
                  have j1 : ¬ ((T.length : Nat) : Int) < (T.length : Int) := by omega
                  have hfin := hdone rfl
                  have HFIN := Lib.hid hfin
                  clear hdone hsame hfin
                  go_wp2_with fail
                  go_meet
                  case rel => exact ⟨ws', gs', hB, hrow, hgs, hus, HFIN.out⟩
          case rest =>
            as_aux_lemma =>
              obtain ⟨ws', gs', hB13, hrow13, hgs13, hus13, hown13⟩ := hcut
              generalize wc = w13 at *
              clear hB12 hrow12 hgs12 hus12
              have hss2 := hB13.at'.ok.ns
              have hv := m_view hB13.at'
              rw [hB13.mb] at hv
              go_wp2_with fail
              refine hv.mono ?_
              rintro e z3 ⟨vg2, vc2, va2, vd2, rfl, hsl, -, -, -, hb⟩
              have rU := RowAt.new z3 #[.slice (some ⟨vg2, 0, none⟩) m2.ss.length vc2, .slice va2 m2.line.length vd2, .int .i64 m2.closed] 45
              have hbx : Below z3.heap.size z3 (z3.alloc (.cells #[.slice (some ⟨vg2, 0, none⟩) m2.ss.length vc2, .slice va2 m2.line.length vd2, .int .i64 m2.closed] 45)) := (Below.refl _ _).alloc (Nat.le_refl _) _
              have hbb := hb.trans (hbx.mono hb.size)
              have hB14 := hB13.below' hbb
              have hrow14 := hrow13.below hbb
              have hgs14 : RowI _ gb gs' := RowAt.below hgs13 hbb
              have hus14 : RowI _ ub ws' := RowAt.below hus13 hbb
              have hsl14 := hsl.stable (hbx.block vg2 (hsl.lt hss2.1))
              clear hv hb hbx hbb hB13 hrow13 hsl hgs13 hus13
              go_upto_region 44 with (fail)
              generalize z3.alloc (.cells #[.slice (some ⟨vg2, 0, none⟩) m2.ss.length vc2, .slice va2 m2.line.length vd2, .int .i64 m2.closed] 45) = w14 at *
              generalize z3.heap.size = vb at *
              have hvgl := hsl14.lt hss2.1
              have hns2 : m2.ss.length = ns := by
                have h1 := hB14.at'.ok.nss
                have h2 := HCF2.out
                have h3 := HNS.out
                rw [h2, h3] at h1
                omega
              have HB := Lib.hid hB14
              have HR := Lib.hid hrow14
              have HU := Lib.hid rU
              have HS := Lib.hid hsl14
              have HGS := Lib.hid hgs14
              have HUS := Lib.hid hus14
              have HOW := Lib.hid hown13
              have HN2 := Lib.hid hns2
              have HTI := Lib.hid hti
              clear hB14 hrow14 rU hsl14 hgs14 hus14 hown13 hns2 hti
              go_wp2_with fail
              go_loopw [23] (fun js wr => ∃ w', w' = wr ∧ ∃ j : Nat, j ≤ m2.ss.length ∧ js = .int .i64 j ∧ Below w14.heap.size w14 w') (fun js _ => m2.ss.length - (intOf js).toNat)
              case atStart => exact ⟨_, rfl, 0, by omega, rfl, Below.refl _ _⟩
              case round =>
                obtain ⟨wr2, rfl, j, hj, rfl, hbj⟩ := hrel
                have rU2 := HU.out.below hbj
                have d0 : wr2.cell? ⟨vb, 0, none⟩ = some (.slice (some ⟨vg2, 0, none⟩) m2.ss.length vc2) := rU2.cell 0
                have d2 : wr2.cell? ⟨vb, 2, none⟩ = some (.int .i64 m2.closed) := rU2.cell 2
                have j0 : (0 : Int) ≤ (j : Int) := by omega
                by_cases hjl : j < m2.ss.length
                · have hjn : j < ns := by have := HN2.out; omega
                  obtain ⟨s, hs⟩ : ∃ s, m2.ss[j]? = some s := ⟨_, List.getElem?_eq_getElem hjl⟩
                  have hsl2 := HS.out.stable (hbj.block vg2 hvgl)
                  have hcs := hsl2.get hs
                  obtain ⟨v, hv⟩ : ∃ v, ws'[j]? = some v := ⟨_, List.getElem?_eq_getElem (by have := HOW.out.lw; omega)⟩
                  obtain ⟨g, hg⟩ : ∃ g, gs'[j]? = some g := ⟨_, List.getElem?_eq_getElem (by have := HOW.out.lg; omega)⟩
                  have hsr := ((right_iff s).1 (HI2.out.rt s (List.mem_of_getElem? hs))).1.2.1
                  have how := fun h => HOW.out.ow h j s v g hs hv hg
                  have c1 : wr2.cell? ⟨ub, j, none⟩ = some (.int .i64 v) := RowI.get (RowAt.below HUS.out hbj) hv
                  have c2 : wr2.cell? ⟨gb, j, none⟩ = some (.int .i64 g) := RowI.get (RowAt.below HGS.out hbj) hg
                  have u1 : ub < wr2.heap.size := World.block_lt_of_cell? _ _ c1
                  have u2 : gb < wr2.heap.size := World.block_lt_of_cell? _ _ c2
                  obtain ⟨s0, s1, s2, s3, s4, s5, s6, s7, s8⟩ := s
                  simp only at hcs how hsr
                  obtain ⟨c0', c1', c2', c3', c4', c5', c6', c7', c8'⟩ := hcs
                  have j1 : (j : Int) < (m2.ss.length : Int) := by omega
                  have j2 : (j : Int) ≤ (m2.ss.length : Int) - 1 := by omega
                  have j3 : (j : Int) < (ns : Int) := by omega
                  have j4 : (j : Int) ≤ (ns : Int) - 1 := by omega
                  have j5 : ¬ (ns : Int) ≤ (j : Int) := by omega
                  have HOWN := Lib.hid how
                  have rS := RowAt.new wr2 #[.int .i64 s0, .int .i64 s1, .int .i64 s2, .bool s3, .bool s4, .int .i64 s5, .int .i64 s6, .int .i64 s7, .int .i64 s8] 59
                  have hbs : Below wr2.heap.size wr2 (wr2.alloc (.cells #[.int .i64 s0, .int .i64 s1, .int .i64 s2, .bool s3, .bool s4, .int .i64 s5, .int .i64 s6, .int .i64 s7, .int .i64 s8] 59)) := (Below.refl _ _).alloc (Nat.le_refl _) _
                  have rU3 := rU2.below hbs
                  have e1 := (hbs.cell (p := ⟨ub, j, none⟩) u1).trans c1
                  have e2 := (hbs.cell (p := ⟨gb, j, none⟩) u2).trans c2
                  have hbn := hbj.trans (hbs.mono hbj.size)
                  clear hs how hsl2 d2 rU2 hbj hbs hv hg c1 c2 u1 u2
                  go_upto_region 48 with (fail)
                  generalize wr2.alloc (.cells #[.int .i64 s0, .int .i64 s1, .int .i64 s2, .bool s3, .bool s4, .int .i64 s5, .int .i64 s6, .int .i64 s7, .int .i64 s8] 59) = w15 at *
                  generalize wr2.heap.size = sb at *
                  have d2 : w15.cell? ⟨vb, 2, none⟩ = some (.int .i64 m2.closed) := rU3.cell 2
                  have g0 : w15.cell? ⟨sb, 0, none⟩ = some (.int .i64 s0) := rS.cell 0
                  have g1 : w15.cell? ⟨sb, 1, none⟩ = some (.int .i64 s1) := rS.cell 1
                  have g6 : w15.cell? ⟨sb, 6, none⟩ = some (.int .i64 s6) := rS.cell 6
                  have hbn2 := hbn
                  clear c0' c1' c2' c3' c4' c5' c6' c7' c8' d0 rU3 rS hbn
                  by_cases hcl : m2.closed < 2
                  · obtain ⟨f1, f2⟩ := HOWN.out hcl
                    clear HOWN
                    by_cases hv0 : v = 0
                    · have f3 : (s0 == 3) = false := by
                        have : ¬ s0 = 3 := fun e => f1.1 e hv0
                        simpa using this
                      subst hv0
                      clear f1 f2
                      go_wp2_with fail
                      go_quiet (fail)
                      go_wp2_with fail
                      go_round
                      case rel => exact ⟨_, rfl, j + 1, by omega, rfl, hbn2.trans (bdrewN (Below.refl _ _) nq |>.mono hbn2.size)⟩
                      case measure => simp [intOf] <;> omega
                    · obtain ⟨f4, f5⟩ := f2 hv0
                      have f6 : s0 = 3 := f1.2 hv0
                      have f7 : (v != 0) = true := by simpa using hv0
                      rw [f6] at g0
                      rw [f5] at g6
                      rw [f4] at g1
                      have v1 : (1 : Int) ≤ v := by omega
                      have v2 : v ≤ 16 := by omega
                      clear f1 f2 f4 f5 f6 hv0 hsr
                      go_wp2_with fail
                      go_quiet (fail)
                      go_wp2_with fail
                      go_round
                      case rel => exact ⟨_, rfl, j + 1, by omega, rfl, hbn2.trans (bdrewN (Below.refl _ _) nq |>.mono hbn2.size)⟩
                      case measure => simp [intOf] <;> omega
                  · have hc2 : m2.closed = 2 := by have := HB.out.at'.ok.closed; omega
                    rw [hc2] at d2
                    clear HOWN hc2 hcl hsr
                    go_wp2_with fail
                    go_quiet (fail)
                    go_wp2_with fail
                    go_round
                    case rel => exact ⟨_, rfl, j + 1, by omega, rfl, hbn2.trans (bdrewN (Below.refl _ _) nq |>.mono hbn2.size)⟩
                    case measure => simp [intOf] <;> omega
                · obtain rfl : j = m2.ss.length := by omega
                  have j1 : ¬ ((m2.ss.length : Nat) : Int) < (m2.ss.length : Int) := by omega
                  have HBJ := Lib.hid hbj
                  clear hbj rU2
                  go_wp2_with fail
                  go_round
                  case rel => exact ⟨k + 1, by omega, rfl, p12, m2, T, ws', gs', (HB.out.below' HBJ.out).less (fun j hj => by
                    rcases hj with rfl | rfl | rfl
                    · exact hKc
                    · exact hKg
                    · exact hKu), ⟨by have := HTI.out; omega⟩, HI2.out, HCF2.out, HR.out.below HBJ.out, RowAt.below HGS.out HBJ.out, RowAt.below HUS.out HBJ.out, HOW.out⟩
                  case measure => simp [intOf] <;> omega
    · obtain rfl : k = l.length := by omega
      have hbe := hB.below
      go_wp2_with fail
      go_ret
      exact ⟨rfl, hbe⟩
end Go.Proofs.YtpmkgddjgebojaaGreatDoor.Mod

namespace Go.Proofs.YtpmkgddjgebojaaGreatDoor.modelOwn
open Go.ChangeShapes Go.WideShapes Go.ChangeAt Go.RowKit
set_option linter.unusedVariables false
set_option linter.unusedSimpArgs false

theorem own : ownKnob Tryz.prog.godebug = none := by kernel_rfl
theorem laidOut : laidOutB Tryz.prog = true := by kernel_rfl

set_option maxRecDepth 100000 in
theorem lifted (os : Os) (started : os.Started) (H : Type) (enc : TypeId × Value → H) :
    ReturnsInHanded {} Tryz.checked os 4 .any (fun w args => (Rows.modelOwnSpec.pre enc Tryz.prog Tryz.f4 [] false w args ∧ laidMetH Tryz.prog Mod.lst w) ∧ sizedMet enc Tryz.prog Tryz.f4 (OpenSpec.ofChange Rows.modelOwnSpec) false w args) (Rows.modelOwnSpec.post enc Tryz.prog Tryz.f4 false true false false) := by
  refine returnsInHanded_of_change_and (C := Tryz.checked) (X := fun w _ => laidMetH Tryz.prog Mod.lst w) (fun _ _ _ hh h => h.of_heap hh) own started (by kernel_rfl) Tryz.func4
    (ChangeSpec.witness_shaped (enc := enc) (C := Tryz.checked) (os := os) (X := fun w _ => laidMetH Tryz.prog Mod.lst w) false (World.doorLaid Tryz.prog 23 os) #[.agg #[.int .u8 0, .int .u8 0, .int .u8 0, .int .u8 0, .int .u8 0], .slice none 0 0] 8 rfl (World.shaped_of_RefB (by kernel_rfl) (by kernel_rfl)) (by kernel_rfl) (by kernel_rfl) (by kernel_rfl) (Mod.door_met os _)) ?_
  intro W base args ds gs before hval0 hW _ _ hL _
  have hval : ∀ (j : Nat) t v, Tryz.f4.params[j]? = some t → args[j]? = some v → Value.okWide Tryz.prog W .any base t v := hval0
  have hW' := hW
  obtain ⟨p, q, hA0, hV, rfl, hfz, hnd⟩ := hW
  have hA : DataW.TrodAll enc Tryz.prog W 0 (fun _ => true) true Tryz.f4.params.toList args.toList ds p := hA0
  rw [Tryz.params4] at hA hval
  obtain ⟨v0, vs0, d0, ds0, p0, q0, hargs, rfl, rfl, h0, r0⟩ := trodAll_cons hA
  obtain ⟨v1, vs1, d1, ds1, p1, q1, rfl, rfl, rfl, h1, r1⟩ := trodAll_cons r0
  obtain ⟨rfl, rfl, rfl⟩ := trodAll_nil r1
  obtain rfl : args = #[v0, v1] := by cases args; simp_all
  obtain ⟨rfl, rfl⟩ := trodVars_none hV
  have k0 := h0
  have lt0 : ∀ x ∈ p0, x.block < W.heap.size := by obtain ⟨m, hm⟩ := k0; exact DataW.trod_lt m _ _ _ hm
  obtain ⟨g0a, g0b, g0c, g0d, g0e, rfl, x0a, x0b, x0c, x0d, x0e⟩ := Mod.open_given (hval 0 49 v0 rfl rfl) h0
  have k1 := h1
  have lt1 : ∀ x ∈ p1, x.block < W.heap.size := by obtain ⟨m, hm⟩ := k1; exact DataW.trod_lt m _ _ _ hm
  obtain ⟨a1, len1, cap1, e1⟩ := okWide_slice Tryz.underlying50 (hval 1 50 v1 rfl rfl)
  obtain ⟨l1, wl1, -⟩ := Mod.open_turns e1 h1
  have hLd := Mod.of_laid hL
  clear hA0 hval0
  refine (Mod.modelOwn_walk W hLd _ _ _ _ _ x0a x0b x0c x0d x0e _ l1 wl1).mono fun e W' ⟨he, bel⟩ => ?_
  subst he
  exact ⟨_, rfl, _, _, _, [], _, [], hW', trodAll_mk1 (shut_bool Tryz.underlying4 _), (trodAll_cons_mk (Below.trod laidOut (by kernel_rfl) (of_decide_eq_true (by kernel_rfl)) k0 bel lt0) (trodAll_cons_mk (Below.trod laidOut (by kernel_rfl) (of_decide_eq_true (by kernel_rfl)) k1 bel lt1) trodAll_mk0)), rfl, bel.frame _, fun h => by cases h⟩

theorem over : Rows.modelOwnRow.holds Tryz.pinned (OpenSpec.ofChange Rows.modelOwnSpec) :=
  OpenClaim.holds_of_wide 4 Tryz.f4 rfl rfl rfl rfl rfl rfl rfl ⟨rfl, rfl, rfl, rfl, rfl⟩ rfl rfl rfl rfl rfl (by kernel_rfl) Tryz.func4 (by kernel_rfl)
    (of_decide_eq_true (by kernel_rfl)) (by unfold Func.isWrapper; first | (rw [if_pos (by decide +kernel)]; kernel_rfl) | (rw [if_neg (by decide +kernel)]; exact ⟨rfl, rfl⟩))
    (fun os started H enc _ => lifted os started H enc)

theorem proved : Rows.ModelOwnCardSaid :=
  Claim7.holds_tied_plain_at .later [] [.data] true (true, "fc8267f2bfccbddf267fa1b35529e40ef16cac4113fcc7d60f2cec3809bf4342") false
    over (fun _ h => by cases h) (by kernel_rfl) (fun _ h => by cases h) modelOwn_row_tie rfl ⟨rfl, rfl⟩ (by kernel_rfl) rfl
    (fun f fn hf hfn => by
      obtain rfl : f = 4 := Option.some.inj ((show Tryz.prog.funcNamed "coachhouse/coachhouselaw23.ModelOwn" = some 4 by kernel_rfl).symm.trans hf) |>.symm
      obtain rfl : fn = Tryz.f4 := (Option.some.inj (Tryz.func4.symm.trans hfn)).symm
      exact ⟨by kernel_rfl, fun j t ht => by
        rw [Tryz.params4] at ht
        have hm : t ∈ [49, 50] := by simpa using Array.mem_of_getElem? ht
        have hall : ([49, 50].all fun u => !Tryz.prog.wantsStandIn u) = true := by kernel_rfl
        exact (show Tryz.prog.wantsStandIn t = false by simpa using List.all_eq_true.1 hall t hm)⟩)
    (by kernel_rfl)
#print axioms proved
end Go.Proofs.YtpmkgddjgebojaaGreatDoor.modelOwn

