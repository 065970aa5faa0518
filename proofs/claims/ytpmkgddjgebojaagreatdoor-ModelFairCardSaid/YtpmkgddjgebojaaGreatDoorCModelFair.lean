/- The statement ModelFair holds, for every input: the call answers true and leaves what it was handed as it was, where the package's table slot.fields is laid as the program's text lays it (the tied card). -/
import Derived.Test.YtpmkgddjgebojaaGreatDoorA6
import Derived.Test.YtpmkgddjgebojaaGreatDoorRows
import Derived.Test.YtpmkgddjgebojaaGreatDoorTie
import Derived.Test.YtpmkgddjgebojaaGreatDoorCards
import Derived.WalkKit
import Derived.ProofKit
import Derived.OpenShut
import Derived.ShutString
import Derived.ChangeOld
import Derived.Below
import Derived.LaidMore
import Derived.SevenTiedAt
import Derived.Deep.CutBlock

namespace Go.Proofs.YtpmkgddjgebojaaGreatDoor.Mod
set_option linter.unusedVariables false
set_option linter.unusedSimpArgs false
open Go.RowKit Hp Slot RowL Life

/-- Who wakes by an entry, if anybody does. -/
def wokeOf (m : M) (x : En) : Int := if x.kind = 1 ∧ (m.wake x.who).1.2 = true then x.who else -1
theorem line_pos {m : M} (h : Mid m) : (-1 : Int) ∉ m.line := fun hm => by have := (h.lb _ hm).1; omega
theorem entry_fair {m : M} (h : Inv m) (x : En) : fairL (dropped m.line (wokeOf m x)) (m.entry x).2.line := by
  have hn := drop_none (line_pos h.toMid)
  unfold M.entry
  by_cases h1 : x.kind = 1
  · rw [if_neg (by omega), if_pos h1]
    unfold wokeOf
    have := wake_fair h x.who
    by_cases hw : (m.wake x.who).1.2 = true
    · rw [if_pos ⟨h1, hw⟩]
      rw [if_pos hw] at this
      exact this
    · rw [if_neg (fun e => hw e.2)]
      rw [if_neg hw] at this
      exact this
  · have e : wokeOf m x = -1 := by unfold wokeOf; rw [if_neg (fun e => h1 e.1)]
    rw [e, hn]
    split
    · exact ask_fair h.toMid _ _
    split
    · exact fairL.refl _
    split
    · show fairL m.line (m.feed x.good).2.line
      unfold M.feed; split <;> exact fairL.refl _
    split
    · show fairL m.line (m.break' x.ask.slot).2.line
      unfold M.break'; split <;> exact fairL.refl _
    · exact fairL.refl _
theorem dropped_nodup {m : M} (h : Mid m) (x : Int) : (dropped m.line x).Nodup := h.nd.filter _
/-- Where somebody waits a slot is neither Empty, nor Idle and sound. -/
theorem fair_slot {m : M} (h : Inv m) (hl : m.line ≠ []) {s : S} (hs : s ∈ m.ss) : s.state ≠ 0 ∧ (s.state = 2 → s.broken = true) := by
  have hf := h.fair hl s hs
  simp [Find.fits, Find.sound] at hf
  exact ⟨hf.2, hf.1⟩
end Go.Proofs.YtpmkgddjgebojaaGreatDoor.Mod

namespace Go.Proofs.YtpmkgddjgebojaaGreatDoor.Mod
set_option linter.unusedVariables false
set_option linter.unusedSimpArgs false
open Go.RowKit Hp Slot RowL Life

set_option maxRecDepth 100000 in
set_option maxHeartbeats 16000000 in
theorem modelFair_walk (W : World) (hL : Laid W) (ga gb gc gd ge : Int) (xa : 0 ≤ ga ∧ ga < 256) (xb : 0 ≤ gb ∧ gb < 256) (xc : 0 ≤ gc ∧ gc < 256) (xd : 0 ≤ gd ∧ gd < 256) (xe : 0 ≤ ge ∧ ge < 256) (lv : Value) (l : List Tn) (hl : TurnsAt W lv l) :
    Calls Tryz.prog 6 #[.agg #[.int .u8 ga, .int .u8 gb, .int .u8 gc, .int .u8 gd, .int .u8 ge], lv] W fun e W' => e = .returned (.bool true) ∧ Below W.heap.size W W' := by
  have hbA : Below W.heap.size W (W.alloc (.cells #[.int .u8 ga, .int .u8 gb, .int .u8 gc, .int .u8 gd, .int .u8 ge] 49)) := (Below.refl _ _).alloc (Nat.le_refl _) _
  have haw := awake_any (W.alloc (.cells #[.int .u8 ga, .int .u8 gb, .int .u8 gc, .int .u8 gd, .int .u8 ge] 49)) (hL.stable (hbA.block 0 (hL.lt (by decide))))
  have rA : RowAt (W.alloc (.cells #[.int .u8 ga, .int .u8 gb, .int .u8 gc, .int .u8 gd, .int .u8 ge] 49)) W.heap.size #[.int .u8 ga, .int .u8 gb, .int .u8 gc, .int .u8 gd, .int .u8 ge] 49 := RowAt.new _ _ _
  have hpos : 0 < W.heap.size := hL.lt (by decide)
  have HLd := Lib.hid hL
  have HL := Lib.hid hl
  obtain ⟨a, cp, rfl, htok, hcells⟩ := hl
  clear hcells hL htok
  go_enter Tryz.func6, Tryz.ntmps6
  go_wp2_with fail
  refine haw.mono ?_
  rintro e w1 ⟨rfl, hb1⟩
  have r1 := rA.below hb1
  clear haw rA
  by_cases hn : l.length ≤ 60
  rotate_left
  · have hn' : (60 : Int) < l.length := by omega
    go_wp2
    go_ret
    exact ⟨rfl, hbA.trans (hb1.mono hbA.size)⟩
  have hn' : ¬ (60 : Int) < l.length := by omega
  have d0 : w1.cell? ⟨W.heap.size, 0, none⟩ = some (.int .u8 ga) := r1.cell 0
  have d1 : w1.cell? ⟨W.heap.size, 1, none⟩ = some (.int .u8 gb) := r1.cell 1
  have d2 : w1.cell? ⟨W.heap.size, 2, none⟩ = some (.int .u8 gc) := r1.cell 2
  have d3 : w1.cell? ⟨W.heap.size, 3, none⟩ = some (.int .u8 gd) := r1.cell 3
  have d4 : w1.cell? ⟨W.heap.size, 4, none⟩ = some (.int .u8 ge) := r1.cell 4
  have hcf := conf_any w1 ga gb gc gd ge xa xb xc xd xe
  have hcr := confOf_right ga gb gc gd ge
  generalize confOf ga gb gc gd ge = c at *
  have hlb := HL.out.below (hbA.trans (hb1.mono hbA.size))
  go_wp2_with fail
  refine hcf.mono ?_
  rintro e w2 ⟨rfl, hb2⟩
  clear hcf d0 d1 d2 d3 d4 r1
  have rz := RowAt.new w2 #[.int .i64 0, .int .i64 0, .int .i64 0, .int .i64 0, .int .i64 0] 23
  have hst := conf_store rz rfl c
  have row3 := rz.set c.cells
  have hb3 : Below w2.heap.size w2 ((w2.alloc (.cells #[.int .i64 0, .int .i64 0, .int .i64 0, .int .i64 0, .int .i64 0] 23)).setRow w2.heap.size c.cells) := below_setRow ((Below.refl _ _).alloc (Nat.le_refl _) _) (Nat.le_refl _) _
  have hb13 : Below w1.heap.size w1 ((w2.alloc (.cells #[.int .i64 0, .int .i64 0, .int .i64 0, .int .i64 0, .int .i64 0] 23)).setRow w2.heap.size c.cells) := hb2.trans (hb3.mono hb2.size)
  have hbW : Below W.heap.size W ((w2.alloc (.cells #[.int .i64 0, .int .i64 0, .int .i64 0, .int .i64 0, .int .i64 0] 23)).setRow w2.heap.size c.cells) := (hbA.trans (hb1.mono hbA.size)).trans (hb13.mono (Nat.le_trans hbA.size hb1.size))
  have hcb : W.heap.size ≤ w2.heap.size := Nat.le_trans hbA.size (Nat.le_trans hb1.size hb2.size)
  have hsc : c.cells.size = 5 := rfl
  go_upto_region 5 with (fail)
  generalize (w2.alloc (.cells #[.int .i64 0, .int .i64 0, .int .i64 0, .int .i64 0, .int .i64 0] 23)).setRow w2.heap.size c.cells = w3 at *
  generalize w2.heap.size = cb at *
  clear hst rz hb13 hb3 hb2 hb1 hbA hsc hlb
  have hL3 : Laid w3 := HLd.out.stable (hbW.block 0 (HLd.out.lt (by decide)))
  have hl3 := HL.out.below hbW
  refine wp_region_lit ?_
  refine RowL.wpList_load_row rfl 23 (.tmp 6) rfl cb _ c.cells _ rfl row3 Tryz.underlying23 rfl (by kernel_rfl) ?_
  have hpl := m_new w3 c hcr hL3
  go_wp2_with fail
  refine hpl.mono ?_
  rintro e w4 ⟨p, rfl, hA, hnew, hb4⟩
  have row4 : RowAt w4 cb c.cells 23 := row3.below hb4
  have hcb3 : cb < w3.heap.size := row3.lt
  have hB4 : PlayB W (fun j => j = cb) p.mb (.slice none 0 0) w4 p (M.new c) [] := ⟨hpos, rfl, hA, ownS_nil _ _, fun j hj => by have := hnew j hj; have := hbW.size; omega, fun j hj => (fp_nil j hj).elim, fun j hj => (fp_nil j hj).elim, fun j hj => ⟨by have := hb4.size; omega, fun hm => by have := hnew j hm; omega, fun hm => fp_nil j hm⟩, hbW.trans (hb4.mono hbW.size)⟩
  have hInv := Inv.new hcr
  generalize p.mb = mb at *
  clear hpl hA hnew hb4 hL3 hl3 row3 hbW
  obtain ⟨i0, hi, hz0, hz1, hz2⟩ := info_parts ev_info
  have HC := Lib.hid hcr
  clear hcr
  have vw := view_waits
  go_wp2_with fail
  go_loopw [9, 10] (fun ev i wr => ∃ k : Nat, k ≤ l.length ∧ i = .int .i64 k ∧ ∃ q m evs, PlayB W (fun j => j = cb) mb ev wr q m evs ∧ Played c k m evs ∧ Inv m ∧ m.cf = c ∧ RowAt wr cb c.cells 23) (fun _ i _ => l.length - (intOf i).toNat)
  case atStart => exact ⟨0, by omega, rfl, p, _, _, hB4, .new, hInv, rfl, row4⟩
  case round =>
    rename_i wr
    clear hB4 hInv row4
    obtain ⟨k, hk, rfl, q, m, evs, hB, hran, hI, hcm, hrow⟩ := hrel
    have hfew8 := hB.at'.ok.few
    by_cases hlt : k < l.length
    · obtain ⟨t, ht⟩ : ∃ t, l[k]? = some t := ⟨_, List.getElem?_eq_getElem hlt⟩
      have hTw := HL.out.below hB.below
      obtain ⟨a', cp', he, htok, hT⟩ := hTw
      have hto : t.ok := htok t (List.mem_of_getElem? ht)
      clear htok
      cases he
      rcases hT with hT | ⟨g, off, rfl, hT⟩
      · subst hT; simp at hlt
      obtain ⟨tk, tw, tp, ts, tg, tn⟩ := t
      have hg : g < wr.heap.size := World.block_lt_of_cell? _ _ (hT k _ ht 0 _ rfl)
      have hcell : ∀ w', Below wr.heap.size wr w' → ∀ j u, (⟨tk, tw, tp, ts, tg, tn⟩ : Tn).cells[j]? = some u → w'.cell? ⟨g, off + k * 6 + j, none⟩ = some u := fun w' hb j u hu => (World.cell?_of_block (w := wr) (hb.block g hg)).trans (hT k _ ht j u hu)
      have hcrow : ∀ w', Below wr.heap.size wr w' → RowAt w' cb #[.int .i64 c.workers, .int .i64 c.slots, .int .i64 c.streams, .int .i64 c.waiters, .int .i64 c.uses] 23 := fun w' hb => hrow.below hb
      have hent : ∀ w', Below wr.heap.size wr w' → Calls Tryz.prog 21 #[.agg #[.int .u8 tk, .int .u8 tw, .int .u8 tp, .int .u8 ts, .int .u8 tg, .int .u8 tn], .agg #[.int .i64 c.workers, .int .i64 c.slots, .int .i64 c.streams, .int .i64 c.waiters, .int .i64 c.uses], u9] w' (EntryP w') := fun w' hb =>
        entry_any w' tk tw tp ts tg tn hto.1 hto.2.1 hto.2.2.1 hto.2.2.2.1 hto.2.2.2.2.1 hto.2.2.2.2.2 c HC.out u9 evs (by have := hran.len; omega) (hB.evs.stable hb.size (fun j hj => hb.block j (hB.evs.lt hj)))
      have HT := Lib.hid hT
      have b0 : (0 : Int) ≤ (k : Int) := by omega
      have b1 : (k : Int) < (l.length : Int) := by omega
      have b2 : (k : Int) ≤ (l.length : Int) - 1 := by omega
      clear hT
      go_upto_region 12 with (fail)
      go_cut [11] from 43 to 220 (fun s9 wx => (∃ eb : Nat, s9 = .pointer (some ⟨eb, 0, none⟩) ∧ wr.heap.size ≤ eb ∧ ∃ x : En, RowAt wx eb x.cells 54 ∧ x.ok) ∧ Below wr.heap.size wr wx)
      case first =>
        rename_i JJ KK hJJ hKK
        refine wp_region_held_drew (S := fun w' => Below wr.heap.size wr w') (by kernel_rfl) (by exact (Below.refl _ _).drew) (fun hHeld => ?_)
        refine takeg (i := 0) (d := some 49) (v := ?_) (by kernel_rfl) (by kernel_rfl) (by kernel_rfl) (by kernel_rfl) (fun _ _ _ h => h) (by kernel_rfl) ?_ hHeld ?_
        rotate_left
        · intro w hSw
          try dsimp only at hSw
          go_simp
          try with_reducible rfl
        try simp only [Act.put, List.setIfInBounds_toArray, List.set_cons_zero, List.set_cons_succ]
        refine takeg (i := 1) (d := some 50) (v := ?_) (by kernel_rfl) (by kernel_rfl) (by kernel_rfl) (by kernel_rfl) (fun _ _ _ h => h) (by kernel_rfl) ?_ hHeld ?_
        rotate_left
        · intro w hSw
          try dsimp only at hSw
          go_simp
          try with_reducible rfl
        try simp only [Act.put, List.setIfInBounds_toArray, List.set_cons_zero, List.set_cons_succ]
        refine takeg (i := 2) (d := some 51) (v := ?_) (by kernel_rfl) (by kernel_rfl) (by kernel_rfl) (by kernel_rfl) (fun _ _ _ h => h) (by kernel_rfl) ?_ hHeld ?_
        rotate_left
        · intro w hSw
          try dsimp only at hSw
          go_simp
          try with_reducible rfl
        try simp only [Act.put, List.setIfInBounds_toArray, List.set_cons_zero, List.set_cons_succ]
        refine takeg (i := 3) (d := some 52) (v := ?_) (by kernel_rfl) (by kernel_rfl) (by kernel_rfl) (by kernel_rfl) (fun _ _ _ h => h) (by kernel_rfl) ?_ hHeld ?_
        rotate_left
        · intro w hSw
          try dsimp only at hSw
          have c0 : w.cell? ⟨g, off + k * 6, none⟩ = some (.int .u8 tk) := hcell w hSw 0 _ rfl
          have c1 : w.cell? ⟨g, off + k * 6 + 1, none⟩ = some (.int .u8 tw) := hcell w hSw 1 _ rfl
          have c2 : w.cell? ⟨g, off + k * 6 + 2, none⟩ = some (.int .u8 tp) := hcell w hSw 2 _ rfl
          have c3 : w.cell? ⟨g, off + k * 6 + 3, none⟩ = some (.int .u8 ts) := hcell w hSw 3 _ rfl
          have c4 : w.cell? ⟨g, off + k * 6 + 4, none⟩ = some (.int .u8 tg) := hcell w hSw 4 _ rfl
          have c5 : w.cell? ⟨g, off + k * 6 + 5, none⟩ = some (.int .u8 tn) := hcell w hSw 5 _ rfl
          go_simp
          try with_reducible rfl
        try simp only [Act.put, List.setIfInBounds_toArray, List.set_cons_zero, List.set_cons_succ]
        refine takeg (i := 4) (d := some 53) (v := ?_) (by kernel_rfl) (by kernel_rfl) (by kernel_rfl) (by kernel_rfl) (fun _ _ _ h => h) (by kernel_rfl) ?_ hHeld ?_
        rotate_left
        · intro w hSw
          try dsimp only at hSw
          have c0 : w.cell? ⟨cb, 0, none⟩ = some (.int .i64 c.workers) := (hcrow w hSw).cell 0
          have c1 : w.cell? ⟨cb, 1, none⟩ = some (.int .i64 c.slots) := (hcrow w hSw).cell 1
          have c2 : w.cell? ⟨cb, 2, none⟩ = some (.int .i64 c.streams) := (hcrow w hSw).cell 2
          have c3 : w.cell? ⟨cb, 3, none⟩ = some (.int .i64 c.waiters) := (hcrow w hSw).cell 3
          have c4 : w.cell? ⟨cb, 4, none⟩ = some (.int .i64 c.uses) := (hcrow w hSw).cell 4
          go_simp
          try with_reducible rfl
        try simp only [Act.put, List.setIfInBounds_toArray, List.set_cons_zero, List.set_cons_succ]
        refine takeg (i := 5) (d := some 54) (v := ?_) (by kernel_rfl) (by kernel_rfl) (by kernel_rfl) (by kernel_rfl) (fun _ _ _ h => h) (by kernel_rfl) ?_ hHeld ?_
        rotate_left
        · intro w hSw
          try dsimp only at hSw
          go_simp
          try with_reducible rfl
        try simp only [Act.put, List.setIfInBounds_toArray, List.set_cons_zero, List.set_cons_succ]
        refine ready2 (i := 6) (k := 7) (by kernel_rfl) ?_ ?_
        · refine step_call 21 #[.tmp 52, .tmp 53, .tmp 54] #[57, 23, 52] (some 55) none (by kernel_rfl) (by kernel_rfl) #[.agg #[.int .u8 tk, .int .u8 tw, .int .u8 tp, .int .u8 ts, .int .u8 tg, .int .u8 tn], .agg #[.int .i64 c.workers, .int .i64 c.slots, .int .i64 c.streams, .int .i64 c.waiters, .int .i64 c.uses], u9] (by go_simp; try rfl) (enters_of Tryz.func21 (by kernel_rfl) rfl) ?_
          refine (hent _ hHeld).mono ?_
          rintro e w2 ⟨x, rfl, hx, hb2⟩
          have hb2' : Below wr.heap.size wr w2 := hHeld.trans (hb2.mono hHeld.size)
          refine ⟨_, rfl, hb2', fun hH2 => ?_⟩
          try simp only [Act.put, List.setIfInBounds_toArray, List.set_cons_zero, List.set_cons_succ]
          have hb3 : Below wr.heap.size wr (w2.alloc (.cells #[.int .i64 0, .int .i64 0, .int .i64 0, .int .i64 0, .bool false, .bool false, .int .i64 0, .int .i64 0, .int .i64 0, .int .i64 0, .bool false] 54)) := hb2'.alloc hb2'.size _
          refine ready1 (i := 7) (by kernel_rfl) (step_run (w' := w2.alloc (.cells #[.int .i64 0, .int .i64 0, .int .i64 0, .int .i64 0, .bool false, .bool false, .int .i64 0, .int .i64 0, .int .i64 0, .int .i64 0, .bool false] 54)) (some 11) (.pointer (some ⟨w2.heap.size, 0, none⟩)) (by kernel_rfl) (by kernel_rfl) (by go_simp; try rfl) hb3 (fun _ => ?_))
          try simp only [Act.put, List.setIfInBounds_toArray, List.set_cons_zero, List.set_cons_succ]
          have rz := RowAt.new w2 #[.int .i64 0, .int .i64 0, .int .i64 0, .int .i64 0, .bool false, .bool false, .int .i64 0, .int .i64 0, .int .i64 0, .int .i64 0, .bool false] 54
          have hb4 : Below wr.heap.size wr ((w2.alloc (.cells #[.int .i64 0, .int .i64 0, .int .i64 0, .int .i64 0, .bool false, .bool false, .int .i64 0, .int .i64 0, .int .i64 0, .int .i64 0, .bool false] 54)).setRow w2.heap.size x.cells) := below_setRow hb3 hb2'.size _
          have rx := rz.set x.cells
          refine ready1 (i := 8) (by kernel_rfl) (step_store_row 54 (.tmp 11) (.tmp 55) (by kernel_rfl) w2.heap.size 54 #[.int .i64 0, .int .i64 0, .int .i64 0, .int .i64 0, .bool false, .bool false, .int .i64 0, .int .i64 0, .int .i64 0, .int .i64 0, .bool false] x.cells rfl rfl rz rfl (by kernel_rfl) (by simp [En.cells, Value.oneCell']) hb4 (fun _ => ?_))
          try simp only [Act.put, List.setIfInBounds_toArray, List.set_cons_zero, List.set_cons_succ]
          refine wpAnyH_done (by kernel_rfl) ?_ _
          refine hKK _ _ (Met.intro (hJJ _ _ ?_))
          (repeat apply Exists.intro)
          refine ⟨?rel, rfl⟩
          case rel => exact ⟨⟨w2.heap.size, rfl, hb2'.size, x, rx, hx⟩, hb4⟩
        · have hb3 : Below wr.heap.size wr (wr.drew.alloc (.cells #[.int .i64 0, .int .i64 0, .int .i64 0, .int .i64 0, .bool false, .bool false, .int .i64 0, .int .i64 0, .int .i64 0, .int .i64 0, .bool false] 54)) := hHeld.alloc hHeld.size _
          refine step_run (w' := wr.drew.alloc (.cells #[.int .i64 0, .int .i64 0, .int .i64 0, .int .i64 0, .bool false, .bool false, .int .i64 0, .int .i64 0, .int .i64 0, .int .i64 0, .bool false] 54)) (some 11) (.pointer (some ⟨wr.heap.size, 0, none⟩)) (by kernel_rfl) (by kernel_rfl) (by go_simp; try rfl) hb3 (fun _ => ?_)
          try simp only [Act.put, List.setIfInBounds_toArray, List.set_cons_zero, List.set_cons_succ]
          have rz := RowAt.new wr.drew #[.int .i64 0, .int .i64 0, .int .i64 0, .int .i64 0, .bool false, .bool false, .int .i64 0, .int .i64 0, .int .i64 0, .int .i64 0, .bool false] 54
          refine ready1 (i := 6) (by kernel_rfl) ?_
          refine step_call 21 #[.tmp 52, .tmp 53, .tmp 54] #[57, 23, 52] (some 55) none (by kernel_rfl) (by kernel_rfl) #[.agg #[.int .u8 tk, .int .u8 tw, .int .u8 tp, .int .u8 ts, .int .u8 tg, .int .u8 tn], .agg #[.int .i64 c.workers, .int .i64 c.slots, .int .i64 c.streams, .int .i64 c.waiters, .int .i64 c.uses], u9] (by go_simp; try rfl) (enters_of Tryz.func21 (by kernel_rfl) rfl) ?_
          refine (hent _ hb3).mono ?_
          rintro e w2 ⟨x, rfl, hx, hb2⟩
          have hb2' : Below wr.heap.size wr w2 := hb3.trans (hb2.mono hb3.size)
          refine ⟨_, rfl, hb2', fun hH2 => ?_⟩
          try simp only [Act.put, List.setIfInBounds_toArray, List.set_cons_zero, List.set_cons_succ]
          have rz2 : RowAt w2 wr.heap.size #[.int .i64 0, .int .i64 0, .int .i64 0, .int .i64 0, .bool false, .bool false, .int .i64 0, .int .i64 0, .int .i64 0, .int .i64 0, .bool false] 54 := rz.below hb2
          have hb4 : Below wr.heap.size wr (w2.setRow wr.heap.size x.cells) := below_setRow hb2' (Nat.le_refl _) _
          have rx := rz2.set x.cells
          refine ready1 (i := 8) (by kernel_rfl) (step_store_row 54 (.tmp 11) (.tmp 55) (by kernel_rfl) wr.heap.size 54 #[.int .i64 0, .int .i64 0, .int .i64 0, .int .i64 0, .bool false, .bool false, .int .i64 0, .int .i64 0, .int .i64 0, .int .i64 0, .bool false] x.cells rfl rfl rz2 rfl (by kernel_rfl) (by simp [En.cells, Value.oneCell']) hb4 (fun _ => ?_))
          try simp only [Act.put, List.setIfInBounds_toArray, List.set_cons_zero, List.set_cons_succ]
          refine wpAnyH_done (by kernel_rfl) ?_ _
          refine hKK _ _ (Met.intro (hJJ _ _ ?_))
          (repeat apply Exists.intro)
          refine ⟨?rel, rfl⟩
          case rel => exact ⟨⟨wr.heap.size, rfl, Nat.le_refl _, x, rx, hx⟩, hb4⟩
      case rest =>
        obtain ⟨⟨eb, rfl, heb, x, rx, hx⟩, hb8⟩ := hcut
        generalize wc = w8 at *
        have hB8 := hB.below' hb8
        have hrow8 := hrow.below hb8
        obtain ⟨xk, xw, ⟨op, dl, wt, fo, sl, ge, st⟩, xn, xg⟩ := x
        simp only [En.cells] at rx
        obtain ⟨K1, hB8, hKo1, hKn1⟩ := hB.keepX hb8
        have hKe1 : K1 eb := hKn1 _ heb rx.lt
        have hKc1 : K1 cb := hKo1 _ rfl
        clear hcell hcrow hent hKo1 hKn1
        have hv := m_view hB8.at'
        rw [hB8.mb] at hv
        have HX := Lib.hid hx
        clear hx hb8 hB hrow
        go_wp2_with fail
        refine hv.mono ?_
        rintro e z1 ⟨vg, vc, va, vd, rfl, -, -, hown, hfv, hb⟩
        obtain ⟨KS, hB9, hKo, hKn⟩ := hB8.keepX hb
        have hKw : ∀ x, Fp (.slice va m.line.length vd) x → KS x := fun x hx => hKn _ (hfv x hx) (hown.lt hx)
        have hKc : KS cb := hKo _ hKc1
        have hKe : KS eb := hKo _ hKe1
        have hrow9 := hrow8.below hb
        have rx := rx.below hb
        clear hv hb hB8 hrow8 hKo hKn hKc1 hKe1 hfv
        go_upto_region 15 with (fail)
        generalize hz1 : z1 = w9 at *
        clear hz1
        have hx := HX.out
        clear HX
        have hI2 := hI.entry hx
        have hfr := entry_fair hI ⟨xk, xw, ⟨op, dl, wt, fo, sl, ge, st⟩, xn, xg⟩
        have hcf2 := (entry_cf m ⟨xk, xw, ⟨op, dl, wt, fo, sl, ge, st⟩, xn, xg⟩).trans hcm
        have hran2 := hran.step _ hx
        have e0 : w9.cell? ⟨eb, 0, none⟩ = some (.int .i64 xk) := rx.cell 0
        have HFR := Lib.hid hfr
        clear hfr
        go_upto_block 2 with (fail)
        clear e0
        go_cut [9, 13, 14, 15, 16, 17, 18] from 43 to 220 (fun s9 s13 s14 s15 s16 s17 s18 wx => Sw W KS mb w9 m evs ⟨xk, xw, ⟨op, dl, wt, fo, sl, ge, st⟩, xn, xg⟩ s9 wx ∧ s13 = .int .i64 (wokeOf m ⟨xk, xw, ⟨op, dl, wt, fo, sl, ge, st⟩, xn, xg⟩))
        case first =>
          by_cases hk0 : xk = 0
          · as_aux_lemma =>
              subst hk0
              have hm := m_ask hB9.at' xw ⟨op, dl, wt, fo, sl, ge, st⟩
              rw [hB9.mb] at hm
              have hen : m.entry ⟨0, xw, ⟨op, dl, wt, fo, sl, ge, st⟩, xn, xg⟩ = (if (m.ask xw ⟨op, dl, wt, fo, sl, ge, st⟩).1.2.1 then some (m.ask xw ⟨op, dl, wt, fo, sl, ge, st⟩).1.1 else none, (m.ask xw ⟨op, dl, wt, fo, sl, ge, st⟩).2) := by simp [M.entry]
              generalize m.ask xw ⟨op, dl, wt, fo, sl, ge, st⟩ = r at hm hen
              obtain ⟨⟨y, yb, yc⟩, m2⟩ := r
              simp only at hen
              have HEN := Lib.hid hen
              clear hen
              have e1 : w9.cell? ⟨eb, 1, none⟩ = some (.int .i64 xw) := rx.cell 1
              have e2 : w9.cell? ⟨eb, 2, none⟩ = some (.int .i64 op) := rx.cell 2
              have e3 : w9.cell? ⟨eb, 3, none⟩ = some (.int .i64 dl) := rx.cell 3
              have e4 : w9.cell? ⟨eb, 4, none⟩ = some (.bool wt) := rx.cell 4
              have e5 : w9.cell? ⟨eb, 5, none⟩ = some (.bool fo) := rx.cell 5
              have e6 : w9.cell? ⟨eb, 6, none⟩ = some (.int .i64 sl) := rx.cell 6
              have e7 : w9.cell? ⟨eb, 7, none⟩ = some (.int .i64 ge) := rx.cell 7
              have e8 : w9.cell? ⟨eb, 8, none⟩ = some (.int .i64 st) := rx.cell 8
              go_wp2_with fail
              refine hm.mono ?_
              intro e w10 hpost
              obtain ⟨rfl, p2, hB2, hS2⟩ := hB9.post hpost
              clear hpost hm e1 e2 e3 e4 e5 e6 e7 e8
              have rz := RowAt.new w10 #[.bool false, .int .i64 0, .int .i64 0, .int .i64 0, .int .i64 0, .bool false, .bool false, .int .i64 0, .int .i64 0, .int .i64 0, .int .i64 0, .int .i64 0, .int .i64 0, .int .i64 0, .int .i64 0, .int .i64 0, .int .i64 0, .int .i64 0] 36
              have hst := ev_store rz rfl y
              have hsz := ev_size y
              have rw2 := rz.set y.cells
              have hb11 : Below w10.heap.size w10 ((w10.alloc (.cells #[.bool false, .int .i64 0, .int .i64 0, .int .i64 0, .int .i64 0, .bool false, .bool false, .int .i64 0, .int .i64 0, .int .i64 0, .int .i64 0, .int .i64 0, .int .i64 0, .int .i64 0, .int .i64 0, .int .i64 0, .int .i64 0, .int .i64 0] 36)).setRow w10.heap.size y.cells) := below_setRow ((Below.refl _ _).alloc (Nat.le_refl _) _) (Nat.le_refl _) _
              have hB3 := hB2.below' hb11
              have hS3 := hS2.trans (hB2.same hb11)
              cases yb
              · have hSw : Sw W KS mb w9 m evs ⟨0, xw, ⟨op, dl, wt, fo, sl, ge, st⟩, xn, xg⟩ u9 ((w10.alloc (.cells #[.bool false, .int .i64 0, .int .i64 0, .int .i64 0, .int .i64 0, .bool false, .bool false, .int .i64 0, .int .i64 0, .int .i64 0, .int .i64 0, .int .i64 0, .int .i64 0, .int .i64 0, .int .i64 0, .int .i64 0, .int .i64 0, .int .i64 0] 36)).setRow w10.heap.size y.cells) := Sw.none (by simpa using HEN.out) hB3 hS3
                clear HEN
                have hwk : wokeOf m ⟨0, xw, ⟨op, dl, wt, fo, sl, ge, st⟩, xn, xg⟩ = -1 := by simp [wokeOf]
                have HW1 := Lib.hid hwk
                clear hwk
                go_wp2_with fail
                go_meet
                case rel => exact ⟨hSw, by rw [HW1.out]⟩
              · go_upto_region 19 with (fail)
                generalize (w10.alloc (.cells #[.bool false, .int .i64 0, .int .i64 0, .int .i64 0, .int .i64 0, .bool false, .bool false, .int .i64 0, .int .i64 0, .int .i64 0, .int .i64 0, .int .i64 0, .int .i64 0, .int .i64 0, .int .i64 0, .int .i64 0, .int .i64 0, .int .i64 0] 36)).setRow w10.heap.size y.cells = w11 at *
                generalize w10.heap.size = ab at *
                have hown := OwnS.alloc hB3.evs (.cells y.cells 36)
                refine wp_region_lit ?_
                refine wpList_run rfl u9 (by go_simp; try rfl) ?_
                refine RowL.wpList_load_row rfl 36 (.tmp 14) rfl ab _ y.cells _ rfl rw2 Tryz.underlying36 rfl (by kernel_rfl) ?_
                refine wpList_build_ev rfl (.tmp 75) rfl y rfl ?_
                refine Hp.wpList_append _ rfl (.tmp 74) (.tmp 76) 52 rfl 36 i0 Ev.zero.val 18 136 Tryz.underlying52 hi hz0 hz1 hz2 rfl (by decide) u9 evs.length (flatE evs) rfl hown ⟨w11.heap.size, 0, none⟩ 1 1 y.cells.toList rfl rfl (ev_new w11 y) (ev_ones y) ?c3 ?c4 ?_
                case c3 => have := hran.len; unfold maxLen; omega
                case c4 => have := hran.len; omega
                intro a' cn w13 hown' hfp hch
                have hb12 : Below w11.heap.size w11 (w11.alloc (.cells y.cells 36)) := (Below.refl _ _).alloc (Nat.le_refl _) _
                have hB12 := hB3.below' hb12
                obtain ⟨hB5, hS5⟩ := hB12.append hown' hfp hch
                have hSw : Sw W KS mb w9 m evs ⟨0, xw, ⟨op, dl, wt, fo, sl, ge, st⟩, xn, xg⟩ (.slice a' (evs.length + 1) cn) w13 := Sw.some (by simpa using HEN.out) hB5 (hS3.trans ((hB3.same hb12).trans hS5))
                clear HEN hown' hfp hch hB12 hown hb12
                have hwk : wokeOf m ⟨0, xw, ⟨op, dl, wt, fo, sl, ge, st⟩, xn, xg⟩ = -1 := by simp [wokeOf]
                have HW1 := Lib.hid hwk
                clear hwk
                go_wp2_with fail
                go_meet
                case rel => exact ⟨hSw, by rw [HW1.out]⟩
          by_cases hk1 : xk = 1
          · as_aux_lemma =>
              subst hk1
              have hm := m_wake hB9.at' xw
              rw [hB9.mb] at hm
              have hen : m.entry ⟨1, xw, ⟨op, dl, wt, fo, sl, ge, st⟩, xn, xg⟩ = (if (m.wake xw).1.2 then some (m.wake xw).1.1 else none, (m.wake xw).2) := by simp [M.entry]
              have hwk : wokeOf m ⟨1, xw, ⟨op, dl, wt, fo, sl, ge, st⟩, xn, xg⟩ = (if (m.wake xw).1.2 = true then xw else -1) := by simp [wokeOf]
              generalize m.wake xw = r at hm hen hwk
              obtain ⟨⟨y, yb⟩, m2⟩ := r
              simp only at hen hwk
              have HEN := Lib.hid hen
              clear hen
              have HWK := Lib.hid hwk
              clear hwk
              have e1 : w9.cell? ⟨eb, 1, none⟩ = some (.int .i64 xw) := rx.cell 1
              go_wp2_with fail
              refine hm.mono ?_
              intro e w10 hpost
              obtain ⟨rfl, p2, hB2, hS2⟩ := hB9.post hpost
              clear hpost hm e1
              have rz := RowAt.new w10 #[.bool false, .int .i64 0, .int .i64 0, .int .i64 0, .int .i64 0, .bool false, .bool false, .int .i64 0, .int .i64 0, .int .i64 0, .int .i64 0, .int .i64 0, .int .i64 0, .int .i64 0, .int .i64 0, .int .i64 0, .int .i64 0, .int .i64 0] 36
              have hst := ev_store rz rfl y
              have hsz := ev_size y
              have rw2 := rz.set y.cells
              have hb11 : Below w10.heap.size w10 ((w10.alloc (.cells #[.bool false, .int .i64 0, .int .i64 0, .int .i64 0, .int .i64 0, .bool false, .bool false, .int .i64 0, .int .i64 0, .int .i64 0, .int .i64 0, .int .i64 0, .int .i64 0, .int .i64 0, .int .i64 0, .int .i64 0, .int .i64 0, .int .i64 0] 36)).setRow w10.heap.size y.cells) := below_setRow ((Below.refl _ _).alloc (Nat.le_refl _) _) (Nat.le_refl _) _
              have hB3 := hB2.below' hb11
              have hS3 := hS2.trans (hB2.same hb11)
              cases yb
              · have hSw : Sw W KS mb w9 m evs ⟨1, xw, ⟨op, dl, wt, fo, sl, ge, st⟩, xn, xg⟩ u9 ((w10.alloc (.cells #[.bool false, .int .i64 0, .int .i64 0, .int .i64 0, .int .i64 0, .bool false, .bool false, .int .i64 0, .int .i64 0, .int .i64 0, .int .i64 0, .int .i64 0, .int .i64 0, .int .i64 0, .int .i64 0, .int .i64 0, .int .i64 0, .int .i64 0] 36)).setRow w10.heap.size y.cells) := Sw.none (by simpa using HEN.out) hB3 hS3
                clear HEN
                have hwk1 : wokeOf m ⟨1, xw, ⟨op, dl, wt, fo, sl, ge, st⟩, xn, xg⟩ = -1 := HWK.out.trans (by simp)
                have HW1 := Lib.hid hwk1
                clear hwk1 HWK
                go_wp2_with fail
                go_meet
                case rel => exact ⟨hSw, by rw [HW1.out]⟩
              · go_upto_region 23 with (fail)
                generalize (w10.alloc (.cells #[.bool false, .int .i64 0, .int .i64 0, .int .i64 0, .int .i64 0, .bool false, .bool false, .int .i64 0, .int .i64 0, .int .i64 0, .int .i64 0, .int .i64 0, .int .i64 0, .int .i64 0, .int .i64 0, .int .i64 0, .int .i64 0, .int .i64 0] 36)).setRow w10.heap.size y.cells = w11 at *
                generalize w10.heap.size = ab at *
                have hown := OwnS.alloc hB3.evs (.cells y.cells 36)
                refine wp_region_lit ?_
                refine wpList_run rfl u9 (by go_simp; try rfl) ?_
                refine RowL.wpList_load_row rfl 36 (.tmp 17) rfl ab _ y.cells _ rfl rw2 Tryz.underlying36 rfl (by kernel_rfl) ?_
                refine wpList_build_ev rfl (.tmp 89) rfl y rfl ?_
                refine Hp.wpList_append _ rfl (.tmp 88) (.tmp 90) 52 rfl 36 i0 Ev.zero.val 18 136 Tryz.underlying52 hi hz0 hz1 hz2 rfl (by decide) u9 evs.length (flatE evs) rfl hown ⟨w11.heap.size, 0, none⟩ 1 1 y.cells.toList rfl rfl (ev_new w11 y) (ev_ones y) ?c3 ?c4 ?_
                case c3 => have := hran.len; unfold maxLen; omega
                case c4 => have := hran.len; omega
                intro a' cn w13 hown' hfp hch
                have hb12 : Below w11.heap.size w11 (w11.alloc (.cells y.cells 36)) := (Below.refl _ _).alloc (Nat.le_refl _) _
                have hB12 := hB3.below' hb12
                obtain ⟨hB5, hS5⟩ := hB12.append hown' hfp hch
                have hSw : Sw W KS mb w9 m evs ⟨1, xw, ⟨op, dl, wt, fo, sl, ge, st⟩, xn, xg⟩ (.slice a' (evs.length + 1) cn) w13 := Sw.some (by simpa using HEN.out) hB5 (hS3.trans ((hB3.same hb12).trans hS5))
                clear HEN hown' hfp hch hB12 hown hb12
                obtain ⟨_, -, hSS⟩ := id hSw
                have e1 : w13.cell? ⟨eb, 1, none⟩ = some (.int .i64 xw) := (RowAt.same rx hSS hKe).cell 1
                have hwk1 : wokeOf m ⟨1, xw, ⟨op, dl, wt, fo, sl, ge, st⟩, xn, xg⟩ = xw := HWK.out.trans (by simp)
                have HW1 := Lib.hid hwk1
                clear hwk1 hSS HWK
                go_wp2_with fail
                go_meet
                case rel => exact ⟨hSw, by rw [HW1.out]⟩
          by_cases hk2 : xk = 2
          · as_aux_lemma =>
              subst hk2
              have hm := m_tick hB9.at' xn (by have := hx.2.1; simp only at this; omega) (by have := hx.2.2; simp only at this; omega)
              rw [hB9.mb] at hm
              have e9 : w9.cell? ⟨eb, 9, none⟩ = some (.int .i64 xn) := rx.cell 9
              go_wp2_with fail
              refine hm.mono ?_
              rintro e w10 ⟨⟨v, rfl⟩, hA, hC⟩
              have hpost : MPost w9 q v (m.tick xn) (.returned v) w10 := ⟨rfl, q.lv, q.rv, hA, fun k h => .inl h, fun k h => .inl h, hC⟩
              obtain ⟨-, p2, hB2, hS2⟩ := hB9.post hpost
              clear hpost hA hC hm
              have hSw : Sw W KS mb w9 m evs ⟨2, xw, ⟨op, dl, wt, fo, sl, ge, st⟩, xn, xg⟩ u9 w10 := Sw.none (by simp [M.entry]) hB2 hS2
              have hwk : wokeOf m ⟨2, xw, ⟨op, dl, wt, fo, sl, ge, st⟩, xn, xg⟩ = -1 := by simp [wokeOf]
              have HW1 := Lib.hid hwk
              clear hwk
              go_wp2_with fail
              go_meet
              case rel => exact ⟨hSw, by rw [HW1.out]⟩
          by_cases hk3 : xk = 3
          · as_aux_lemma =>
              subst hk3
              have hm := m_feed hB9.at' xg
              rw [hB9.mb] at hm
              have e10 : w9.cell? ⟨eb, 10, none⟩ = some (.bool xg) := rx.cell 10
              go_wp2_with fail
              refine hm.mono ?_
              intro e w10 hpost
              obtain ⟨rfl, p2, hB2, hS2⟩ := hB9.post hpost
              clear hpost hm
              have hSw : Sw W KS mb w9 m evs ⟨3, xw, ⟨op, dl, wt, fo, sl, ge, st⟩, xn, xg⟩ u9 w10 := Sw.none (by simp [M.entry]) hB2 hS2
              have hwk : wokeOf m ⟨3, xw, ⟨op, dl, wt, fo, sl, ge, st⟩, xn, xg⟩ = -1 := by simp [wokeOf]
              have HW1 := Lib.hid hwk
              clear hwk
              go_wp2_with fail
              go_meet
              case rel => exact ⟨hSw, by rw [HW1.out]⟩
          by_cases hk4 : xk = 4
          · as_aux_lemma =>
              subst hk4
              have hm := m_break hB9.at' sl
              rw [hB9.mb] at hm
              have e6 : w9.cell? ⟨eb, 6, none⟩ = some (.int .i64 sl) := rx.cell 6
              go_wp2_with fail
              refine hm.mono ?_
              intro e w10 hpost
              obtain ⟨rfl, p2, hB2, hS2⟩ := hB9.post hpost
              clear hpost hm
              have hSw : Sw W KS mb w9 m evs ⟨4, xw, ⟨op, dl, wt, fo, sl, ge, st⟩, xn, xg⟩ u9 w10 := Sw.none (by simp [M.entry]) hB2 hS2
              have hwk : wokeOf m ⟨4, xw, ⟨op, dl, wt, fo, sl, ge, st⟩, xn, xg⟩ = -1 := by simp [wokeOf]
              have HW1 := Lib.hid hwk
              clear hwk
              go_wp2_with fail
              go_meet
              case rel => exact ⟨hSw, by rw [HW1.out]⟩
          · as_aux_lemma =>
              have k0 : (xk == 0) = false := by simpa using hk0
              have k1 : (xk == 1) = false := by simpa using hk1
              have k2 : (xk == 2) = false := by simpa using hk2
              have k3 : (xk == 3) = false := by simpa using hk3
              have k4 : (xk == 4) = false := by simpa using hk4
              have hSw : Sw W KS mb w9 m evs ⟨xk, xw, ⟨op, dl, wt, fo, sl, ge, st⟩, xn, xg⟩ u9 w9 := Sw.none (by simp [M.entry, hk0, hk1, hk2, hk3, hk4]) hB9 (Same.refl _ _)
              have hwk : wokeOf m ⟨xk, xw, ⟨op, dl, wt, fo, sl, ge, st⟩, xn, xg⟩ = -1 := by simp [wokeOf, hk1]
              clear hk0 hk1 hk2 hk3 hk4
              have HW1 := Lib.hid hwk
              clear hwk
              go_wp2_with fail
              go_meet
              case rel => exact ⟨hSw, by rw [HW1.out]⟩
        case rest =>
          obtain ⟨⟨p12, hB12, hS12⟩, rfl⟩ := hcut
          generalize wc = w12 at *
          have hrow12 := RowAt.same hrow9 hS12 hKc
          have hown12 := hown.stable hS12.1 (fun x hx => hS12.2 x (hKw x hx))
          generalize m.entry ⟨xk, xw, ⟨op, dl, wt, fo, sl, ge, st⟩, xn, xg⟩ = r at *
          obtain ⟨o2, m2⟩ := r
          simp only at hB12 hI2 hcf2 hran2
          have hnd := dropped_nodup hI.toMid (wokeOf m ⟨xk, xw, ⟨op, dl, wt, fo, sl, ge, st⟩, xn, xg⟩)
          have hfew := (dropped_le m.line (wokeOf m ⟨xk, xw, ⟨op, dl, wt, fo, sl, ge, st⟩, xn, xg⟩))
          have hfm : m.line.length ≤ 8 := hfew8
          generalize wokeOf m ⟨xk, xw, ⟨op, dl, wt, fo, sl, ge, st⟩, xn, xg⟩ = wk at *
          have hss2 := hB12.at'.ok.ns
          have hfew2 := hB12.at'.ok.few
          have hv := m_view hB12.at'
          rw [hB12.mb] at hv
          clear hB9 hrow9 rx hS12 hown
          go_wp2_with fail
          refine hv.mono ?_
          rintro e z3 ⟨vg2, vc2, va2, vd2, rfl, hsl, -, hownb, -, hb⟩
          have rU := RowAt.new z3 #[.slice (some ⟨vg2, 0, none⟩) m2.ss.length vc2, .slice va2 m2.line.length vd2, .int .i64 m2.closed] 45
          have hbx : Below z3.heap.size z3 (z3.alloc (.cells #[.slice (some ⟨vg2, 0, none⟩) m2.ss.length vc2, .slice va2 m2.line.length vd2, .int .i64 m2.closed] 45)) := (Below.refl _ _).alloc (Nat.le_refl _) _
          have hbb := hb.trans (hbx.mono hb.size)
          have hB14 := hB12.below' hbb
          have hrow14 := hrow12.below hbb
          have hown14 := hown12.stable hbb.size (fun x hx => hbb.block x (hown12.lt hx))
          have hownb14 := hownb.stable hbx.size (fun x hx => hbx.block x (hownb.lt hx))
          have hsl14 := hsl.stable (hbx.block vg2 (hsl.lt hss2.1))
          clear hv hb hbx hbb hB12 hrow12 hsl hown12 hownb
          go_upto_region 32 with (fail)
          generalize z3.alloc (.cells #[.slice (some ⟨vg2, 0, none⟩) m2.ss.length vc2, .slice va2 m2.line.length vd2, .int .i64 m2.closed] 45) = w14 at *
          generalize z3.heap.size = vb at *
          have hvgl := hsl14.lt hss2.1
          have HO14 := Lib.hid hown14
          have HOB := Lib.hid hownb14
          have HB := Lib.hid hB14
          have HR := Lib.hid hrow14
          have HU := Lib.hid rU
          have HS := Lib.hid hsl14
          have HND := Lib.hid hnd
          have HLE := Lib.hid (show (dropped m.line wk).length ≤ 8 by omega)
          clear hown14 hownb14 hB14 hrow14 rU hsl14 hnd hfew hfm
          go_wp2_with fail
          go_loopw [20] (fun js wr => ∃ w', w' = wr ∧ ∃ j : Nat, j ≤ m2.ss.length ∧ js = .int .i64 j ∧ Below w14.heap.size w14 w') (fun js _ => m2.ss.length - (intOf js).toNat)
          case atStart => exact ⟨_, rfl, 0, by omega, rfl, Below.refl _ _⟩
          case round =>
            obtain ⟨wr2, rfl, j, hj, rfl, hbj⟩ := hrel
            have rU2 := HU.out.below hbj
            have d0 : wr2.cell? ⟨vb, 0, none⟩ = some (.slice (some ⟨vg2, 0, none⟩) m2.ss.length vc2) := rU2.cell 0
            have d1 : wr2.cell? ⟨vb, 1, none⟩ = some (.slice va2 m2.line.length vd2) := rU2.cell 1
            have d2 : wr2.cell? ⟨vb, 2, none⟩ = some (.int .i64 m2.closed) := rU2.cell 2
            have j0 : (0 : Int) ≤ (j : Int) := by omega
            by_cases hjl : j < m2.ss.length
            · obtain ⟨s, hs⟩ : ∃ s, m2.ss[j]? = some s := ⟨_, List.getElem?_eq_getElem hjl⟩
              have hsl2 := HS.out.stable (hbj.block vg2 hvgl)
              have hcs := hsl2.get hs
              have hfs := fun h => fair_slot hI2 h (List.mem_of_getElem? hs)
              obtain ⟨s0, s1, s2, s3, s4, s5, s6, s7, s8⟩ := s
              simp only at hcs hfs
              obtain ⟨c0, c1, c2, c3, c4, c5, c6, c7, c8⟩ := hcs
              have j1 : (j : Int) < (m2.ss.length : Int) := by omega
              have j2 : (j : Int) ≤ (m2.ss.length : Int) - 1 := by omega
              have HFS := Lib.hid hfs
              have rS := RowAt.new wr2 #[.int .i64 s0, .int .i64 s1, .int .i64 s2, .bool s3, .bool s4, .int .i64 s5, .int .i64 s6, .int .i64 s7, .int .i64 s8] 59
              have hbs : Below wr2.heap.size wr2 (wr2.alloc (.cells #[.int .i64 s0, .int .i64 s1, .int .i64 s2, .bool s3, .bool s4, .int .i64 s5, .int .i64 s6, .int .i64 s7, .int .i64 s8] 59)) := (Below.refl _ _).alloc (Nat.le_refl _) _
              have rU3 := rU2.below hbs
              have hbn := hbj.trans (hbs.mono hbj.size)
              clear hs hfs hsl2 d2 rU2 hbj hbs
              go_upto_region 36 with (fail)
              generalize wr2.alloc (.cells #[.int .i64 s0, .int .i64 s1, .int .i64 s2, .bool s3, .bool s4, .int .i64 s5, .int .i64 s6, .int .i64 s7, .int .i64 s8] 59) = w15 at *
              generalize wr2.heap.size = sb at *
              have d1 : w15.cell? ⟨vb, 1, none⟩ = some (.slice va2 m2.line.length vd2) := rU3.cell 1
              have g0 : w15.cell? ⟨sb, 0, none⟩ = some (.int .i64 s0) := rS.cell 0
              have g3 : w15.cell? ⟨sb, 3, none⟩ = some (.bool s3) := rS.cell 3
              have hbn2 := hbn
              clear c0 c1 c2 c3 c4 c5 c6 c7 c8 d0 rU3 rS hbn
              by_cases hl0 : m2.line = []
              · have hlz : m2.line.length = 0 := by rw [hl0]; rfl
                rw [hlz] at d1
                clear HFS hl0 hlz
                go_wp2_with fail
                go_round
                case rel => exact ⟨_, rfl, j + 1, by omega, rfl, hbn2⟩
                case measure => simp [intOf] <;> omega
              · obtain ⟨f1, f2⟩ := HFS.out hl0
                have hlp : (0 : Int) < (m2.line.length : Int) := Int.ofNat_lt.2 (List.length_pos_iff.2 hl0)
                have f3 : (s0 == 0) = false := by simpa using f1
                clear HFS hl0 f1
                by_cases f4 : s0 = 2
                · obtain rfl := f2 f4
                  subst f4
                  clear f2
                  go_wp2_with fail
                  go_round
                  case rel => exact ⟨_, rfl, j + 1, by omega, rfl, hbn2⟩
                  case measure => simp [intOf] <;> omega
                · have f5 : (s0 == 2) = false := by simpa using f4
                  clear f2 f4
                  go_wp2_with fail
                  go_round
                  case rel => exact ⟨_, rfl, j + 1, by omega, rfl, hbn2⟩
                  case measure => simp [intOf] <;> omega
            · as_aux_lemma =>
                obtain rfl : j = m2.ss.length := by omega
                have j1 : ¬ ((m2.ss.length : Nat) : Int) < (m2.ss.length : Int) := by omega
                have hcapN := hI2.cap
                have hcl0 := hI2.cl
                have hcls := hI2.cls
                have d4 : wr2.cell? ⟨cb, 3, none⟩ = some (.int .i64 c.waiters) := (HR.out.below hbj).cell 3
                have w1 : ¬ c.waiters < (m2.line.length : Int) := by rw [← hcf2]; omega
                have HCL := Lib.hid hcl0
                have HCS := Lib.hid hcls
                have hsd := OwnS.at (HO14.out.stable hbj.size (fun x hx => hbj.block x (HO14.out.lt hx)))
                have HSD := Lib.hid hsd
                have HBJ := Lib.hid hbj
                have HI2 := Lib.hid hI2
                have HRAN := Lib.hid hran2
                have HCF2 := Lib.hid hcf2
                clear hcapN hcl0 hcls hsd hbj hI2 hran2 hcf2 hI hran rU2
                go_upto_region 38 with (fail)
                go_cut [162] from 43 to 220 (fun s wx => s = .bool false ∧ wr2 = wx)
                case first =>
                  by_cases hc0 : m2.closed = 0
                  · rw [hc0] at d2
                    clear hc0
                    go_wp2_with fail
                    go_meet
                    case rel => exact ⟨rfl, rfl⟩
                  · have hlz : m2.line.length = 0 := by rw [HCL.out hc0]; rfl
                    rw [hlz] at d1 w1
                    have w2 : ¬ c.waiters < 0 := by simpa using w1
                    have hcp : (0 : Int) < m2.closed := by have := HCS.out; omega
                    clear hc0 hlz w1
                    go_wp2_with fail
                    go_meet
                    case rel => exact ⟨rfl, rfl⟩
                case rest =>
                  obtain ⟨rfl, rfl⟩ := hcut
                  have hdr := drop_any wr2 (.slice va m.line.length vd) m.line HSD.out (by omega) wk
                  clear d0 d1 d2 d4 w1
                  go_wp2_with fail
                  refine hdr.mono ?_
                  rintro e w16 ⟨v', rfl, hown', -, hb16⟩
                  have hB16 := HB.out.below' (HBJ.out.trans (hb16.mono HBJ.out.size))
                  have hrow16 := HR.out.below (HBJ.out.trans (hb16.mono HBJ.out.size))
                  have rU16 := HU.out.below (HBJ.out.trans (hb16.mono HBJ.out.size))
                  have hbn := HBJ.out.trans (hb16.mono HBJ.out.size)
                  have hsw := OwnS.at (HOB.out.stable hbn.size (fun x hx => hbn.block x (HOB.out.lt hx)))
                  obtain ⟨ra, rc, rfl⟩ := hown'.form
                  have hrc : (dropped m.line wk).length ≤ rc := by
                    rcases hown'.2 with ⟨h1, h2⟩ | ⟨g, off, cap, h1, h2, -⟩
                    · simp only [Value.slice.injEq] at h1; omega
                    · simp only [Value.slice.injEq] at h1; omega
                  have hsr := OwnS.at hown'
                  have hfa := HFR.out
                  generalize hdd : dropped m.line wk = d at *
                  clear hdd hdr hb16 hown' HSD HBJ HOB HO14 HU HR HB hfew8 hfew2 hbn
                  have HSR := Lib.hid hsr
                  have HSW := Lib.hid hsw
                  have HFA := Lib.hid hfa
                  have HB16 := Lib.hid hB16
                  have HR16 := Lib.hid hrow16
                  have HRC := Lib.hid hrc
                  clear hfa hB16 hrow16 hrc
                  obtain ⟨sa, sc, hse, hsm, hsx⟩ := hsr
                  simp only [Value.slice.injEq, List.length_map] at hse
                  obtain ⟨rfl, -, rfl⟩ := hse
                  obtain ⟨ta, tc, hte, htm, htx⟩ := hsw
                  simp only [Value.slice.injEq, List.length_map] at hte
                  obtain ⟨rfl, -, rfl⟩ := hte
                  have HSX := Lib.hid hsx
                  have HTX := Lib.hid htx
                  clear hsx htx hsm htm
                  go_upto_block 5 with (fail)
                  go_cut [23] from 43 to 220 (fun s23 wx => ∃ n : Nat, n ≤ d.length ∧ s23 = .int .i64 n ∧ Below w16.heap.size w16 wx ∧ ∀ w0, m2.line[0]? = some w0 → d.length ≤ n ∨ d[n]? = some w0)
                  case first =>
                    go_wp2_with fail
                    go_loopw [23] (fun ns wr => ∃ w', w' = wr ∧ ∃ n : Nat, n ≤ d.length ∧ ns = .int .i64 n ∧ Below w16.heap.size w16 w') (fun ns _ => d.length - (intOf ns).toNat)
                    case atStart => exact ⟨_, rfl, 0, by omega, rfl, Below.refl _ _⟩
                    case round =>
                      obtain ⟨wr3, rfl, n, hn, rfl, hbn⟩ := hrel
                      have d1 : wr3.cell? ⟨vb, 1, none⟩ = some (.slice va2 m2.line.length vd2) := (rU16.below hbn).cell 1
                      have n0 : (0 : Int) ≤ (n : Int) := by omega
                      have n7 : (d.length : Int) ≤ 8 := by have := HLE.out; omega
                      have n8 : (n : Int) + 1 ≤ 9 := by omega
                      have HBN := Lib.hid hbn
                      clear hbn
                      by_cases hnd : n < d.length
                      · have n1 : (n : Int) < (d.length : Int) := by omega
                        have n2 : (n : Int) ≤ (d.length : Int) - 1 := by omega
                        cases hm2 : m2.line with
                        | nil =>
                          have hlz : m2.line.length = 0 := by rw [hm2]; rfl
                          rw [hlz] at d1
                          have HM2 := Lib.hid hm2
                          clear hm2 hlz
                          go_wp2_with fail
                          go_quiet (fail)
                          go_wp2_with fail
                          go_meet
                          case rel => exact ⟨n, by omega, rfl, HBN.out.trans (bdrewN (Below.refl _ _) nq |>.mono HBN.out.size), fun w0 h => by rw [HM2.out] at h; simp at h⟩
                        | cons w0 t =>
                          obtain ⟨y, hy⟩ : ∃ y, d[n]? = some y := ⟨_, List.getElem?_eq_getElem hnd⟩
                          have hsx := HSX.out
                          rcases hsx with hsx | ⟨g1, o1, hga, hsx⟩
                          · simp at hsx; subst hsx; simp at hnd
                          have htx := HTX.out
                          rcases htx with htx | ⟨g2, o2, hgb, htx⟩
                          · rw [hm2] at htx; simp at htx
                          subst hga hgb
                          have q1 : w16.cell? ⟨g1, o1 + n, none⟩ = some (.int .i64 y) := hsx n _ (by simp [hy])
                          have q2 : w16.cell? ⟨g2, o2 + 0, none⟩ = some (.int .i64 w0) := htx 0 _ (by simp [hm2])
                          have e1 : wr3.cell? ⟨g1, o1 + n, none⟩ = some (.int .i64 y) := (HBN.out.cell (World.block_lt_of_cell? _ _ q1)).trans q1
                          have e2 : wr3.cell? ⟨g2, o2, none⟩ = some (.int .i64 w0) := (HBN.out.cell (World.block_lt_of_cell? _ _ q2)).trans q2
                          obtain ⟨ln, hln⟩ : ∃ ln, ln = m2.line.length := ⟨_, rfl⟩
                          have n3 : (0 : Int) < (ln : Int) := Int.ofNat_lt.2 (by rw [hln, hm2]; simp)
                          have n3' : 0 < ln := by rw [hln, hm2]; simp
                          have n4 : (0 : Int) ≤ (ln : Int) - 1 := by omega
                          rw [← hln] at d1
                          have HM2 := Lib.hid hm2
                          have HY := Lib.hid hy
                          clear hm2 hy hsx htx q1 q2 hln
                          by_cases hyw : y = w0
                          · have f1 : (y != w0) = false := by simp [hyw]
                            have HYW := Lib.hid hyw
                            clear hyw
                            go_wp2_with fail
                            go_quiet (fail)
                            go_wp2_with fail
                            go_meet
                            case rel => exact ⟨n, by omega, rfl, HBN.out.trans (bdrewN (Below.refl _ _) nq |>.mono HBN.out.size), fun w1 h => .inr (by rw [HM2.out] at h; simp at h; rw [HY.out, HYW.out, h])⟩
                          · have f1 : (y != w0) = true := by simp [hyw]
                            clear hyw
                            go_wp2_with fail
                            go_quiet (fail)
                            go_wp2_with fail
                            go_round
                            case rel => exact ⟨_, rfl, n + 1, by omega, rfl, HBN.out.trans (bdrewN (Below.refl _ _) nq |>.mono HBN.out.size)⟩
                            case measure => simp [intOf] <;> omega
                      · obtain rfl : n = d.length := by omega
                        have n1 : ¬ ((d.length : Nat) : Int) < (d.length : Int) := by omega
                        go_wp2_with fail
                        go_quiet (fail)
                        go_wp2_with fail
                        go_meet
                        case rel => exact ⟨d.length, by omega, rfl, HBN.out.trans (bdrewN (Below.refl _ _) nq |>.mono HBN.out.size), fun w0 h => .inl (Nat.le_refl _)⟩
                  case rest =>
                    obtain ⟨n, hn, rfl, hb17, hhd⟩ := hcut
                    generalize wc = w17 at *
                    have HHD := Lib.hid hhd
                    have HB17 := Lib.hid hb17
                    have b0 : (0 : Int) ≤ (n : Int) := by omega
                    have b1 : (n : Int) ≤ (d.length : Int) := by omega
                    have b2 : (n : Int) ≤ (rc : Int) := by have := HRC.out; omega
                    have b3 : (0 : Int) ≤ (rc : Int) - (n : Int) := by omega
                    have b4 : (0 : Int) ≤ (d.length : Int) - (n : Int) := by omega
                    clear hhd hb17
                    go_upto_region 44 with (fail)
                    go_cut [22] from 43 to 220 (fun s22 wx => (∃ x y, s22 = .slice x (d.length - n) y ∧ SliceAt w16 (.slice x (d.length - n) y) ((d.drop n).map (Value.int .i64))) ∧ w17 = wx)
                    case first =>
                      have hsd := slice_drop_eq ra d.length rc n (d.map (Value.int .i64)) w16 HSR.out hn HRC.out
                      rw [← List.map_drop] at hsd
                      have HSDR := Lib.hid hsd
                      clear hsd
                      by_cases hck : rc = n
                      · have hsd := HSDR.out
                        rw [if_pos hck] at hsd
                        subst hck
                        rw [Nat.sub_self] at hsd
                        have HS2 := Lib.hid hsd
                        clear hsd HSDR
                        go_wp2_with fail
                        go_meet
                        case rel => exact ⟨⟨_, _, rfl, HS2.out⟩, rfl⟩
                      · have hsd := HSDR.out
                        rw [if_neg hck] at hsd
                        simp only [Nat.mul_one] at hsd
                        have HS2 := Lib.hid hsd
                        clear hsd HSDR
                        go_wp2_with fail
                        go_meet
                        case rel => exact ⟨⟨_, _, rfl, HS2.out⟩, rfl⟩
                    case rest =>
                      obtain ⟨⟨x2, y2, rfl, hsr2⟩, rfl⟩ := hcut
                      obtain ⟨sa2, sc2, hse2, -, hsx2⟩ := hsr2
                      have hln : (d.drop n).length = d.length - n := by simp
                      simp only [Value.slice.injEq] at hse2
                      obtain ⟨rfl, -, rfl⟩ := hse2
                      have HSX2 := Lib.hid hsx2
                      obtain ⟨dn, hdn⟩ : ∃ dn : Nat, dn = d.length - n := ⟨_, rfl⟩
                      try simp only [List.length_map, List.length_drop]
                      rw [← hdn]
                      have HDN := Lib.hid hdn
                      clear hsx2 hdn b0 b1 b2 b3 b4 hln
                      have hdn0 : dn ≤ 8 := by have h1 := HDN.out; have h2 := HLE.out; omega
                      go_wp2_with fail
                      go_loopw [24] (fun ks wr => ∃ w', w' = wr ∧ ∃ q4 : Nat, q4 ≤ dn ∧ ks = .int .i64 q4 ∧ Below w16.heap.size w16 w') (fun ks _ => dn - (intOf ks).toNat)
                      case atStart => exact ⟨_, rfl, 0, by omega, rfl, HB17.out⟩
                      case round =>
                        obtain ⟨wr4, rfl, q4, hq4, rfl, hbn⟩ := hrel
                        have d1 : wr4.cell? ⟨vb, 1, none⟩ = some (.slice va2 m2.line.length vd2) := (rU16.below hbn).cell 1
                        have q0 : (0 : Int) ≤ (q4 : Int) := by omega
                        have HBN := Lib.hid hbn
                        clear hbn
                        by_cases hqd : q4 < dn
                        · have n1 : (q4 : Int) < (dn : Int) := by omega
                          have n2 : (q4 : Int) ≤ (dn : Int) - 1 := by omega
                          cases hm2 : m2.line with
                          | nil =>
                            have hlz : m2.line.length = 0 := by rw [hm2]; rfl
                            rw [hlz] at d1
                            clear hm2 hlz
                            go_wp2_with fail
                            go_round
                            case rel => exact ⟨k + 1, by omega, rfl, p12, m2, _, (HB16.out.below' HBN.out).less (fun j hj => by rw [hj]; exact hKc), HRAN.out, HI2.out, HCF2.out, HR16.out.below HBN.out⟩
                            case measure => simp [intOf] <;> omega
                          | cons w0 t =>
                            obtain ⟨y, hy⟩ : ∃ y, d[n + q4]? = some y := ⟨_, List.getElem?_eq_getElem (by have := HDN.out; omega)⟩
                            have hp := fair_pos HND.out HFA.out (w0 := w0) (by rw [hm2]; rfl) (n := n) (HHD.out w0 (by rw [hm2]; rfl)) q4 y hy
                            have hsx := HSX2.out
                            rcases hsx with hsx | ⟨g1, o1, hga, hsx⟩
                            · have : (d.drop n).length = 0 := by simpa using congrArg List.length hsx
                              have := HDN.out
                              simp at *
                              omega
                            have htx := HTX.out
                            rcases htx with htx | ⟨g2, o2, hgb, htx⟩
                            · rw [hm2] at htx; simp at htx
                            subst hga hgb
                            have q1 : w16.cell? ⟨g1, o1 + q4, none⟩ = some (.int .i64 y) := hsx q4 _ (by rw [List.getElem?_map, List.getElem?_drop, hy]; rfl)
                            have q2 : w16.cell? ⟨g2, o2 + q4, none⟩ = some (.int .i64 y) := htx q4 _ (by rw [List.getElem?_map, hp]; rfl)
                            have e1 : wr4.cell? ⟨g1, o1 + q4, none⟩ = some (.int .i64 y) := (HBN.out.cell (World.block_lt_of_cell? _ _ q1)).trans q1
                            have e2 : wr4.cell? ⟨g2, o2 + q4, none⟩ = some (.int .i64 y) := (HBN.out.cell (World.block_lt_of_cell? _ _ q2)).trans q2
                            obtain ⟨ln, hln⟩ : ∃ ln, ln = m2.line.length := ⟨_, rfl⟩
                            have hql : q4 < ln := by rw [hln]; exact (List.getElem?_eq_some_iff.1 hp).1
                            have n3 : (0 : Int) < (ln : Int) := by omega
                            have n3' : 0 < ln := by omega
                            have n6' : ¬ ln ≤ q4 := by omega
                            have n4 : (q4 : Int) < (ln : Int) := by omega
                            have n5 : (q4 : Int) ≤ (ln : Int) - 1 := by omega
                            have n6 : ¬ (ln : Int) ≤ (q4 : Int) := by omega
                            rw [← hln] at d1
                            clear hm2 hy hsx htx q1 q2 hln hp
                            go_wp2_with fail
                            go_quiet (fail)
                            go_wp2_with fail
                            go_round
                            case rel => exact ⟨_, rfl, q4 + 1, by omega, rfl, HBN.out.trans (bdrewN (Below.refl _ _) nq |>.mono HBN.out.size)⟩
                            case measure => simp [intOf] <;> omega
                        · obtain rfl : q4 = dn := by omega
                          have n1 : ¬ ((q4 : Nat) : Int) < (q4 : Int) := by omega
                          go_wp2_with fail
                          go_round
                          case rel => exact ⟨k + 1, by omega, rfl, p12, m2, _, (HB16.out.below' HBN.out).less (fun j hj => by rw [hj]; exact hKc), HRAN.out, HI2.out, HCF2.out, HR16.out.below HBN.out⟩
                          case measure => simp [intOf] <;> omega
    · obtain rfl : k = l.length := by omega
      have hbe := hB.below
      go_wp2_with fail
      go_ret
      exact ⟨rfl, hbe⟩
end Go.Proofs.YtpmkgddjgebojaaGreatDoor.Mod

namespace Go.Proofs.YtpmkgddjgebojaaGreatDoor.modelFair
open Go.ChangeShapes Go.WideShapes Go.ChangeAt Go.RowKit
set_option linter.unusedVariables false
set_option linter.unusedSimpArgs false

theorem own : ownKnob Tryz.prog.godebug = none := by kernel_rfl
theorem laidOut : laidOutB Tryz.prog = true := by kernel_rfl

set_option maxRecDepth 100000 in
theorem lifted (os : Os) (started : os.Started) (H : Type) (enc : TypeId × Value → H) :
    ReturnsInHanded {} Tryz.checked os 6 .any (fun w args => (Rows.modelFairSpec.pre enc Tryz.prog Tryz.f6 [] false w args ∧ laidMetH Tryz.prog Mod.lst w) ∧ sizedMet enc Tryz.prog Tryz.f6 (OpenSpec.ofChange Rows.modelFairSpec) false w args) (Rows.modelFairSpec.post enc Tryz.prog Tryz.f6 false true false false) := by
  refine returnsInHanded_of_change_and (C := Tryz.checked) (X := fun w _ => laidMetH Tryz.prog Mod.lst w) (fun _ _ _ hh h => h.of_heap hh) own started (by kernel_rfl) Tryz.func6
    (ChangeSpec.witness_shaped (enc := enc) (C := Tryz.checked) (os := os) (X := fun w _ => laidMetH Tryz.prog Mod.lst w) false (World.doorLaid Tryz.prog 23 os) #[.agg #[.int .u8 0, .int .u8 0, .int .u8 0, .int .u8 0, .int .u8 0], .slice none 0 0] 8 rfl (World.shaped_of_RefB (by kernel_rfl) (by kernel_rfl)) (by kernel_rfl) (by kernel_rfl) (by kernel_rfl) (Mod.door_met os _)) ?_
  intro W base args ds gs before hval0 hW _ _ hL _
  have hval : ∀ (j : Nat) t v, Tryz.f6.params[j]? = some t → args[j]? = some v → Value.okWide Tryz.prog W .any base t v := hval0
  have hW' := hW
  obtain ⟨p, q, hA0, hV, rfl, hfz, hnd⟩ := hW
  have hA : DataW.TrodAll enc Tryz.prog W 0 (fun _ => true) true Tryz.f6.params.toList args.toList ds p := hA0
  rw [Tryz.params6] at hA hval
  obtain ⟨v0, vs0, d0, ds0, p0, q0, hargs, rfl, rfl, h0, r0⟩ := trodAll_cons hA
  obtain ⟨v1, vs1, d1, ds1, p1, q1, rfl, rfl, rfl, h1, r1⟩ := trodAll_cons r0
  obtain ⟨rfl, rfl, rfl⟩ := trodAll_nil r1
  obtain rfl : args = #[v0, v1] := by cases args; simp_all
  obtain ⟨rfl, rfl⟩ := trodVars_none hV
  have k0 := h0
  have lt0 : ∀ x ∈ p0, x.block < W.heap.size := by obtain ⟨m, hm⟩ := k0; exact DataW.trod_lt m _ _ _ hm
  obtain ⟨g0a, g0b, g0c, g0d, g0e, rfl, x0a, x0b, x0c, x0d, x0e⟩ := Mod.open_given (hval 0 49 v0 rfl rfl) h0
  have k1 := h1
  have lt1 : ∀ x ∈ p1, x.block < W.heap.size := by obtain ⟨m, hm⟩ := k1; exact DataW.trod_lt m _ _ _ hm
  obtain ⟨a1, len1, cap1, e1⟩ := okWide_slice Tryz.underlying50 (hval 1 50 v1 rfl rfl)
  obtain ⟨l1, wl1, -⟩ := Mod.open_turns e1 h1
  have hLd := Mod.of_laid hL
  clear hA0 hval0
  refine (Mod.modelFair_walk W hLd _ _ _ _ _ x0a x0b x0c x0d x0e _ l1 wl1).mono fun e W' ⟨he, bel⟩ => ?_
  subst he
  exact ⟨_, rfl, _, _, _, [], _, [], hW', trodAll_mk1 (shut_bool Tryz.underlying4 _), (trodAll_cons_mk (Below.trod laidOut (by kernel_rfl) (of_decide_eq_true (by kernel_rfl)) k0 bel lt0) (trodAll_cons_mk (Below.trod laidOut (by kernel_rfl) (of_decide_eq_true (by kernel_rfl)) k1 bel lt1) trodAll_mk0)), rfl, bel.frame _, fun h => by cases h⟩

theorem over : Rows.modelFairRow.holds Tryz.pinned (OpenSpec.ofChange Rows.modelFairSpec) :=
  OpenClaim.holds_of_wide 6 Tryz.f6 rfl rfl rfl rfl rfl rfl rfl ⟨rfl, rfl, rfl, rfl, rfl⟩ rfl rfl rfl rfl rfl (by kernel_rfl) Tryz.func6 (by kernel_rfl)
    (of_decide_eq_true (by kernel_rfl)) (by unfold Func.isWrapper; first | (rw [if_pos (by decide +kernel)]; kernel_rfl) | (rw [if_neg (by decide +kernel)]; exact ⟨rfl, rfl⟩))
    (fun os started H enc _ => lifted os started H enc)

theorem proved : Rows.ModelFairCardSaid :=
  Claim7.holds_tied_plain_at .later [] [.data] true (true, "fc8267f2bfccbddf267fa1b35529e40ef16cac4113fcc7d60f2cec3809bf4342") false
    over (fun _ h => by cases h) (by kernel_rfl) (fun _ h => by cases h) modelFair_row_tie rfl ⟨rfl, rfl⟩ (by kernel_rfl) rfl
    (fun f fn hf hfn => by
      obtain rfl : f = 6 := Option.some.inj ((show Tryz.prog.funcNamed "coachhouse/coachhouselaw23.ModelFair" = some 6 by kernel_rfl).symm.trans hf) |>.symm
      obtain rfl : fn = Tryz.f6 := (Option.some.inj (Tryz.func6.symm.trans hfn)).symm
      exact ⟨by kernel_rfl, fun j t ht => by
        rw [Tryz.params6] at ht
        have hm : t ∈ [49, 50] := by simpa using Array.mem_of_getElem? ht
        have hall : ([49, 50].all fun u => !Tryz.prog.wantsStandIn u) = true := by kernel_rfl
        exact (show Tryz.prog.wantsStandIn t = false by simpa using List.all_eq_true.1 hall t hm)⟩)
    (by kernel_rfl)
#print axioms proved
end Go.Proofs.YtpmkgddjgebojaaGreatDoor.modelFair

