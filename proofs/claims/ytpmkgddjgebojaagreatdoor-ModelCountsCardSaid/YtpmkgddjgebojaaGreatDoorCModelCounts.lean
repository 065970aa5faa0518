/- The statement ModelCounts holds, for every input: the call answers true and leaves what it was handed as it was, where the package's table slot.fields is laid as the program's text lays it (the tied card). -/
import Derived.Test.YtpmkgddjgebojaaGreatDoorA1
import Derived.Test.YtpmkgddjgebojaaGreatDoorA2
import Derived.Test.YtpmkgddjgebojaaGreatDoorA6
import Derived.Test.YtpmkgddjgebojaaGreatDoorRows
import Derived.Test.YtpmkgddjgebojaaGreatDoorTie
import Derived.Test.YtpmkgddjgebojaaGreatDoorCards
import Derived.WalkKit
import Derived.ProofKit
import Derived.OpenShut
import Derived.ShutString
import Derived.ChangeOld
import Derived.Below
import Derived.LaidMore
import Derived.SevenTiedAt
import Derived.Deep.QuietTactic
import Derived.BigQuiet
import Derived.Lib.Hide
import Derived.Deep.CutBlock

namespace Go.Proofs.YtpmkgddjgebojaaGreatDoor.Mod
set_option linter.unusedVariables false
set_option linter.unusedSimpArgs false
open Go.RowKit Hp Slot RowL Life

theorem drewN_two (w : World) (a b : Nat) : (w.drewN a).drewN b = w.drewN (a + b) := by simp [World.drewN, Nat.add_assoc]

set_option maxRecDepth 100000 in
set_option maxHeartbeats 4000000 in
theorem same_any (w : World) (s1 s2 n1 n2 c1 c2 : Nat) (l1 l2 : List S) (h1 : SlotsAt w s1 l1) (h2 : SlotsAt w s2 l2) (e1 : l1.length = n1) (e2 : l2.length = n2) (m1 : n1 ≤ 1000) (m2 : n2 ≤ 1000) :
    Calls Tryz.prog 29 #[.slice (some ⟨s1, 0, none⟩) n1 c1, .slice (some ⟨s2, 0, none⟩) n2 c2] w fun e w' => e = .returned (.bool (decide (l1 = l2))) ∧ ∃ n, w' = w.drewN n := by
  by_cases hl : n1 = n2
  · subst hl
    have hl' : ((n1 : Int) != (n1 : Int)) = false := by simp
    have E1 := Lib.hid e1
    have E2 := Lib.hid e2
    clear e1 e2
    go_enter Tryz.func29, Tryz.ntmps29
    go_wp2
    go_loopw [5] (fun i wr => ∃ k : Nat, k ≤ n1 ∧ i = .int .i64 k ∧ RowKit.Hid (l1.take k = l2.take k) ∧ ∃ n, wr = w.drewN n) (fun i _ => n1 - (intOf i).toNat)
    case atStart => exact ⟨0, by omega, rfl, by show l1.take 0 = l2.take 0; simp, 0, rfl⟩
    case round =>
      obtain ⟨k, hk, rfl, ht, n, rfl⟩ := hrel
      by_cases hlt : k < n1
      · obtain ⟨x, hx⟩ : ∃ x, l1[k]? = some x := ⟨_, List.getElem?_eq_getElem (by have := E1.out; omega)⟩
        obtain ⟨y, hy⟩ : ∃ y, l2[k]? = some y := ⟨_, List.getElem?_eq_getElem (by have := E2.out; omega)⟩
        obtain ⟨a0, a1, a2, a3, a4, a5, a6, a7, a8⟩ := h1.get hx
        obtain ⟨b0, b1, b2, b3, b4, b5, b6, b7, b8⟩ := h2.get hy
        have k0 : (0 : Int) ≤ (k : Int) := by omega
        have k1 : (k : Int) < (n1 : Int) := by omega
        have k2 : (k : Int) ≤ (n1 : Int) - 1 := by omega
        have Hx := Lib.hid hx
        have Hy := Lib.hid hy
        clear hx hy
        have hq := fun W => eq_slot W x.state x.own x.streams x.broken x.marked x.uses x.gen x.epoch x.version y.state y.own y.streams y.broken y.marked y.uses y.gen y.epoch y.version
        by_cases hxy : x = y
        · have hd : decide ((⟨x.state, x.own, x.streams, x.broken, x.marked, x.uses, x.gen, x.epoch, x.version⟩ : S) = ⟨y.state, y.own, y.streams, y.broken, y.marked, y.uses, y.gen, y.epoch, y.version⟩) = true := decide_eq_true hxy
          rw [hd] at hq
          have HT := Lib.hid (show l1.take (k + 1) = l2.take (k + 1) by rw [List.take_add_one, List.take_add_one, ht.out, Hx.out, Hy.out, hxy])
          clear hxy hd ht
          go_wp2
          go_quiet (fail)
          go_wp2
          go_roundw
          case rel => exact ⟨k + 1, by omega, by go_num, HT, _, rfl⟩
          case measure => simp [intOf]; omega
        · have hd : decide ((⟨x.state, x.own, x.streams, x.broken, x.marked, x.uses, x.gen, x.epoch, x.version⟩ : S) = ⟨y.state, y.own, y.streams, y.broken, y.marked, y.uses, y.gen, y.epoch, y.version⟩) = false := decide_eq_false hxy
          rw [hd] at hq
          have hne : decide (l1 = l2) = false := decide_eq_false (fun e => by have a := Hx.out; rw [e, Hy.out] at a; exact hxy (by simpa using a.symm))
          have HNE := Lib.hid hne
          clear hxy hd ht hne
          go_wp2
          go_quiet (fail)
          go_wp2
          go_ret
          exact ⟨Base.ret_bool HNE.out.symm, _, drewN_two _ _ _⟩
      · have hall : decide (l1 = l2) = true := decide_eq_true (by have a := ht.out; rwa [List.take_of_length_le (by have := E1.out; omega), List.take_of_length_le (by have := E2.out; omega)] at a)
        have HA := Lib.hid hall
        clear hall ht
        go_wp2
        go_ret
        exact ⟨Base.ret_bool HA.out.symm, n, rfl⟩
  · have hl' : ((n1 : Int) != (n2 : Int)) = true := by simp; omega
    have hne := Lib.hid (show decide (l1 = l2) = false from decide_eq_false (fun e => hl (by rw [← e1, ← e2, e])))
    clear e1 e2 h1 h2
    go_enter Tryz.func29, Tryz.ntmps29
    go_wp2
    go_ret
    exact ⟨Base.ret_bool hne.out.symm, 0, rfl⟩
end Go.Proofs.YtpmkgddjgebojaaGreatDoor.Mod

namespace Go.Proofs.YtpmkgddjgebojaaGreatDoor.Ref01
set_option linter.unusedVariables false
set_option linter.unusedSimpArgs false
open Go.RowKit Hp

set_option maxHeartbeats 1000000 in
theorem ints_any (w : World) (v1 v2 : Value) (l1 l2 : List Int) (h1 : SliceAt w v1 (l1.map (Value.int .i64))) (h2 : SliceAt w v2 (l2.map (Value.int .i64))) :
    Calls Tryz.prog 30 #[v1, v2] w fun e w' => e = .returned (.bool (decide (l1 = l2))) ∧ ∃ n, w' = w.drewN n := by
  obtain ⟨a1, c1, rfl, m1, q1⟩ := h1
  obtain ⟨a2, c2, rfl, m2, q2⟩ := h2
  simp only [List.length_map] at m1 m2 ⊢
  unfold maxLen at m1 m2
  by_cases hl : l1.length = l2.length
  · have hl' : ((l1.length : Int) != (l2.length : Int)) = false := by simp [hl]
    have Hl := Lib.hid hl
    clear hl
    go_enter Tryz.func30, Tryz.ntmps30
    go_wp2
    go_loopw [5] (fun i wr => ∃ k : Nat, k ≤ l1.length ∧ i = .int .i64 k ∧ l1.take k = l2.take k ∧ ∃ n, wr = w.drewN n) (fun i _ => l1.length - (intOf i).toNat)
    case atStart => exact ⟨0, by omega, rfl, by simp, 0, rfl⟩
    case round =>
      obtain ⟨k, hk, rfl, ht, n, rfl⟩ := hrel
      by_cases hlt : k < l1.length
      · have hlt2 : k < l2.length := by have := Hl.out; omega
        obtain ⟨x, hx⟩ : ∃ x, l1[k]? = some x := ⟨_, List.getElem?_eq_getElem hlt⟩
        obtain ⟨y, hy⟩ : ∃ y, l2[k]? = some y := ⟨_, List.getElem?_eq_getElem hlt2⟩
        rcases q1 with q1 | ⟨g1, o1, rfl, q1⟩
        · simp at q1; subst q1; simp at hlt
        rcases q2 with q2 | ⟨g2, o2, rfl, q2⟩
        · simp at q2; subst q2; simp at hlt2
        have e1 : w.cell? ⟨g1, o1 + k, none⟩ = some (.int .i64 x) := q1 k _ (by simp [hx])
        have e2 : w.cell? ⟨g2, o2 + k, none⟩ = some (.int .i64 y) := q2 k _ (by simp [hy])
        have Ht := Lib.hid ht
        have Hx := Lib.hid hx
        have Hy := Lib.hid hy
        clear ht hx hy q1 q2
        by_cases hxy : x = y
        · subst hxy
          have hne : (x != x) = false := by simp
          go_wp2
          go_region
          go_wp2
          go_roundw
          case rel => exact ⟨k + 1, by omega, by go_num, by rw [List.take_add_one, List.take_add_one, Ht.out, Hx.out, Hy.out], n + 1, rfl⟩
          case measure => simp [intOf]; omega
        · have hne : (x != y) = true := by simp [hxy]
          have Hxy := Lib.hid hxy
          clear hxy
          go_wp2
          go_region
          go_wp2
          go_ret
          refine ⟨Base.ret_bool ?_, n + 1, rfl⟩
          symm
          rw [decide_eq_false_iff_not]
          intro h
          have h3 := Hx.out
          rw [h, Hy.out] at h3
          exact Hxy.out (by simpa using h3.symm)
      · go_wp2
        go_ret
        refine ⟨Base.ret_bool ?_, n, rfl⟩
        symm
        rw [decide_eq_true_eq]
        rwa [List.take_of_length_le (by omega), List.take_of_length_le (by have := Hl.out; omega)] at ht
  · have hl' : ((l1.length : Int) != (l2.length : Int)) = true := by simp; omega
    go_enter Tryz.func30, Tryz.ntmps30
    go_wp2
    go_ret
    refine ⟨Base.ret_bool ?_, 0, rfl⟩
    symm
    rw [decide_eq_false_iff_not]
    intro h; exact hl (by rw [h])
end Go.Proofs.YtpmkgddjgebojaaGreatDoor.Ref01

namespace Go.Proofs.YtpmkgddjgebojaaGreatDoor.Mod
set_option linter.unusedVariables false
set_option linter.unusedSimpArgs false
open Go.RowKit Hp Slot RowL Life

theorem new_leased (c : Conf.Cf) : countAt (M.new c).ss 3 = 0 := count_zero fun s hs => by
  have h : s = S.zero := by simpa [M.new] using (List.mem_replicate.1 hs).2
  subst h
  simp [S.zero]
theorem stats_next {m : M} (h : Inv m) {n : Nat} (hn : n < m.ks.length) {a : Ask} (ha : a.op = 7) (hd : a.deadline ≤ 255) : Inv (m.ask n a).2 ∧ (m.ask n a).2.cf = m.cf ∧ countAt (m.ask n a).2.ss 3 = countAt m.ss 3 ∧
    (∀ (i : Nat) (w : Wk), (m.ask n a).2.ks[i]? = some w → ∃ w0, m.ks[i]? = some w0 ∧ (w.at' = 0 ↔ w0.at' = 0)) ∧ (Still m → (m.ask n a).2 = m) ∧ (∀ w, m.ks[n]? = some w → w.at' = 0 → Still (m.ask n a).2) := by
  refine ⟨h.ask _ _ hd, ask_cf _ _ _, ?_⟩
  rw [stats_ask m n ha]
  by_cases hc : m.can n a = true
  · rw [if_pos hc]
    exact ⟨tidy_leased h, fun i w hw => tidy_at0 h.toMid hw, fun hs => hs.tidy, fun w hw h0 => h.toMid.still⟩
  · rw [if_neg hc]
    refine ⟨rfl, fun i w hw => ⟨w, hw, Iff.rfl⟩, fun _ => rfl, fun w hw h0 => absurd ?_ hc⟩
    rw [can_op hw (by omega) (by omega), h0]; rfl

set_option maxRecDepth 100000 in
set_option maxHeartbeats 16000000 in
theorem modelCounts_walk (W : World) (hL : Laid W) (ga gb gc gd ge : Int) (xa : 0 ≤ ga ∧ ga < 256) (xb : 0 ≤ gb ∧ gb < 256) (xc : 0 ≤ gc ∧ gc < 256) (xd : 0 ≤ gd ∧ gd < 256) (xe : 0 ≤ ge ∧ ge < 256) (lv : Value) (l : List Tn) (hl : TurnsAt W lv l) :
    Calls Tryz.prog 7 #[.agg #[.int .u8 ga, .int .u8 gb, .int .u8 gc, .int .u8 gd, .int .u8 ge], lv] W fun e W' => e = .returned (.bool true) ∧ Below W.heap.size W W' := by
  have hbA : Below W.heap.size W (W.alloc (.cells #[.int .u8 ga, .int .u8 gb, .int .u8 gc, .int .u8 gd, .int .u8 ge] 49)) := (Below.refl _ _).alloc (Nat.le_refl _) _
  have haw := awake_any (W.alloc (.cells #[.int .u8 ga, .int .u8 gb, .int .u8 gc, .int .u8 gd, .int .u8 ge] 49)) (hL.stable (hbA.block 0 (hL.lt (by decide))))
  have rA : RowAt (W.alloc (.cells #[.int .u8 ga, .int .u8 gb, .int .u8 gc, .int .u8 gd, .int .u8 ge] 49)) W.heap.size #[.int .u8 ga, .int .u8 gb, .int .u8 gc, .int .u8 gd, .int .u8 ge] 49 := RowAt.new _ _ _
  have hpos : 0 < W.heap.size := hL.lt (by decide)
  have HLd := Lib.hid hL
  have HL := Lib.hid hl
  obtain ⟨a, cp, rfl, htok, hcells⟩ := hl
  clear hcells hL htok
  go_enter Tryz.func7, Tryz.ntmps7
  go_wp2_with fail
  refine haw.mono ?_
  rintro e w1 ⟨rfl, hb1⟩
  have r1 := rA.below hb1
  clear haw rA
  by_cases hn : l.length ≤ 60
  rotate_left
  · have hn' : (60 : Int) < l.length := by omega
    go_wp2
    go_ret
    exact ⟨rfl, hbA.trans (hb1.mono hbA.size)⟩
  have hn' : ¬ (60 : Int) < l.length := by omega
  have d0 : w1.cell? ⟨W.heap.size, 0, none⟩ = some (.int .u8 ga) := r1.cell 0
  have d1 : w1.cell? ⟨W.heap.size, 1, none⟩ = some (.int .u8 gb) := r1.cell 1
  have d2 : w1.cell? ⟨W.heap.size, 2, none⟩ = some (.int .u8 gc) := r1.cell 2
  have d3 : w1.cell? ⟨W.heap.size, 3, none⟩ = some (.int .u8 gd) := r1.cell 3
  have d4 : w1.cell? ⟨W.heap.size, 4, none⟩ = some (.int .u8 ge) := r1.cell 4
  have hcf := conf_any w1 ga gb gc gd ge xa xb xc xd xe
  have hcr := confOf_right ga gb gc gd ge
  generalize confOf ga gb gc gd ge = c at *
  have hlb := HL.out.below (hbA.trans (hb1.mono hbA.size))
  go_wp2_with fail
  refine hcf.mono ?_
  rintro e w2 ⟨rfl, hb2⟩
  clear hcf d0 d1 d2 d3 d4 r1
  have rz := RowAt.new w2 #[.int .i64 0, .int .i64 0, .int .i64 0, .int .i64 0, .int .i64 0] 23
  have hst := conf_store rz rfl c
  have row3 := rz.set c.cells
  have hb3 : Below w2.heap.size w2 ((w2.alloc (.cells #[.int .i64 0, .int .i64 0, .int .i64 0, .int .i64 0, .int .i64 0] 23)).setRow w2.heap.size c.cells) := below_setRow ((Below.refl _ _).alloc (Nat.le_refl _) _) (Nat.le_refl _) _
  have hb13 : Below w1.heap.size w1 ((w2.alloc (.cells #[.int .i64 0, .int .i64 0, .int .i64 0, .int .i64 0, .int .i64 0] 23)).setRow w2.heap.size c.cells) := hb2.trans (hb3.mono hb2.size)
  have hbW : Below W.heap.size W ((w2.alloc (.cells #[.int .i64 0, .int .i64 0, .int .i64 0, .int .i64 0, .int .i64 0] 23)).setRow w2.heap.size c.cells) := (hbA.trans (hb1.mono hbA.size)).trans (hb13.mono (Nat.le_trans hbA.size hb1.size))
  have hcb : W.heap.size ≤ w2.heap.size := Nat.le_trans hbA.size (Nat.le_trans hb1.size hb2.size)
  have hsc : c.cells.size = 5 := rfl
  go_upto_region 5 with (fail)
  generalize (w2.alloc (.cells #[.int .i64 0, .int .i64 0, .int .i64 0, .int .i64 0, .int .i64 0] 23)).setRow w2.heap.size c.cells = w3 at *
  generalize w2.heap.size = cb at *
  clear hst rz hb13 hb3 hb2 hb1 hbA hsc hlb
  have hL3 : Laid w3 := HLd.out.stable (hbW.block 0 (HLd.out.lt (by decide)))
  have hl3 := HL.out.below hbW
  refine wp_region_lit ?_
  refine RowL.wpList_load_row rfl 23 (.tmp 6) rfl cb _ c.cells _ rfl row3 Tryz.underlying23 rfl (by kernel_rfl) ?_
  have hpl := m_new w3 c hcr hL3
  go_wp2_with fail
  refine hpl.mono ?_
  rintro e w4 ⟨p, rfl, hA, hnew, hb4⟩
  have row4 : RowAt w4 cb c.cells 23 := row3.below hb4
  have hcb3 : cb < w3.heap.size := row3.lt
  have hB4 : PlayB W (fun j => j = cb) p.mb (.slice none 0 0) w4 p (M.new c) [] := ⟨hpos, rfl, hA, ownS_nil _ _, fun j hj => by have := hnew j hj; have := hbW.size; omega, fun j hj => (fp_nil j hj).elim, fun j hj => (fp_nil j hj).elim, fun j hj => ⟨by have := hb4.size; omega, fun hm => by have := hnew j hm; omega, fun hm => fp_nil j hm⟩, hbW.trans (hb4.mono hbW.size)⟩
  have hInv := Inv.new hcr
  generalize p.mb = mb at *
  clear hpl hA hnew hb4 hL3 hl3 row3 hbW
  obtain ⟨i0, hi, hz0, hz1, hz2⟩ := info_parts ev_info
  have HC := Lib.hid hcr
  clear hcr
  have hcnt0 := new_leased c
  go_wp2_with fail
  go_loopw [9, 10, 11] (fun ev ls i wr => ∃ k : Nat, k ≤ l.length ∧ i = .int .i64 k ∧ ∃ q m evs, PlayB W (fun j => j = cb) mb ev wr q m evs ∧ Played c k m evs ∧ Inv m ∧ m.cf = c ∧ RowAt wr cb c.cells 23 ∧ ls = .int .i64 (countAt m.ss 3 : Nat)) (fun _ _ i _ => l.length - (intOf i).toNat)
  case atStart => exact ⟨0, by omega, rfl, p, _, _, hB4, .new, hInv, rfl, row4, by rw [hcnt0]; rfl⟩
  case round =>
    rename_i wr
    clear hB4 hInv row4 hcnt0
    obtain ⟨k, hk, rfl, q, m, evs, hB, hran, hI, hcm, hrow, rfl⟩ := hrel
    by_cases hlt : k < l.length
    · obtain ⟨t, ht⟩ : ∃ t, l[k]? = some t := ⟨_, List.getElem?_eq_getElem hlt⟩
      have hTw := HL.out.below hB.below
      obtain ⟨a', cp', he, htok, hT⟩ := hTw
      have hto : t.ok := htok t (List.mem_of_getElem? ht)
      clear htok
      cases he
      rcases hT with hT | ⟨g, off, rfl, hT⟩
      · subst hT; simp at hlt
      obtain ⟨tk, tw, tp, ts, tg, tn⟩ := t
      have hg : g < wr.heap.size := World.block_lt_of_cell? _ _ (hT k _ ht 0 _ rfl)
      have hcell : ∀ w', Below wr.heap.size wr w' → ∀ j u, (⟨tk, tw, tp, ts, tg, tn⟩ : Tn).cells[j]? = some u → w'.cell? ⟨g, off + k * 6 + j, none⟩ = some u := fun w' hb j u hu => (World.cell?_of_block (w := wr) (hb.block g hg)).trans (hT k _ ht j u hu)
      have hcrow : ∀ w', Below wr.heap.size wr w' → RowAt w' cb #[.int .i64 c.workers, .int .i64 c.slots, .int .i64 c.streams, .int .i64 c.waiters, .int .i64 c.uses] 23 := fun w' hb => hrow.below hb
      have hent : ∀ w', Below wr.heap.size wr w' → Calls Tryz.prog 21 #[.agg #[.int .u8 tk, .int .u8 tw, .int .u8 tp, .int .u8 ts, .int .u8 tg, .int .u8 tn], .agg #[.int .i64 c.workers, .int .i64 c.slots, .int .i64 c.streams, .int .i64 c.waiters, .int .i64 c.uses], u9] w' (EntryP w') := fun w' hb =>
        entry_any w' tk tw tp ts tg tn hto.1 hto.2.1 hto.2.2.1 hto.2.2.2.1 hto.2.2.2.2.1 hto.2.2.2.2.2 c HC.out u9 evs (by have := hran.len; omega) (hB.evs.stable hb.size (fun j hj => hb.block j (hB.evs.lt hj)))
      have HT := Lib.hid hT
      have b0 : (0 : Int) ≤ (k : Int) := by omega
      have b1 : (k : Int) < (l.length : Int) := by omega
      have b2 : (k : Int) ≤ (l.length : Int) - 1 := by omega
      clear hT
      go_upto_region 13 with (fail)
      go_cut [12] from 47 to 164 (fun s9 wx => (∃ eb : Nat, s9 = .pointer (some ⟨eb, 0, none⟩) ∧ wr.heap.size ≤ eb ∧ ∃ x : En, RowAt wx eb x.cells 54 ∧ x.ok) ∧ Below wr.heap.size wr wx)
      case first =>
        rename_i JJ KK hJJ hKK
        refine wp_region_held_drew (S := fun w' => Below wr.heap.size wr w') (by kernel_rfl) (by exact (Below.refl _ _).drew) (fun hHeld => ?_)
        refine takeg (i := 0) (d := some 53) (v := ?_) (by kernel_rfl) (by kernel_rfl) (by kernel_rfl) (by kernel_rfl) (fun _ _ _ h => h) (by kernel_rfl) ?_ hHeld ?_
        rotate_left
        · intro w hSw
          try dsimp only at hSw
          go_simp
          try with_reducible rfl
        try simp only [Act.put, List.setIfInBounds_toArray, List.set_cons_zero, List.set_cons_succ]
        refine takeg (i := 1) (d := some 54) (v := ?_) (by kernel_rfl) (by kernel_rfl) (by kernel_rfl) (by kernel_rfl) (fun _ _ _ h => h) (by kernel_rfl) ?_ hHeld ?_
        rotate_left
        · intro w hSw
          try dsimp only at hSw
          go_simp
          try with_reducible rfl
        try simp only [Act.put, List.setIfInBounds_toArray, List.set_cons_zero, List.set_cons_succ]
        refine takeg (i := 2) (d := some 55) (v := ?_) (by kernel_rfl) (by kernel_rfl) (by kernel_rfl) (by kernel_rfl) (fun _ _ _ h => h) (by kernel_rfl) ?_ hHeld ?_
        rotate_left
        · intro w hSw
          try dsimp only at hSw
          go_simp
          try with_reducible rfl
        try simp only [Act.put, List.setIfInBounds_toArray, List.set_cons_zero, List.set_cons_succ]
        refine takeg (i := 3) (d := some 56) (v := ?_) (by kernel_rfl) (by kernel_rfl) (by kernel_rfl) (by kernel_rfl) (fun _ _ _ h => h) (by kernel_rfl) ?_ hHeld ?_
        rotate_left
        · intro w hSw
          try dsimp only at hSw
          have c0 : w.cell? ⟨g, off + k * 6, none⟩ = some (.int .u8 tk) := hcell w hSw 0 _ rfl
          have c1 : w.cell? ⟨g, off + k * 6 + 1, none⟩ = some (.int .u8 tw) := hcell w hSw 1 _ rfl
          have c2 : w.cell? ⟨g, off + k * 6 + 2, none⟩ = some (.int .u8 tp) := hcell w hSw 2 _ rfl
          have c3 : w.cell? ⟨g, off + k * 6 + 3, none⟩ = some (.int .u8 ts) := hcell w hSw 3 _ rfl
          have c4 : w.cell? ⟨g, off + k * 6 + 4, none⟩ = some (.int .u8 tg) := hcell w hSw 4 _ rfl
          have c5 : w.cell? ⟨g, off + k * 6 + 5, none⟩ = some (.int .u8 tn) := hcell w hSw 5 _ rfl
          go_simp
          try with_reducible rfl
        try simp only [Act.put, List.setIfInBounds_toArray, List.set_cons_zero, List.set_cons_succ]
        refine takeg (i := 4) (d := some 57) (v := ?_) (by kernel_rfl) (by kernel_rfl) (by kernel_rfl) (by kernel_rfl) (fun _ _ _ h => h) (by kernel_rfl) ?_ hHeld ?_
        rotate_left
        · intro w hSw
          try dsimp only at hSw
          have c0 : w.cell? ⟨cb, 0, none⟩ = some (.int .i64 c.workers) := (hcrow w hSw).cell 0
          have c1 : w.cell? ⟨cb, 1, none⟩ = some (.int .i64 c.slots) := (hcrow w hSw).cell 1
          have c2 : w.cell? ⟨cb, 2, none⟩ = some (.int .i64 c.streams) := (hcrow w hSw).cell 2
          have c3 : w.cell? ⟨cb, 3, none⟩ = some (.int .i64 c.waiters) := (hcrow w hSw).cell 3
          have c4 : w.cell? ⟨cb, 4, none⟩ = some (.int .i64 c.uses) := (hcrow w hSw).cell 4
          go_simp
          try with_reducible rfl
        try simp only [Act.put, List.setIfInBounds_toArray, List.set_cons_zero, List.set_cons_succ]
        refine takeg (i := 5) (d := some 58) (v := ?_) (by kernel_rfl) (by kernel_rfl) (by kernel_rfl) (by kernel_rfl) (fun _ _ _ h => h) (by kernel_rfl) ?_ hHeld ?_
        rotate_left
        · intro w hSw
          try dsimp only at hSw
          go_simp
          try with_reducible rfl
        try simp only [Act.put, List.setIfInBounds_toArray, List.set_cons_zero, List.set_cons_succ]
        refine ready2 (i := 6) (k := 7) (by kernel_rfl) ?_ ?_
        · refine step_call 21 #[.tmp 56, .tmp 57, .tmp 58] #[57, 23, 52] (some 59) none (by kernel_rfl) (by kernel_rfl) #[.agg #[.int .u8 tk, .int .u8 tw, .int .u8 tp, .int .u8 ts, .int .u8 tg, .int .u8 tn], .agg #[.int .i64 c.workers, .int .i64 c.slots, .int .i64 c.streams, .int .i64 c.waiters, .int .i64 c.uses], u9] (by go_simp; try rfl) (enters_of Tryz.func21 (by kernel_rfl) rfl) ?_
          refine (hent _ hHeld).mono ?_
          rintro e w2 ⟨x, rfl, hx, hb2⟩
          have hb2' : Below wr.heap.size wr w2 := hHeld.trans (hb2.mono hHeld.size)
          refine ⟨_, rfl, hb2', fun hH2 => ?_⟩
          try simp only [Act.put, List.setIfInBounds_toArray, List.set_cons_zero, List.set_cons_succ]
          have hb3 : Below wr.heap.size wr (w2.alloc (.cells #[.int .i64 0, .int .i64 0, .int .i64 0, .int .i64 0, .bool false, .bool false, .int .i64 0, .int .i64 0, .int .i64 0, .int .i64 0, .bool false] 54)) := hb2'.alloc hb2'.size _
          refine ready1 (i := 7) (by kernel_rfl) (step_run (w' := w2.alloc (.cells #[.int .i64 0, .int .i64 0, .int .i64 0, .int .i64 0, .bool false, .bool false, .int .i64 0, .int .i64 0, .int .i64 0, .int .i64 0, .bool false] 54)) (some 12) (.pointer (some ⟨w2.heap.size, 0, none⟩)) (by kernel_rfl) (by kernel_rfl) (by go_simp; try rfl) hb3 (fun _ => ?_))
          try simp only [Act.put, List.setIfInBounds_toArray, List.set_cons_zero, List.set_cons_succ]
          have rz := RowAt.new w2 #[.int .i64 0, .int .i64 0, .int .i64 0, .int .i64 0, .bool false, .bool false, .int .i64 0, .int .i64 0, .int .i64 0, .int .i64 0, .bool false] 54
          have hb4 : Below wr.heap.size wr ((w2.alloc (.cells #[.int .i64 0, .int .i64 0, .int .i64 0, .int .i64 0, .bool false, .bool false, .int .i64 0, .int .i64 0, .int .i64 0, .int .i64 0, .bool false] 54)).setRow w2.heap.size x.cells) := below_setRow hb3 hb2'.size _
          have rx := rz.set x.cells
          refine ready1 (i := 8) (by kernel_rfl) (step_store_row 54 (.tmp 12) (.tmp 59) (by kernel_rfl) w2.heap.size 54 #[.int .i64 0, .int .i64 0, .int .i64 0, .int .i64 0, .bool false, .bool false, .int .i64 0, .int .i64 0, .int .i64 0, .int .i64 0, .bool false] x.cells rfl rfl rz rfl (by kernel_rfl) (by simp [En.cells, Value.oneCell']) hb4 (fun _ => ?_))
          try simp only [Act.put, List.setIfInBounds_toArray, List.set_cons_zero, List.set_cons_succ]
          refine wpAnyH_done (by kernel_rfl) ?_ _
          refine hKK _ _ (Met.intro (hJJ _ _ ?_))
          (repeat apply Exists.intro)
          refine ⟨?rel, rfl⟩
          case rel => exact ⟨⟨w2.heap.size, rfl, hb2'.size, x, rx, hx⟩, hb4⟩
        · have hb3 : Below wr.heap.size wr (wr.drew.alloc (.cells #[.int .i64 0, .int .i64 0, .int .i64 0, .int .i64 0, .bool false, .bool false, .int .i64 0, .int .i64 0, .int .i64 0, .int .i64 0, .bool false] 54)) := hHeld.alloc hHeld.size _
          refine step_run (w' := wr.drew.alloc (.cells #[.int .i64 0, .int .i64 0, .int .i64 0, .int .i64 0, .bool false, .bool false, .int .i64 0, .int .i64 0, .int .i64 0, .int .i64 0, .bool false] 54)) (some 12) (.pointer (some ⟨wr.heap.size, 0, none⟩)) (by kernel_rfl) (by kernel_rfl) (by go_simp; try rfl) hb3 (fun _ => ?_)
          try simp only [Act.put, List.setIfInBounds_toArray, List.set_cons_zero, List.set_cons_succ]
          have rz := RowAt.new wr.drew #[.int .i64 0, .int .i64 0, .int .i64 0, .int .i64 0, .bool false, .bool false, .int .i64 0, .int .i64 0, .int .i64 0, .int .i64 0, .bool false] 54
          refine ready1 (i := 6) (by kernel_rfl) ?_
          refine step_call 21 #[.tmp 56, .tmp 57, .tmp 58] #[57, 23, 52] (some 59) none (by kernel_rfl) (by kernel_rfl) #[.agg #[.int .u8 tk, .int .u8 tw, .int .u8 tp, .int .u8 ts, .int .u8 tg, .int .u8 tn], .agg #[.int .i64 c.workers, .int .i64 c.slots, .int .i64 c.streams, .int .i64 c.waiters, .int .i64 c.uses], u9] (by go_simp; try rfl) (enters_of Tryz.func21 (by kernel_rfl) rfl) ?_
          refine (hent _ hb3).mono ?_
          rintro e w2 ⟨x, rfl, hx, hb2⟩
          have hb2' : Below wr.heap.size wr w2 := hb3.trans (hb2.mono hb3.size)
          refine ⟨_, rfl, hb2', fun hH2 => ?_⟩
          try simp only [Act.put, List.setIfInBounds_toArray, List.set_cons_zero, List.set_cons_succ]
          have rz2 : RowAt w2 wr.heap.size #[.int .i64 0, .int .i64 0, .int .i64 0, .int .i64 0, .bool false, .bool false, .int .i64 0, .int .i64 0, .int .i64 0, .int .i64 0, .bool false] 54 := rz.below hb2
          have hb4 : Below wr.heap.size wr (w2.setRow wr.heap.size x.cells) := below_setRow hb2' (Nat.le_refl _) _
          have rx := rz2.set x.cells
          refine ready1 (i := 8) (by kernel_rfl) (step_store_row 54 (.tmp 12) (.tmp 59) (by kernel_rfl) wr.heap.size 54 #[.int .i64 0, .int .i64 0, .int .i64 0, .int .i64 0, .bool false, .bool false, .int .i64 0, .int .i64 0, .int .i64 0, .int .i64 0, .bool false] x.cells rfl rfl rz2 rfl (by kernel_rfl) (by simp [En.cells, Value.oneCell']) hb4 (fun _ => ?_))
          try simp only [Act.put, List.setIfInBounds_toArray, List.set_cons_zero, List.set_cons_succ]
          refine wpAnyH_done (by kernel_rfl) ?_ _
          refine hKK _ _ (Met.intro (hJJ _ _ ?_))
          (repeat apply Exists.intro)
          refine ⟨?rel, rfl⟩
          case rel => exact ⟨⟨wr.heap.size, rfl, Nat.le_refl _, x, rx, hx⟩, hb4⟩
      case rest =>
        obtain ⟨⟨eb, rfl, heb, x, rx, hx⟩, hb8⟩ := hcut
        generalize wc = w8 at *
        have hB8 := hB.below' hb8
        have hrow8 := hrow.below hb8
        obtain ⟨xk, xw, ⟨op, dl, wt, fo, sl, ge, st⟩, xn, xg⟩ := x
        simp only [En.cells] at rx
        clear hcell hcrow hent
        have hv := m_view hB8.at'
        rw [hB8.mb] at hv
        have HX := Lib.hid hx
        clear hx hb8 hB hrow
        go_wp2_with fail
        refine hv.mono ?_
        rintro e z1 ⟨vg, vc, va, vd, rfl, -, -, -, -, hb⟩
        have hBv := hB8.below' hb
        have hrowv := hrow8.below hb
        have rxv := rx.below hb
        have rV := RowAt.new z1 #[.slice (some ⟨vg, 0, none⟩) m.ss.length vc, .slice va m.line.length vd, .int .i64 m.closed] 45
        have hbx : Below z1.heap.size z1 (z1.alloc (.cells #[.slice (some ⟨vg, 0, none⟩) m.ss.length vc, .slice va m.line.length vd, .int .i64 m.closed] 45)) := (Below.refl _ _).alloc (Nat.le_refl _) _
        obtain ⟨KS, hB9, hKo, hKn⟩ := hBv.keepX hbx
        have hKv : KS z1.heap.size := hKn _ (Nat.le_refl _) rV.lt
        have hKc : KS cb := hKo _ rfl
        have hrow9 := hrowv.below hbx
        have rx := rxv.below hbx
        clear hv hb hB8 hrow8 hBv hrowv rxv hbx hKo hKn
        go_upto_region 15 with (fail)
        generalize z1.alloc (.cells #[.slice (some ⟨vg, 0, none⟩) m.ss.length vc, .slice va m.line.length vd, .int .i64 m.closed] 45) = w9 at *
        generalize z1.heap.size = wb at *
        have hx := HX.out
        clear HX
        have hI2 := hI.entry hx
        have hcl2 := entry_cl hI.toMid ⟨xk, xw, ⟨op, dl, wt, fo, sl, ge, st⟩, xn, xg⟩
        have hls2 := fun hc => (entry_less hI hc hx).count
        have hcf2 := (entry_cf m ⟨xk, xw, ⟨op, dl, wt, fo, sl, ge, st⟩, xn, xg⟩).trans hcm
        have hran2 := hran.step _ hx
        have e0 : w9.cell? ⟨eb, 0, none⟩ = some (.int .i64 xk) := rx.cell 0
        go_upto_block 2 with (fail)
        clear e0
        go_cut [9, 14, 15, 16, 17, 18] from 47 to 164 (fun s9 s14 s15 s16 s17 s18 wx => Sw W KS mb w9 m evs ⟨xk, xw, ⟨op, dl, wt, fo, sl, ge, st⟩, xn, xg⟩ s9 wx)
        case first =>
          by_cases hk0 : xk = 0
          · as_aux_lemma =>
              subst hk0
              have hm := m_ask hB9.at' xw ⟨op, dl, wt, fo, sl, ge, st⟩
              rw [hB9.mb] at hm
              have hen : m.entry ⟨0, xw, ⟨op, dl, wt, fo, sl, ge, st⟩, xn, xg⟩ = (if (m.ask xw ⟨op, dl, wt, fo, sl, ge, st⟩).1.2.1 then some (m.ask xw ⟨op, dl, wt, fo, sl, ge, st⟩).1.1 else none, (m.ask xw ⟨op, dl, wt, fo, sl, ge, st⟩).2) := by simp [M.entry]
              generalize m.ask xw ⟨op, dl, wt, fo, sl, ge, st⟩ = r at hm hen
              obtain ⟨⟨y, yb, yc⟩, m2⟩ := r
              simp only at hen
              have HEN := Lib.hid hen
              clear hen
              have e1 : w9.cell? ⟨eb, 1, none⟩ = some (.int .i64 xw) := rx.cell 1
              have e2 : w9.cell? ⟨eb, 2, none⟩ = some (.int .i64 op) := rx.cell 2
              have e3 : w9.cell? ⟨eb, 3, none⟩ = some (.int .i64 dl) := rx.cell 3
              have e4 : w9.cell? ⟨eb, 4, none⟩ = some (.bool wt) := rx.cell 4
              have e5 : w9.cell? ⟨eb, 5, none⟩ = some (.bool fo) := rx.cell 5
              have e6 : w9.cell? ⟨eb, 6, none⟩ = some (.int .i64 sl) := rx.cell 6
              have e7 : w9.cell? ⟨eb, 7, none⟩ = some (.int .i64 ge) := rx.cell 7
              have e8 : w9.cell? ⟨eb, 8, none⟩ = some (.int .i64 st) := rx.cell 8
              go_wp2_with fail
              refine hm.mono ?_
              intro e w10 hpost
              obtain ⟨rfl, p2, hB2, hS2⟩ := hB9.post hpost
              clear hpost hm e1 e2 e3 e4 e5 e6 e7 e8
              have rz := RowAt.new w10 #[.bool false, .int .i64 0, .int .i64 0, .int .i64 0, .int .i64 0, .bool false, .bool false, .int .i64 0, .int .i64 0, .int .i64 0, .int .i64 0, .int .i64 0, .int .i64 0, .int .i64 0, .int .i64 0, .int .i64 0, .int .i64 0, .int .i64 0] 36
              have hst := ev_store rz rfl y
              have hsz := ev_size y
              have rw2 := rz.set y.cells
              have hb11 : Below w10.heap.size w10 ((w10.alloc (.cells #[.bool false, .int .i64 0, .int .i64 0, .int .i64 0, .int .i64 0, .bool false, .bool false, .int .i64 0, .int .i64 0, .int .i64 0, .int .i64 0, .int .i64 0, .int .i64 0, .int .i64 0, .int .i64 0, .int .i64 0, .int .i64 0, .int .i64 0] 36)).setRow w10.heap.size y.cells) := below_setRow ((Below.refl _ _).alloc (Nat.le_refl _) _) (Nat.le_refl _) _
              have hB3 := hB2.below' hb11
              have hS3 := hS2.trans (hB2.same hb11)
              cases yb
              · have hSw : Sw W KS mb w9 m evs ⟨0, xw, ⟨op, dl, wt, fo, sl, ge, st⟩, xn, xg⟩ u9 ((w10.alloc (.cells #[.bool false, .int .i64 0, .int .i64 0, .int .i64 0, .int .i64 0, .bool false, .bool false, .int .i64 0, .int .i64 0, .int .i64 0, .int .i64 0, .int .i64 0, .int .i64 0, .int .i64 0, .int .i64 0, .int .i64 0, .int .i64 0, .int .i64 0] 36)).setRow w10.heap.size y.cells) := Sw.none (by simpa using HEN.out) hB3 hS3
                clear HEN
                go_wp2_with fail
                go_meet
                case rel => exact hSw
              · go_upto_region 19 with (fail)
                generalize (w10.alloc (.cells #[.bool false, .int .i64 0, .int .i64 0, .int .i64 0, .int .i64 0, .bool false, .bool false, .int .i64 0, .int .i64 0, .int .i64 0, .int .i64 0, .int .i64 0, .int .i64 0, .int .i64 0, .int .i64 0, .int .i64 0, .int .i64 0, .int .i64 0] 36)).setRow w10.heap.size y.cells = w11 at *
                generalize w10.heap.size = ab at *
                have hown := OwnS.alloc hB3.evs (.cells y.cells 36)
                refine wp_region_lit ?_
                refine wpList_run rfl u9 (by go_simp; try rfl) ?_
                refine RowL.wpList_load_row rfl 36 (.tmp 14) rfl ab _ y.cells _ rfl rw2 Tryz.underlying36 rfl (by kernel_rfl) ?_
                refine wpList_build_ev rfl (.tmp 78) rfl y rfl ?_
                refine Hp.wpList_append _ rfl (.tmp 77) (.tmp 79) 52 rfl 36 i0 Ev.zero.val 18 136 Tryz.underlying52 hi hz0 hz1 hz2 rfl (by decide) u9 evs.length (flatE evs) rfl hown ⟨w11.heap.size, 0, none⟩ 1 1 y.cells.toList rfl rfl (ev_new w11 y) (ev_ones y) ?c3 ?c4 ?_
                case c3 => have := hran.len; unfold maxLen; omega
                case c4 => have := hran.len; omega
                intro a' cn w13 hown' hfp hch
                have hb12 : Below w11.heap.size w11 (w11.alloc (.cells y.cells 36)) := (Below.refl _ _).alloc (Nat.le_refl _) _
                have hB12 := hB3.below' hb12
                obtain ⟨hB5, hS5⟩ := hB12.append hown' hfp hch
                have hSw : Sw W KS mb w9 m evs ⟨0, xw, ⟨op, dl, wt, fo, sl, ge, st⟩, xn, xg⟩ (.slice a' (evs.length + 1) cn) w13 := Sw.some (by simpa using HEN.out) hB5 (hS3.trans ((hB3.same hb12).trans hS5))
                clear HEN hown' hfp hch hB12 hown hb12
                go_wp2_with fail
                go_meet
                case rel => exact hSw
          by_cases hk1 : xk = 1
          · as_aux_lemma =>
              subst hk1
              have hm := m_wake hB9.at' xw
              rw [hB9.mb] at hm
              have hen : m.entry ⟨1, xw, ⟨op, dl, wt, fo, sl, ge, st⟩, xn, xg⟩ = (if (m.wake xw).1.2 then some (m.wake xw).1.1 else none, (m.wake xw).2) := by simp [M.entry]
              generalize m.wake xw = r at hm hen
              obtain ⟨⟨y, yb⟩, m2⟩ := r
              simp only at hen
              have HEN := Lib.hid hen
              clear hen
              have e1 : w9.cell? ⟨eb, 1, none⟩ = some (.int .i64 xw) := rx.cell 1
              go_wp2_with fail
              refine hm.mono ?_
              intro e w10 hpost
              obtain ⟨rfl, p2, hB2, hS2⟩ := hB9.post hpost
              clear hpost hm e1
              have rz := RowAt.new w10 #[.bool false, .int .i64 0, .int .i64 0, .int .i64 0, .int .i64 0, .bool false, .bool false, .int .i64 0, .int .i64 0, .int .i64 0, .int .i64 0, .int .i64 0, .int .i64 0, .int .i64 0, .int .i64 0, .int .i64 0, .int .i64 0, .int .i64 0] 36
              have hst := ev_store rz rfl y
              have hsz := ev_size y
              have rw2 := rz.set y.cells
              have hb11 : Below w10.heap.size w10 ((w10.alloc (.cells #[.bool false, .int .i64 0, .int .i64 0, .int .i64 0, .int .i64 0, .bool false, .bool false, .int .i64 0, .int .i64 0, .int .i64 0, .int .i64 0, .int .i64 0, .int .i64 0, .int .i64 0, .int .i64 0, .int .i64 0, .int .i64 0, .int .i64 0] 36)).setRow w10.heap.size y.cells) := below_setRow ((Below.refl _ _).alloc (Nat.le_refl _) _) (Nat.le_refl _) _
              have hB3 := hB2.below' hb11
              have hS3 := hS2.trans (hB2.same hb11)
              cases yb
              · have hSw : Sw W KS mb w9 m evs ⟨1, xw, ⟨op, dl, wt, fo, sl, ge, st⟩, xn, xg⟩ u9 ((w10.alloc (.cells #[.bool false, .int .i64 0, .int .i64 0, .int .i64 0, .int .i64 0, .bool false, .bool false, .int .i64 0, .int .i64 0, .int .i64 0, .int .i64 0, .int .i64 0, .int .i64 0, .int .i64 0, .int .i64 0, .int .i64 0, .int .i64 0, .int .i64 0] 36)).setRow w10.heap.size y.cells) := Sw.none (by simpa using HEN.out) hB3 hS3
                clear HEN
                go_wp2_with fail
                go_meet
                case rel => exact hSw
              · go_upto_region 23 with (fail)
                generalize (w10.alloc (.cells #[.bool false, .int .i64 0, .int .i64 0, .int .i64 0, .int .i64 0, .bool false, .bool false, .int .i64 0, .int .i64 0, .int .i64 0, .int .i64 0, .int .i64 0, .int .i64 0, .int .i64 0, .int .i64 0, .int .i64 0, .int .i64 0, .int .i64 0] 36)).setRow w10.heap.size y.cells = w11 at *
                generalize w10.heap.size = ab at *
                have hown := OwnS.alloc hB3.evs (.cells y.cells 36)
                refine wp_region_lit ?_
                refine wpList_run rfl u9 (by go_simp; try rfl) ?_
                refine RowL.wpList_load_row rfl 36 (.tmp 17) rfl ab _ y.cells _ rfl rw2 Tryz.underlying36 rfl (by kernel_rfl) ?_
                refine wpList_build_ev rfl (.tmp 92) rfl y rfl ?_
                refine Hp.wpList_append _ rfl (.tmp 91) (.tmp 93) 52 rfl 36 i0 Ev.zero.val 18 136 Tryz.underlying52 hi hz0 hz1 hz2 rfl (by decide) u9 evs.length (flatE evs) rfl hown ⟨w11.heap.size, 0, none⟩ 1 1 y.cells.toList rfl rfl (ev_new w11 y) (ev_ones y) ?c3 ?c4 ?_
                case c3 => have := hran.len; unfold maxLen; omega
                case c4 => have := hran.len; omega
                intro a' cn w13 hown' hfp hch
                have hb12 : Below w11.heap.size w11 (w11.alloc (.cells y.cells 36)) := (Below.refl _ _).alloc (Nat.le_refl _) _
                have hB12 := hB3.below' hb12
                obtain ⟨hB5, hS5⟩ := hB12.append hown' hfp hch
                have hSw : Sw W KS mb w9 m evs ⟨1, xw, ⟨op, dl, wt, fo, sl, ge, st⟩, xn, xg⟩ (.slice a' (evs.length + 1) cn) w13 := Sw.some (by simpa using HEN.out) hB5 (hS3.trans ((hB3.same hb12).trans hS5))
                clear HEN hown' hfp hch hB12 hown hb12
                go_wp2_with fail
                go_meet
                case rel => exact hSw
          by_cases hk2 : xk = 2
          · as_aux_lemma =>
              subst hk2
              have hm := m_tick hB9.at' xn (by have := hx.2.1; simp only at this; omega) (by have := hx.2.2; simp only at this; omega)
              rw [hB9.mb] at hm
              have e9 : w9.cell? ⟨eb, 9, none⟩ = some (.int .i64 xn) := rx.cell 9
              go_wp2_with fail
              refine hm.mono ?_
              rintro e w10 ⟨⟨v, rfl⟩, hA, hC⟩
              have hpost : MPost w9 q v (m.tick xn) (.returned v) w10 := ⟨rfl, q.lv, q.rv, hA, fun k h => .inl h, fun k h => .inl h, hC⟩
              obtain ⟨-, p2, hB2, hS2⟩ := hB9.post hpost
              clear hpost hA hC hm
              have hSw : Sw W KS mb w9 m evs ⟨2, xw, ⟨op, dl, wt, fo, sl, ge, st⟩, xn, xg⟩ u9 w10 := Sw.none (by simp [M.entry]) hB2 hS2
              go_wp2_with fail
              go_meet
              case rel => exact hSw
          by_cases hk3 : xk = 3
          · as_aux_lemma =>
              subst hk3
              have hm := m_feed hB9.at' xg
              rw [hB9.mb] at hm
              have e10 : w9.cell? ⟨eb, 10, none⟩ = some (.bool xg) := rx.cell 10
              go_wp2_with fail
              refine hm.mono ?_
              intro e w10 hpost
              obtain ⟨rfl, p2, hB2, hS2⟩ := hB9.post hpost
              clear hpost hm
              have hSw : Sw W KS mb w9 m evs ⟨3, xw, ⟨op, dl, wt, fo, sl, ge, st⟩, xn, xg⟩ u9 w10 := Sw.none (by simp [M.entry]) hB2 hS2
              go_wp2_with fail
              go_meet
              case rel => exact hSw
          by_cases hk4 : xk = 4
          · as_aux_lemma =>
              subst hk4
              have hm := m_break hB9.at' sl
              rw [hB9.mb] at hm
              have e6 : w9.cell? ⟨eb, 6, none⟩ = some (.int .i64 sl) := rx.cell 6
              go_wp2_with fail
              refine hm.mono ?_
              intro e w10 hpost
              obtain ⟨rfl, p2, hB2, hS2⟩ := hB9.post hpost
              clear hpost hm
              have hSw : Sw W KS mb w9 m evs ⟨4, xw, ⟨op, dl, wt, fo, sl, ge, st⟩, xn, xg⟩ u9 w10 := Sw.none (by simp [M.entry]) hB2 hS2
              go_wp2_with fail
              go_meet
              case rel => exact hSw
          · as_aux_lemma =>
              have k0 : (xk == 0) = false := by simpa using hk0
              have k1 : (xk == 1) = false := by simpa using hk1
              have k2 : (xk == 2) = false := by simpa using hk2
              have k3 : (xk == 3) = false := by simpa using hk3
              have k4 : (xk == 4) = false := by simpa using hk4
              have hSw : Sw W KS mb w9 m evs ⟨xk, xw, ⟨op, dl, wt, fo, sl, ge, st⟩, xn, xg⟩ u9 w9 := Sw.none (by simp [M.entry, hk0, hk1, hk2, hk3, hk4]) hB9 (Same.refl _ _)
              clear hk0 hk1 hk2 hk3 hk4
              go_wp2_with fail
              go_meet
              case rel => exact hSw
        case rest =>
          obtain ⟨p12, hB12, hS12⟩ := hcut
          generalize wc = w12 at *
          have hrow12 := RowAt.same hrow9 hS12 hKc
          have rV12 := RowAt.same rV hS12 hKv
          generalize m.entry ⟨xk, xw, ⟨op, dl, wt, fo, sl, ge, st⟩, xn, xg⟩ = r at *
          obtain ⟨o2, m2⟩ := r
          simp only at hB12 hI2 hcl2 hls2 hcf2 hran2
          have hz2 : m2.closed = 2 → countAt m2.ss 3 = 0 := fun h => count_zero (hI2.cl2 h)
          have HLS := Lib.hid hls2
          have HZ := Lib.hid hz2
          have HCL := Lib.hid hcl2
          have hss2 := hB12.at'.ok.ns
          have hsl0 : (m2.ss.length : Int) = c.slots := by have := hB12.at'.ok.nss; rw [hcf2] at this; exact this
          have HSL := Lib.hid hsl0
          have hv := m_view hB12.at'
          rw [hB12.mb] at hv
          clear hls2 hz2 hcl2 hB9 hrow9 rx rV hS12 hsl0
          go_wp2_with fail
          refine hv.mono ?_
          rintro e z3 ⟨vg2, vc2, va2, vd2, rfl, hsl, -, -, -, hb⟩
          have hB13 := hB12.below' hb
          have hrow13 := hrow12.below hb
          have rV13 := rV12.below hb
          have rU := RowAt.new z3 #[.slice (some ⟨vg2, 0, none⟩) m2.ss.length vc2, .slice va2 m2.line.length vd2, .int .i64 m2.closed] 45
          have hbx : Below z3.heap.size z3 (z3.alloc (.cells #[.slice (some ⟨vg2, 0, none⟩) m2.ss.length vc2, .slice va2 m2.line.length vd2, .int .i64 m2.closed] 45)) := (Below.refl _ _).alloc (Nat.le_refl _) _
          have hB14 := hB13.below' hbx
          have hrow14 := hrow13.below hbx
          have rV14 := rV13.below hbx
          have hsl14 := hsl.stable (hbx.block vg2 (hsl.lt hss2.1))
          clear hv hb hbx hB12 hB13 hrow12 hrow13 rV12 rV13 hsl
          go_upto_region 31 with (fail)
          generalize z3.alloc (.cells #[.slice (some ⟨vg2, 0, none⟩) m2.ss.length vc2, .slice va2 m2.line.length vd2, .int .i64 m2.closed] 45) = w14 at *
          generalize z3.heap.size = vb at *
          have d0 : w14.cell? ⟨vb, 0, none⟩ = some (.slice (some ⟨vg2, 0, none⟩) m2.ss.length vc2) := rU.cell 0
          have d2 : w14.cell? ⟨vb, 2, none⟩ = some (.int .i64 m2.closed) := rU.cell 2
          have d3 : w14.cell? ⟨wb, 2, none⟩ = some (.int .i64 m.closed) := rV14.cell 2
          have d4 : w14.cell? ⟨cb, 1, none⟩ = some (.int .i64 m2.ss.length) := by rw [HSL.out]; exact hrow14.cell 1
          clear rU rV14
          go_wp2_with fail
          go_loopw [20, 21] (fun ns js wr => ∃ j : Nat, j ≤ m2.ss.length ∧ js = .int .i64 j ∧ ns = .int .i64 (countAt (m2.ss.take j) 3 : Nat) ∧ w14 = wr) (fun _ js _ => m2.ss.length - (intOf js).toNat)
          case atStart => exact ⟨0, by omega, rfl, rfl, rfl⟩
          case round =>
            obtain ⟨j, hj, rfl, rfl, rfl⟩ := hrel
            by_cases hjl : j < m2.ss.length
            · obtain ⟨s, hs⟩ : ∃ s, m2.ss[j]? = some s := ⟨_, List.getElem?_eq_getElem hjl⟩
              have c0 : w14.cell? ⟨vg2, j * 9, none⟩ = some (.int .i64 s.state) := (hsl14.get hs).1
              have hc := countAt_le (m2.ss.take j) 3
              have hl : (m2.ss.take j).length ≤ m2.ss.length := by simp [List.length_take] <;> omega
              have hst := Lib.hid (countAt_step hs 3)
              generalize hq : countAt (m2.ss.take j) 3 = q3 at *
              have HQ := Lib.hid hq
              clear hq
              have j0 : (0 : Int) ≤ (j : Int) := by omega
              have j1 : (j : Int) < (m2.ss.length : Int) := by omega
              have j2 : (j : Int) ≤ (m2.ss.length : Int) - 1 := by omega
              clear hs d2 d3 d4
              cases hw : (s.state == 3)
              · go_wp2_with fail
                go_round
                case rel => exact ⟨j + 1, by omega, rfl, by rw [hst.out, hw]; simp, by trivial⟩
                case measure => simp [intOf] <;> omega
              · go_wp2_with fail
                go_round
                case rel => exact ⟨j + 1, by omega, rfl, by rw [hst.out, hw]; simp, by trivial⟩
                case measure => simp [intOf] <;> omega
            · obtain rfl : j = m2.ss.length := by omega
              rw [List.take_length]
              have j1 : ¬ ((m2.ss.length : Nat) : Int) < (m2.ss.length : Int) := by omega
              go_upto_region 37 with (fail)
              go_cut [163] from 47 to 164 (fun s wx => s = .bool false ∧ wx = w14)
              case first =>
                have h1 := hI.cls
                have h2 := hI2.cls
                have h3 := HCL.out
                have h4 := HLS.out
                have h5 := HZ.out
                generalize countAt m2.ss 3 = nn at *
                generalize countAt m.ss 3 = ln at *
                generalize m.closed = oc at *
                generalize m2.closed = nc at *
                rcases h1 with rfl | rfl | rfl <;> rcases h2 with rfl | rfl | rfl
                · clear h3 h4 h5
                  go_wp2_with fail
                  go_meet
                  case rel => exact ⟨rfl, rfl⟩
                · clear h3 h4 h5
                  go_wp2_with fail
                  go_meet
                  case rel => exact ⟨rfl, rfl⟩
                · obtain rfl : nn = 0 := h5 rfl
                  clear h3 h4 h5
                  go_wp2_with fail
                  go_meet
                  case rel => exact ⟨rfl, rfl⟩
                · omega
                · have h6 : ¬ (ln : Int) < (nn : Int) := by have := h4 (by omega); omega
                  clear h3 h4 h5
                  go_wp2_with fail
                  go_meet
                  case rel => exact ⟨rfl, rfl⟩
                · obtain rfl : nn = 0 := h5 rfl
                  have h6 : ¬ (ln : Int) < ((0 : Nat) : Int) := by omega
                  clear h3 h4 h5
                  go_wp2_with fail
                  go_meet
                  case rel => exact ⟨rfl, rfl⟩
                · omega
                · omega
                · obtain rfl : nn = 0 := h5 rfl
                  have h6 : ¬ (ln : Int) < ((0 : Nat) : Int) := by omega
                  clear h3 h4 h5
                  go_wp2_with fail
                  go_meet
                  case rel => exact ⟨rfl, rfl⟩
              case rest =>
                obtain ⟨rfl, rfl⟩ := hcut
                clear d0 d2 d3 d4
                go_wp2_with fail
                go_round
                case rel => exact ⟨k + 1, by omega, rfl, p12, m2, _, hB14.less (fun j hj => by rw [hj]; exact hKc), hran2, hI2, hcf2, hrow14, rfl⟩
                case measure => simp [intOf] <;> omega
    · as_aux_lemma =>
        obtain rfl : k = l.length := by omega
        obtain ⟨nk, hnk⟩ : ∃ nk : Nat, c.workers = (nk : Int) := ⟨c.workers.toNat, by have := HC.out; simp [Conf.Cf.right, Conf.btw] at this; omega⟩
        have hnk8 : 1 ≤ nk ∧ nk ≤ 8 := by have := HC.out; simp [Conf.Cf.right, Conf.btw] at this; omega
        have HNK := Lib.hid hnk
        clear hnk
        obtain ⟨L, hL⟩ : ∃ L, L = countAt m.ss 3 := ⟨_, rfl⟩
        rw [← hL]
        have HL0 := Lib.hid hL
        clear hL hran
        go_wp2_with fail
        go_loopw [22] (fun i wr => ∃ w', w' = wr ∧ ∃ j : Nat, j ≤ nk ∧ i = .int .i64 j ∧ ∃ q m', PlayB W (fun j => j = cb) mb u9 w' q m' evs ∧ Inv m' ∧ m'.cf = c ∧ RowAt w' cb c.cells 23 ∧ countAt m'.ss 3 = L ∧ ∀ i' : Nat, i' < j → ∀ w, m'.ks[i']? = some w → w.at' = 0 → Still m') (fun i _ => nk - (intOf i).toNat)
        case atStart => exact ⟨_, rfl, 0, by omega, rfl, q, m, hB, hI, hcm, hrow, HL0.out.symm, fun i' h => by omega⟩
        case round =>
          clear hB hI hcm hrow HL0
          obtain ⟨wr2, rfl, j, hj, rfl, q, m, hB, hI, hcm, hrow, hcl, hall⟩ := hrel
          have e0 : wr2.cell? ⟨cb, 0, none⟩ = some (.int .i64 nk) := by rw [← HNK.out]; exact hrow.cell 0
          have hks : m.ks.length = nk := by have := hB.at'.ok.nks; rw [hcm, HNK.out] at this; omega
          have b0 : (0 : Int) ≤ (j : Int) := by omega
          by_cases hjl : j < nk
          · have b1 : (j : Int) < (nk : Int) := by omega
            have hm := m_ask hB.at' j (⟨7, 0, false, false, 0, 0, 0⟩ : Ask)
            rw [hB.mb] at hm
            have hF := stats_next hI (n := j) (by omega) (a := (⟨7, 0, false, false, 0, 0, 0⟩ : Ask)) rfl (by decide)
            generalize m.ask j (⟨7, 0, false, false, 0, 0, 0⟩ : Ask) = r at *
            obtain ⟨⟨y, yb, yc⟩, m2⟩ := r
            simp only at hm hF
            obtain ⟨f1, f2, f3, f4, f5, f6⟩ := hF
            have hall2 : ∀ i' : Nat, i' < j + 1 → ∀ w, m2.ks[i']? = some w → w.at' = 0 → Still m2 := fun i' hi' w hw h0 => by
              obtain ⟨w0, g1, g2⟩ := f4 i' w hw
              by_cases e : i' = j
              · subst e; exact f6 w0 g1 (g2.1 h0)
              · have hs := hall i' (by omega) w0 g1 (g2.1 h0)
                rw [f5 hs]; exact hs
            have HA := Lib.hid hall2
            have HCL := Lib.hid (f3.trans hcl)
            have HCF := Lib.hid (f2.trans hcm)
            clear f2 f3 f4 f5 f6 hall hall2 hcl hks
            go_wp2_with fail
            refine hm.mono ?_
            intro e v2 hpost
            obtain ⟨rfl, p2, hB2, hS2⟩ := hB.post hpost
            have hrow2 := RowAt.same hrow hS2 rfl
            clear hpost hm hB hrow e0
            go_wp2_with fail
            go_round
            case rel => exact ⟨_, rfl, j + 1, by omega, rfl, p2, m2, hB2, f1, HCF.out, hrow2, HCL.out, HA.out⟩
            case measure => simp [intOf] <;> omega
          · obtain rfl : j = nk := by omega
            have b1 : ¬ ((j : Nat) : Int) < (j : Int) := by omega
            have hst : ∀ (i' : Nat) (w : Wk), m.ks[i']? = some w → w.at' = 0 → Still m := fun i' w hw h0 => hall i' (by have := (List.getElem?_eq_some_iff.1 hw).1; omega) w hw h0
            have HST := Lib.hid hst
            have hsl0 : (m.ss.length : Int) = c.slots := by have := hB.at'.ok.nss; rw [hcm] at this; exact this
            have HSL := Lib.hid hsl0
            have hss := hB.at'.ok.ns
            have hfew := hB.at'.ok.few
            have HCL := Lib.hid hcl
            clear hall hst hsl0 hcl
            go_wp2_with fail
            go_loopw [23] (fun i wr => ∃ w', w' = wr ∧ ∃ n : Nat, n ≤ j ∧ i = .int .i64 n ∧ ∃ q, PlayB W (fun j => j = cb) mb u9 w' q m evs ∧ RowAt w' cb c.cells 23) (fun i _ => j - (intOf i).toNat)
            case atStart => exact ⟨_, rfl, 0, by omega, rfl, q, hB, hrow⟩
            case round =>
              clear hB hrow e0
              obtain ⟨wr3, rfl, n, hn, rfl, q, hB, hrow⟩ := hrel
              have e0 : wr3.cell? ⟨cb, 0, none⟩ = some (.int .i64 j) := by rw [← HNK.out]; exact hrow.cell 0
              have n0 : (0 : Int) ≤ (n : Int) := by omega
              by_cases hnl : n < j
              · have n1 : (n : Int) < (j : Int) := by omega
                have hv := m_view hB.at'
                rw [hB.mb] at hv
                go_wp2_with fail
                refine hv.mono ?_
                rintro e z1 ⟨vg, vc, va, vd, rfl, hsl, hvg, hown, hfv, hb⟩
                have rV := RowAt.new z1 #[.slice (some ⟨vg, 0, none⟩) m.ss.length vc, .slice va m.line.length vd, .int .i64 m.closed] 45
                have hbx : Below z1.heap.size z1 (z1.alloc (.cells #[.slice (some ⟨vg, 0, none⟩) m.ss.length vc, .slice va m.line.length vd, .int .i64 m.closed] 45)) := (Below.refl _ _).alloc (Nat.le_refl _) _
                have hbb := hb.trans (hbx.mono hb.size)
                obtain ⟨K1, hB1, hKo, hKn⟩ := hB.keepX hbb
                have hKv : K1 z1.heap.size := hKn _ hb.size rV.lt
                have hKc : K1 cb := hKo _ rfl
                have hKg : K1 vg := hKn _ hvg (Nat.lt_of_lt_of_le (hsl.lt hss.1) hbx.size)
                have hKw : ∀ x, Fp (.slice va m.line.length vd) x → K1 x := fun x hx => hKn _ (hfv x hx) (Nat.lt_of_lt_of_le (hown.lt hx) hbx.size)
                have hrow1 := hrow.below hbb
                have hsl1 := hsl.stable (hbx.block vg (hsl.lt hss.1))
                have hown1 := hown.stable hbx.size (fun x hx => hbx.block x (hown.lt hx))
                clear hv hb hB hrow hbx hbb hKo hKn hsl hown hfv hvg
                go_upto_region 48 with (fail)
                generalize z1.alloc (.cells #[.slice (some ⟨vg, 0, none⟩) m.ss.length vc, .slice va m.line.length vd, .int .i64 m.closed] 45) = w5 at *
                generalize z1.heap.size = wb at *
                obtain ⟨wk, hwk⟩ : ∃ w, m.ks[n]? = some w := ⟨_, List.getElem?_eq_getElem (by omega)⟩
                have hcan := can_op hwk (a := (⟨7, 0, false, false, 0, 0, 0⟩ : Ask)) (by decide) (by decide)
                have hq := stats_ask m n (a := (⟨7, 0, false, false, 0, 0, 0⟩ : Ask)) rfl
                have hm := m_ask hB1.at' n (⟨7, 0, false, false, 0, 0, 0⟩ : Ask)
                rw [hB1.mb] at hm
                have hsame : (m.ask n (⟨7, 0, false, false, 0, 0, 0⟩ : Ask)).2 = m := by
                  rw [hq]
                  cases hc : m.can n (⟨7, 0, false, false, 0, 0, 0⟩ : Ask)
                  · rfl
                  · rw [hcan] at hc
                    exact (HST.out n wk hwk (by simpa using hc)).tidy
                have hy : (m.ask n (⟨7, 0, false, false, 0, 0, 0⟩ : Ask)).1.2.2 = true → (m.ask n (⟨7, 0, false, false, 0, 0, 0⟩ : Ask)).1.2.1 = true ∧ (m.ask n (⟨7, 0, false, false, 0, 0, 0⟩ : Ask)).1.1 = M.answered m.stats n (⟨7, 0, false, false, 0, 0, 0⟩ : Ask) := fun h => by
                  have hc := can_is h
                  rw [hq, if_pos hc]
                  exact ⟨rfl, rfl⟩
                have hy2 : (m.ask n (⟨7, 0, false, false, 0, 0, 0⟩ : Ask)).1.2.2 = true → (m.ask n (⟨7, 0, false, false, 0, 0, 0⟩ : Ask)).1.1.leased = L ∧ (m.ask n (⟨7, 0, false, false, 0, 0, 0⟩ : Ask)).1.1.idle + (m.ask n (⟨7, 0, false, false, 0, 0, 0⟩ : Ask)).1.1.leased + (m.ask n (⟨7, 0, false, false, 0, 0, 0⟩ : Ask)).1.1.empty + (m.ask n (⟨7, 0, false, false, 0, 0, 0⟩ : Ask)).1.1.other = m.ss.length ∧ 0 ≤ (m.ask n (⟨7, 0, false, false, 0, 0, 0⟩ : Ask)).1.1.idle ∧ 0 ≤ (m.ask n (⟨7, 0, false, false, 0, 0, 0⟩ : Ask)).1.1.leased ∧ 0 ≤ (m.ask n (⟨7, 0, false, false, 0, 0, 0⟩ : Ask)).1.1.empty ∧ 0 ≤ (m.ask n (⟨7, 0, false, false, 0, 0, 0⟩ : Ask)).1.1.other := fun h => by
                  rw [(hy h).2]
                  have h1 := stats_leased m
                  have h2 := stats_all m
                  rw [HCL.out] at h1
                  exact ⟨h1, h2, by simp only [M.answered, M.stats, M.countL]; omega, by simp only [M.answered, M.stats, M.countL]; omega, by simp only [M.answered, M.stats, M.countL]; omega, by simp only [M.answered, M.stats, M.countL]; omega⟩
                have hy1 := fun h => (hy h).1
                clear hy hq hcan hwk
                generalize m.ask n (⟨7, 0, false, false, 0, 0, 0⟩ : Ask) = r at *
                obtain ⟨⟨y, yb, yc⟩, m2⟩ := r
                simp only at hm hsame hy1 hy2
                subst hsame
                have HY1 := Lib.hid hy1
                have HY2 := Lib.hid hy2
                clear hy1 hy2
                go_wp2_with fail
                refine hm.mono ?_
                intro e v2 hpost
                obtain ⟨rfl, p2, hB2, hS2⟩ := hB1.post hpost
                have hrow2 := RowAt.same hrow1 hS2 hKc
                have rV2 := RowAt.same rV hS2 hKv
                have hsl2 := hsl1.stable (hS2.2 vg hKg)
                have hown2 := hown1.stable hS2.1 (fun x hx => hS2.2 x (hKw x hx))
                clear hpost hm hB1 hrow1 rV hsl1 hown1 hS2
                have rz := RowAt.new v2 #[.bool false, .int .i64 0, .int .i64 0, .int .i64 0, .int .i64 0, .bool false, .bool false, .int .i64 0, .int .i64 0, .int .i64 0, .int .i64 0, .int .i64 0, .int .i64 0, .int .i64 0, .int .i64 0, .int .i64 0, .int .i64 0, .int .i64 0] 36
                have hst := ev_store rz rfl y
                have hsz := ev_size y
                have rw2 := rz.set y.cells
                have hb11 : Below v2.heap.size v2 ((v2.alloc (.cells #[.bool false, .int .i64 0, .int .i64 0, .int .i64 0, .int .i64 0, .bool false, .bool false, .int .i64 0, .int .i64 0, .int .i64 0, .int .i64 0, .int .i64 0, .int .i64 0, .int .i64 0, .int .i64 0, .int .i64 0, .int .i64 0, .int .i64 0] 36)).setRow v2.heap.size y.cells) := below_setRow ((Below.refl _ _).alloc (Nat.le_refl _) _) (Nat.le_refl _) _
                have hB3 := hB2.below' hb11
                have hrow3 := hrow2.below hb11
                have rV3 := rV2.below hb11
                have hsl3 := hsl2.stable (hb11.block vg (hsl2.lt hss.1))
                have hown3 := hown2.stable hb11.size (fun x hx => hb11.block x (hown2.lt hx))
                clear hb11 rz hB2 hrow2 rV2 hsl2 hown2
                go_upto_region 49 with (fail)
                generalize (v2.alloc (.cells #[.bool false, .int .i64 0, .int .i64 0, .int .i64 0, .int .i64 0, .bool false, .bool false, .int .i64 0, .int .i64 0, .int .i64 0, .int .i64 0, .int .i64 0, .int .i64 0, .int .i64 0, .int .i64 0, .int .i64 0, .int .i64 0, .int .i64 0] 36)).setRow v2.heap.size y.cells = w6 at *
                generalize v2.heap.size = yb0 at *
                clear hst hsz
                have hv := m_view hB3.at'
                rw [hB3.mb] at hv
                go_wp2_with fail
                refine hv.mono ?_
                rintro e z2 ⟨vg2, vc2, va2, vd2, rfl, hslb, -, hownb, -, hb⟩
                have hB4 := hB3.below' hb
                have rU := RowAt.new z2 #[.slice (some ⟨vg2, 0, none⟩) m2.ss.length vc2, .slice va2 m2.line.length vd2, .int .i64 m2.closed] 45
                have hbx : Below z2.heap.size z2 (z2.alloc (.cells #[.slice (some ⟨vg2, 0, none⟩) m2.ss.length vc2, .slice va2 m2.line.length vd2, .int .i64 m2.closed] 45)) := (Below.refl _ _).alloc (Nat.le_refl _) _
                have hbb := hb.trans (hbx.mono hb.size)
                have hB5 := hB3.below' hbb
                have hrow5 := hrow3.below hbb
                have rV5 := rV3.below hbb
                have rY5 := rw2.below hbb
                have hsl5 := hsl3.stable (hbb.block vg (hsl3.lt hss.1))
                have hown5 := hown3.stable hbb.size (fun x hx => hbb.block x (hown3.lt hx))
                have hslb5 := hslb.stable (hbx.block vg2 (hslb.lt hss.1))
                have hownb5 := hownb.stable hbx.size (fun x hx => hbx.block x (hownb.lt hx))
                clear hv hb hbx hbb hB3 hB4 hrow3 rV3 rw2 hsl3 hown3 hslb hownb
                go_upto_region 50 with (fail)
                generalize z2.alloc (.cells #[.slice (some ⟨vg2, 0, none⟩) m2.ss.length vc2, .slice va2 m2.line.length vd2, .int .i64 m2.closed] 45) = w7 at *
                generalize z2.heap.size = ub at *
                cases yc
                · clear HY1 HY2
                  go_wp2_with fail
                  go_round
                  case rel => exact ⟨_, rfl, n + 1, by omega, rfl, p2, hB5.less (fun j hj => by rw [hj]; exact hKc), hrow5⟩
                  case measure => simp [intOf] <;> omega
                · obtain rfl := HY1.out (by trivial)
                  obtain ⟨t1, t2, t3, t4, t5, t6⟩ := HY2.out (by trivial)
                  have k1 : w7.cell? ⟨yb0, 14, none⟩ = some (.int .i64 y.idle) := rY5.cell 14
                  have k2 : w7.cell? ⟨yb0, 15, none⟩ = some (.int .i64 L) := by rw [← t1]; exact rY5.cell 15
                  have k3 : w7.cell? ⟨yb0, 16, none⟩ = some (.int .i64 y.empty) := rY5.cell 16
                  have k4 : w7.cell? ⟨yb0, 17, none⟩ = some (.int .i64 y.other) := rY5.cell 17
                  have k5 : w7.cell? ⟨cb, 1, none⟩ = some (.int .i64 m2.ss.length) := by rw [HSL.out]; exact hrow5.cell 1
                  have k6 : w7.cell? ⟨wb, 0, none⟩ = some (.slice (some ⟨vg, 0, none⟩) m2.ss.length vc) := rV5.cell 0
                  have k7 : w7.cell? ⟨wb, 1, none⟩ = some (.slice va m2.line.length vd) := rV5.cell 1
                  have k8 : w7.cell? ⟨ub, 0, none⟩ = some (.slice (some ⟨vg2, 0, none⟩) m2.ss.length vc2) := rU.cell 0
                  have k9 : w7.cell? ⟨ub, 1, none⟩ = some (.slice va2 m2.line.length vd2) := rU.cell 1
                  rw [t1] at t2 t4
                  generalize y.idle = i1 at *
                  generalize y.empty = i3 at *
                  generalize y.other = i4 at *
                  have hsame2 := same_any w7 vg vg2 m2.ss.length m2.ss.length vc vc2 m2.ss m2.ss hsl5 hslb5 rfl rfl (by omega) (by omega)
                  rw [decide_eq_true rfl] at hsame2
                  have t7 : i1 + L ≤ 16 := by omega
                  have t8 : i1 + L + i3 ≤ 16 := by omega
                  have t9 : i1 + L + i3 + i4 ≤ 16 := by omega
                  have t10 : ((i1 + L + i3 + i4) == (m2.ss.length : Int)) = true := by simpa using t2
                  have t11 : ((i1 + L + i3 + i4) != (m2.ss.length : Int)) = false := by simpa using t2
                  clear t1 t10 rV5 rY5 rU
                  go_wp2_with fail
                  refine hsame2.mono ?_
                  rintro e z6 ⟨rfl, q6, rfl⟩
                  have hB6 := hB5.below' (bdrewN (Below.refl _ _) q6)
                  have hrow6 := hrow5.below (bdrewN (Below.refl _ _) q6)
                  have hints := Ref01.ints_any (w7.drewN q6) _ _ m2.line m2.line (OwnS.at (hown5.stable (Nat.le_refl _) (fun _ _ => rfl))) (OwnS.at (hownb5.stable (Nat.le_refl _) (fun _ _ => rfl)))
                  rw [decide_eq_true rfl] at hints
                  have k7 : (w7.drewN q6).cell? ⟨wb, 1, none⟩ = some (.slice va m2.line.length vd) := k7
                  have k9 : (w7.drewN q6).cell? ⟨ub, 1, none⟩ = some (.slice va2 m2.line.length vd2) := k9
                  clear hsame2 hsl5 hslb5 hown5 hownb5 k1 k2 k3 k4 k5 k6 k8
                  generalize w7.drewN q6 = w8 at *
                  go_wp2_with fail
                  refine hints.mono ?_
                  rintro e z7 ⟨rfl, q7, rfl⟩
                  have hB7 := hB6.below' (bdrewN (Below.refl _ _) q7)
                  have hrow7 := hrow6.below (bdrewN (Below.refl _ _) q7)
                  clear hints k7 k9
                  go_wp2_with fail
                  go_round
                  case rel => exact ⟨_, rfl, n + 1, by omega, rfl, p2, hB7.less (fun j hj => by rw [hj]; exact hKc), hrow7⟩
                  case measure => simp [intOf] <;> omega
              · obtain rfl : n = j := by omega
                have n1 : ¬ ((n : Nat) : Int) < (n : Int) := by omega
                have hbe := hB.below
                go_wp2_with fail
                go_ret
                exact ⟨rfl, hbe⟩
end Go.Proofs.YtpmkgddjgebojaaGreatDoor.Mod

namespace Go.Proofs.YtpmkgddjgebojaaGreatDoor.modelCounts
open Go.ChangeShapes Go.WideShapes Go.ChangeAt Go.RowKit
set_option linter.unusedVariables false
set_option linter.unusedSimpArgs false

theorem own : ownKnob Tryz.prog.godebug = none := by kernel_rfl
theorem laidOut : laidOutB Tryz.prog = true := by kernel_rfl

set_option maxRecDepth 100000 in
theorem lifted (os : Os) (started : os.Started) (H : Type) (enc : TypeId × Value → H) :
    ReturnsInHanded {} Tryz.checked os 7 .any (fun w args => (Rows.modelCountsSpec.pre enc Tryz.prog Tryz.f7 [] false w args ∧ laidMetH Tryz.prog Mod.lst w) ∧ sizedMet enc Tryz.prog Tryz.f7 (OpenSpec.ofChange Rows.modelCountsSpec) false w args) (Rows.modelCountsSpec.post enc Tryz.prog Tryz.f7 false true false false) := by
  refine returnsInHanded_of_change_and (C := Tryz.checked) (X := fun w _ => laidMetH Tryz.prog Mod.lst w) (fun _ _ _ hh h => h.of_heap hh) own started (by kernel_rfl) Tryz.func7
    (ChangeSpec.witness_shaped (enc := enc) (C := Tryz.checked) (os := os) (X := fun w _ => laidMetH Tryz.prog Mod.lst w) false (World.doorLaid Tryz.prog 23 os) #[.agg #[.int .u8 0, .int .u8 0, .int .u8 0, .int .u8 0, .int .u8 0], .slice none 0 0] 8 rfl (World.shaped_of_RefB (by kernel_rfl) (by kernel_rfl)) (by kernel_rfl) (by kernel_rfl) (by kernel_rfl) (Mod.door_met os _)) ?_
  intro W base args ds gs before hval0 hW _ _ hL _
  have hval : ∀ (j : Nat) t v, Tryz.f7.params[j]? = some t → args[j]? = some v → Value.okWide Tryz.prog W .any base t v := hval0
  have hW' := hW
  obtain ⟨p, q, hA0, hV, rfl, hfz, hnd⟩ := hW
  have hA : DataW.TrodAll enc Tryz.prog W 0 (fun _ => true) true Tryz.f7.params.toList args.toList ds p := hA0
  rw [Tryz.params7] at hA hval
  obtain ⟨v0, vs0, d0, ds0, p0, q0, hargs, rfl, rfl, h0, r0⟩ := trodAll_cons hA
  obtain ⟨v1, vs1, d1, ds1, p1, q1, rfl, rfl, rfl, h1, r1⟩ := trodAll_cons r0
  obtain ⟨rfl, rfl, rfl⟩ := trodAll_nil r1
  obtain rfl : args = #[v0, v1] := by cases args; simp_all
  obtain ⟨rfl, rfl⟩ := trodVars_none hV
  have k0 := h0
  have lt0 : ∀ x ∈ p0, x.block < W.heap.size := by obtain ⟨m, hm⟩ := k0; exact DataW.trod_lt m _ _ _ hm
  obtain ⟨g0a, g0b, g0c, g0d, g0e, rfl, x0a, x0b, x0c, x0d, x0e⟩ := Mod.open_given (hval 0 49 v0 rfl rfl) h0
  have k1 := h1
  have lt1 : ∀ x ∈ p1, x.block < W.heap.size := by obtain ⟨m, hm⟩ := k1; exact DataW.trod_lt m _ _ _ hm
  obtain ⟨a1, len1, cap1, e1⟩ := okWide_slice Tryz.underlying50 (hval 1 50 v1 rfl rfl)
  obtain ⟨l1, wl1, -⟩ := Mod.open_turns e1 h1
  have hLd := Mod.of_laid hL
  clear hA0 hval0
  refine (Mod.modelCounts_walk W hLd _ _ _ _ _ x0a x0b x0c x0d x0e _ l1 wl1).mono fun e W' ⟨he, bel⟩ => ?_
  subst he
  exact ⟨_, rfl, _, _, _, [], _, [], hW', trodAll_mk1 (shut_bool Tryz.underlying4 _), (trodAll_cons_mk (Below.trod laidOut (by kernel_rfl) (of_decide_eq_true (by kernel_rfl)) k0 bel lt0) (trodAll_cons_mk (Below.trod laidOut (by kernel_rfl) (of_decide_eq_true (by kernel_rfl)) k1 bel lt1) trodAll_mk0)), rfl, bel.frame _, fun h => by cases h⟩

theorem over : Rows.modelCountsRow.holds Tryz.pinned (OpenSpec.ofChange Rows.modelCountsSpec) :=
  OpenClaim.holds_of_wide 7 Tryz.f7 rfl rfl rfl rfl rfl rfl rfl ⟨rfl, rfl, rfl, rfl, rfl⟩ rfl rfl rfl rfl rfl (by kernel_rfl) Tryz.func7 (by kernel_rfl)
    (of_decide_eq_true (by kernel_rfl)) (by unfold Func.isWrapper; first | (rw [if_pos (by decide +kernel)]; kernel_rfl) | (rw [if_neg (by decide +kernel)]; exact ⟨rfl, rfl⟩))
    (fun os started H enc _ => lifted os started H enc)

theorem proved : Rows.ModelCountsCardSaid :=
  Claim7.holds_tied_plain_at .later [] [.data] true (true, "fc8267f2bfccbddf267fa1b35529e40ef16cac4113fcc7d60f2cec3809bf4342") false
    over (fun _ h => by cases h) (by kernel_rfl) (fun _ h => by cases h) modelCounts_row_tie rfl ⟨rfl, rfl⟩ (by kernel_rfl) rfl
    (fun f fn hf hfn => by
      obtain rfl : f = 7 := Option.some.inj ((show Tryz.prog.funcNamed "coachhouse/coachhouselaw23.ModelCounts" = some 7 by kernel_rfl).symm.trans hf) |>.symm
      obtain rfl : fn = Tryz.f7 := (Option.some.inj (Tryz.func7.symm.trans hfn)).symm
      exact ⟨by kernel_rfl, fun j t ht => by
        rw [Tryz.params7] at ht
        have hm : t ∈ [49, 50] := by simpa using Array.mem_of_getElem? ht
        have hall : ([49, 50].all fun u => !Tryz.prog.wantsStandIn u) = true := by kernel_rfl
        exact (show Tryz.prog.wantsStandIn t = false by simpa using List.all_eq_true.1 hall t hm)⟩)
    (by kernel_rfl)
#print axioms proved
end Go.Proofs.YtpmkgddjgebojaaGreatDoor.modelCounts

