/- The statement ModelClosed holds, for every input: the call answers true and leaves what it was handed as it was, where the package's table slot.fields is laid as the program's text lays it (the tied card). -/
import Derived.Test.YtpmkgddjgebojaaGreatDoorA6
import Derived.Test.YtpmkgddjgebojaaGreatDoorRows
import Derived.Test.YtpmkgddjgebojaaGreatDoorTie
import Derived.Test.YtpmkgddjgebojaaGreatDoorCards
import Derived.WalkKit
import Derived.ProofKit
import Derived.OpenShut
import Derived.ShutString
import Derived.ChangeOld
import Derived.Below
import Derived.LaidMore
import Derived.SevenTiedAt

namespace Go.Proofs.YtpmkgddjgebojaaGreatDoor.Mod
set_option linter.unusedVariables false
set_option linter.unusedSimpArgs false
open Go.RowKit Hp Slot RowL Life

set_option maxRecDepth 100000 in
set_option maxHeartbeats 16000000 in
theorem modelClosed_walk (W : World) (hL : Laid W) (ga gb gc gd ge : Int) (xa : 0 ≤ ga ∧ ga < 256) (xb : 0 ≤ gb ∧ gb < 256) (xc : 0 ≤ gc ∧ gc < 256) (xd : 0 ≤ gd ∧ gd < 256) (xe : 0 ≤ ge ∧ ge < 256) (lv : Value) (l : List Tn) (hl : TurnsAt W lv l) (n0 : Int) (xn : 0 ≤ n0 ∧ n0 < 256) (ak : Ask) :
    Calls Tryz.prog 9 #[.agg #[.int .u8 ga, .int .u8 gb, .int .u8 gc, .int .u8 gd, .int .u8 ge], lv, .int .u8 n0, ak.val] W fun e W' => e = .returned (.bool true) ∧ Below W.heap.size W W' := by
  obtain ⟨op, dl, wt, fo, sl, gen, st⟩ := ak
  simp only [Ask.val, Ask.cells]
  have hbG : Below W.heap.size W (W.alloc (.cells #[.int .u8 ga, .int .u8 gb, .int .u8 gc, .int .u8 gd, .int .u8 ge] 49)) := (Below.refl _ _).alloc (Nat.le_refl _) _
  have hbA : Below W.heap.size W ((W.alloc (.cells #[.int .u8 ga, .int .u8 gb, .int .u8 gc, .int .u8 gd, .int .u8 ge] 49)).alloc (.cells #[.int .i64 op, .int .i64 dl, .bool wt, .bool fo, .int .i64 sl, .int .i64 gen, .int .i64 st] 25)) := hbG.alloc hbG.size _
  have haw := awake_any ((W.alloc (.cells #[.int .u8 ga, .int .u8 gb, .int .u8 gc, .int .u8 gd, .int .u8 ge] 49)).alloc (.cells #[.int .i64 op, .int .i64 dl, .bool wt, .bool fo, .int .i64 sl, .int .i64 gen, .int .i64 st] 25)) (hL.stable (hbA.block 0 (hL.lt (by decide))))
  have rA : RowAt ((W.alloc (.cells #[.int .u8 ga, .int .u8 gb, .int .u8 gc, .int .u8 gd, .int .u8 ge] 49)).alloc (.cells #[.int .i64 op, .int .i64 dl, .bool wt, .bool fo, .int .i64 sl, .int .i64 gen, .int .i64 st] 25)) W.heap.size #[.int .u8 ga, .int .u8 gb, .int .u8 gc, .int .u8 gd, .int .u8 ge] 49 := (RowAt.new _ _ _).alloc _
  have rK : RowAt ((W.alloc (.cells #[.int .u8 ga, .int .u8 gb, .int .u8 gc, .int .u8 gd, .int .u8 ge] 49)).alloc (.cells #[.int .i64 op, .int .i64 dl, .bool wt, .bool fo, .int .i64 sl, .int .i64 gen, .int .i64 st] 25)) (W.heap.size + 1) #[.int .i64 op, .int .i64 dl, .bool wt, .bool fo, .int .i64 sl, .int .i64 gen, .int .i64 st] 25 := by have := RowAt.new (W.alloc (.cells #[.int .u8 ga, .int .u8 gb, .int .u8 gc, .int .u8 gd, .int .u8 ge] 49)) #[.int .i64 op, .int .i64 dl, .bool wt, .bool fo, .int .i64 sl, .int .i64 gen, .int .i64 st] 25; simpa using this
  have hkb : W.heap.size + 1 < ((W.alloc (.cells #[.int .u8 ga, .int .u8 gb, .int .u8 gc, .int .u8 gd, .int .u8 ge] 49)).alloc (.cells #[.int .i64 op, .int .i64 dl, .bool wt, .bool fo, .int .i64 sl, .int .i64 gen, .int .i64 st] 25)).heap.size := rK.lt
  have hpos : 0 < W.heap.size := hL.lt (by decide)
  have HLd := Lib.hid hL
  have HL := Lib.hid hl
  obtain ⟨a, cp, rfl, htok, hcells⟩ := hl
  clear hcells hL htok
  go_enter Tryz.func9, Tryz.ntmps9
  go_wp2_with fail
  refine haw.mono ?_
  rintro e w1 ⟨rfl, hb1⟩
  have r1 := rA.below hb1
  have rK1 := rK.below hb1
  have hkb1 := rK1.lt
  clear haw rA rK hkb
  by_cases hn : l.length ≤ 60
  rotate_left
  · have hn' : (60 : Int) < l.length := by omega
    go_wp2
    go_ret
    exact ⟨rfl, hbA.trans (hb1.mono hbA.size)⟩
  have hn' : ¬ (60 : Int) < l.length := by omega
  have d0 : w1.cell? ⟨W.heap.size, 0, none⟩ = some (.int .u8 ga) := r1.cell 0
  have d1 : w1.cell? ⟨W.heap.size, 1, none⟩ = some (.int .u8 gb) := r1.cell 1
  have d2 : w1.cell? ⟨W.heap.size, 2, none⟩ = some (.int .u8 gc) := r1.cell 2
  have d3 : w1.cell? ⟨W.heap.size, 3, none⟩ = some (.int .u8 gd) := r1.cell 3
  have d4 : w1.cell? ⟨W.heap.size, 4, none⟩ = some (.int .u8 ge) := r1.cell 4
  have hcf := conf_any w1 ga gb gc gd ge xa xb xc xd xe
  have hcr := confOf_right ga gb gc gd ge
  generalize confOf ga gb gc gd ge = c at *
  have hlb := HL.out.below (hbA.trans (hb1.mono hbA.size))
  go_wp2_with fail
  refine hcf.mono ?_
  rintro e w2 ⟨rfl, hb2⟩
  clear hcf d0 d1 d2 d3 d4 r1
  have rz := RowAt.new w2 #[.int .i64 0, .int .i64 0, .int .i64 0, .int .i64 0, .int .i64 0] 23
  have hst := conf_store rz rfl c
  have row3 := rz.set c.cells
  have hb3 : Below w2.heap.size w2 ((w2.alloc (.cells #[.int .i64 0, .int .i64 0, .int .i64 0, .int .i64 0, .int .i64 0] 23)).setRow w2.heap.size c.cells) := below_setRow ((Below.refl _ _).alloc (Nat.le_refl _) _) (Nat.le_refl _) _
  have hb13 : Below w1.heap.size w1 ((w2.alloc (.cells #[.int .i64 0, .int .i64 0, .int .i64 0, .int .i64 0, .int .i64 0] 23)).setRow w2.heap.size c.cells) := hb2.trans (hb3.mono hb2.size)
  have hbW : Below W.heap.size W ((w2.alloc (.cells #[.int .i64 0, .int .i64 0, .int .i64 0, .int .i64 0, .int .i64 0] 23)).setRow w2.heap.size c.cells) := (hbA.trans (hb1.mono hbA.size)).trans (hb13.mono (Nat.le_trans hbA.size hb1.size))
  have hcb : W.heap.size ≤ w2.heap.size := Nat.le_trans hbA.size (Nat.le_trans hb1.size hb2.size)
  have hsc : c.cells.size = 5 := rfl
  go_upto_region 5 with (fail)
  have rK3 := rK1.below hb13
  have hkc : W.heap.size + 1 < w2.heap.size := Nat.lt_of_lt_of_le hkb1 hb2.size
  clear rK1 hkb1
  generalize (w2.alloc (.cells #[.int .i64 0, .int .i64 0, .int .i64 0, .int .i64 0, .int .i64 0] 23)).setRow w2.heap.size c.cells = w3 at *
  generalize w2.heap.size = cb at *
  generalize W.heap.size + 1 = kb at *
  clear hst rz hb13 hb3 hb2 hb1 hbA hsc hlb
  have hL3 : Laid w3 := HLd.out.stable (hbW.block 0 (HLd.out.lt (by decide)))
  have hl3 := HL.out.below hbW
  refine wp_region_lit ?_
  refine RowL.wpList_load_row rfl 23 (.tmp 10) rfl cb _ c.cells _ rfl row3 Tryz.underlying23 rfl (by kernel_rfl) ?_
  have hpl := played_any w3 c hcr hL3 _ l hl3 hn
  go_wp2_with fail
  refine hpl.mono ?_
  rintro e w4 ⟨p, m, evs0, rfl, hA, hran, hnew, hb4⟩
  have hInv := hran.inv hcr
  have hcfm := hran.cf
  have row4 := row3.below hb4
  have hcb3 : cb < w3.heap.size := row3.lt
  have rK4 := rK3.below hb4
  have hB4 : PlayB W (fun j => j = cb ∨ j = kb) p.mb (.slice none 0 0) w4 p m [] := ⟨hpos, rfl, hA, ownS_nil _ _, fun j hj => by have := hnew j hj; have := hbW.size; omega, fun j hj => (fp_nil j hj).elim, fun j hj => (fp_nil j hj).elim, fun j hj => ⟨by have := hb4.size; omega, fun hm => by have := hnew j hm; omega, fun hm => fp_nil j hm⟩, hbW.trans (hb4.mono hbW.size)⟩
  generalize p.mb = mb at *
  clear hpl hA hran hnew hb4 hL3 hl3 row3 hbW rK3 hkc
  obtain ⟨nk, hnk⟩ : ∃ nk : Nat, c.workers = (nk : Int) := ⟨c.workers.toNat, by have := hcr; simp [Conf.Cf.right, Conf.btw] at this; omega⟩
  have hnk8 : 1 ≤ nk ∧ nk ≤ 8 := by have := hcr; simp [Conf.Cf.right, Conf.btw] at this; omega
  have ym : 0 ≤ n0 % (nk : Int) ∧ n0 % (nk : Int) < nk := ⟨Int.emod_nonneg _ (by omega), Int.emod_lt_of_pos _ (by omega)⟩
  obtain ⟨n, hn0⟩ : ∃ n : Nat, n0 % (nk : Int) = (n : Int) := ⟨(n0 % (nk : Int)).toNat, by omega⟩
  have yt : n0.tmod (nk : Int) = (n : Int) := (Int.tmod_eq_emod_of_nonneg xn.1).trans hn0
  have hnl : n < nk := by omega
  have nk0 : ((nk : Int) == 0) = false := by simp; omega
  have hks : m.ks.length = nk := by have := hB4.at'.ok.nks; rw [hcfm, hnk] at this; omega
  have e0 : w4.cell? ⟨cb, 0, none⟩ = some (.int .i64 nk) := by rw [← hnk]; exact row4.cell 0
  have hnB : n < m.ks.length := by omega
  have HNK := Lib.hid hnk
  clear hn0 ym hnk
  have hm := m_ask hB4.at' n (⟨6, 0, false, true, 0, 0, 0⟩ : Ask)
  rw [hB4.mb] at hm
  have hF := force_ask hInv (n := n) (⟨6, 0, false, true, 0, 0, 0⟩ : Ask) rfl rfl (by decide)
  have hcf := (ask_cf m n (⟨6, 0, false, true, 0, 0, 0⟩ : Ask)).trans hcfm
  generalize m.ask n (⟨6, 0, false, true, 0, 0, 0⟩ : Ask) = r at *
  obtain ⟨⟨y0, yb, yc⟩, m1⟩ := r
  simp only at hm hF hcf
  have HF := Lib.hid hF
  clear hF
  go_wp2_with fail
  refine hm.mono ?_
  intro e v0 hpost
  obtain ⟨rfl, p0, hC0, hS0⟩ := hB4.post hpost
  have row5 := RowAt.same row4 hS0 (.inl rfl)
  have rK5 := RowAt.same rK4 hS0 (.inr rfl)
  clear hpost hm e0 hB4 row4 rK4 hS0
  have rz := RowAt.new v0 #[.bool false, .int .i64 0, .int .i64 0, .int .i64 0, .int .i64 0, .bool false, .bool false, .int .i64 0, .int .i64 0, .int .i64 0, .int .i64 0, .int .i64 0, .int .i64 0, .int .i64 0, .int .i64 0, .int .i64 0, .int .i64 0, .int .i64 0] 36
  have hst := ev_store rz rfl y0
  have hsz := ev_size y0
  have hb11 : Below v0.heap.size v0 ((v0.alloc (.cells #[.bool false, .int .i64 0, .int .i64 0, .int .i64 0, .int .i64 0, .bool false, .bool false, .int .i64 0, .int .i64 0, .int .i64 0, .int .i64 0, .int .i64 0, .int .i64 0, .int .i64 0, .int .i64 0, .int .i64 0, .int .i64 0, .int .i64 0] 36)).setRow v0.heap.size y0.cells) := below_setRow ((Below.refl _ _).alloc (Nat.le_refl _) _) (Nat.le_refl _) _
  have hB5 := hC0.below' hb11
  have row5 := row5.below hb11
  have rK5 := rK5.below hb11
  clear hb11 rz hC0
  cases yc
  · have hbe := hB5.below
    clear HF
    go_wp2_with fail
    go_ret
    exact ⟨rfl, hbe⟩
  obtain ⟨hI1, hc1⟩ := HF.out (by trivial)
  clear HF
  go_upto_region 11 with (fail)
  generalize (v0.alloc (.cells #[.bool false, .int .i64 0, .int .i64 0, .int .i64 0, .int .i64 0, .bool false, .bool false, .int .i64 0, .int .i64 0, .int .i64 0, .int .i64 0, .int .i64 0, .int .i64 0, .int .i64 0, .int .i64 0, .int .i64 0, .int .i64 0, .int .i64 0] 36)).setRow v0.heap.size y0.cells = x5 at *
  generalize v0.heap.size = g5 at *
  clear hst hsz
  have vw := view_waits
  have hv := m_view hB5.at'
  rw [hB5.mb, hI1.cl (by omega)] at hv
  clear yt nk0 xn hks hnB hInv hcfm
  go_wp2_with fail
  refine hv.mono ?_
  rintro e z1 ⟨vg, vc, va, vd, rfl, -, -, -, -, hb⟩
  have hB6 := hB5.below' hb
  have row6 := row5.below hb
  have rK6 := rK5.below hb
  clear hv hb hB5 row5 rK5
  go_wp2_with fail
  go_loopw [15] (fun i wr => ∃ k : Nat, k ≤ nk ∧ i = .int .i64 k ∧ ∃ q m', PlayB W (fun j => j = cb ∨ j = kb) mb (.slice none 0 0) wr q m' [] ∧ Inv m' ∧ m'.closed = 2 ∧ m'.cf = c ∧ RowAt wr cb c.cells 23 ∧ RowAt wr kb #[.int .i64 op, .int .i64 dl, .bool wt, .bool fo, .int .i64 sl, .int .i64 gen, .int .i64 st] 25 ∧ ∀ j : Nat, j < k → ∀ w, m'.ks[j]? = some w → w.at' = 0) (fun i _ => nk - (intOf i).toNat)
  case atStart => exact ⟨0, by omega, rfl, p0, m1, hB6, hI1, hc1, hcf, row6, rK6, fun j hj => by omega⟩
  case round =>
    rename_i wr
    clear hB6 hI1 hc1 hcf row6 rK6
    obtain ⟨k, hk, rfl, q, m, hB, hI, hcl, hcm, hrow, hrK, hall⟩ := hrel
    have e0 : wr.cell? ⟨cb, 0, none⟩ = some (.int .i64 nk) := by rw [← HNK.out]; exact hrow.cell 0
    have hks : m.ks.length = nk := by have := hB.at'.ok.nks; rw [hcm, HNK.out] at this; omega
    have b0 : (0 : Int) ≤ (k : Int) := by omega
    by_cases hlt : k < nk
    · have b1 : (k : Int) < (nk : Int) := by omega
      obtain ⟨w0, hw0⟩ : ∃ w, m.ks[k]? = some w := ⟨_, List.getElem?_eq_getElem (by omega)⟩
      have f0 : wr.cell? ⟨kb, 0, none⟩ = some (.int .i64 op) := hrK.cell 0
      have f1 : wr.cell? ⟨kb, 1, none⟩ = some (.int .i64 dl) := hrK.cell 1
      have f2 : wr.cell? ⟨kb, 2, none⟩ = some (.bool wt) := hrK.cell 2
      have f3 : wr.cell? ⟨kb, 3, none⟩ = some (.bool fo) := hrK.cell 3
      have f4 : wr.cell? ⟨kb, 4, none⟩ = some (.int .i64 sl) := hrK.cell 4
      have f5 : wr.cell? ⟨kb, 5, none⟩ = some (.int .i64 gen) := hrK.cell 5
      have f6 : wr.cell? ⟨kb, 6, none⟩ = some (.int .i64 st) := hrK.cell 6
      have hm := m_ask hB.at' k (⟨op, dl, wt, fo, sl, gen, st⟩ : Ask)
      rw [hB.mb] at hm
      have hF := closed_ask hI hcl (n := k) (by omega) (⟨op, dl, wt, fo, sl, gen, st⟩ : Ask)
      have hcn := fun (h0 : 0 ≤ op) (h8 : op < 8) => can_op (m := m) (n := k) hw0 (a := (⟨op, dl, wt, fo, sl, gen, st⟩ : Ask)) h0 h8
      have hcf := (ask_cf m k (⟨op, dl, wt, fo, sl, gen, st⟩ : Ask)).trans hcm
      generalize hr : m.ask k (⟨op, dl, wt, fo, sl, gen, st⟩ : Ask) = r at *
      clear hr
      obtain ⟨⟨y, yb, yc⟩, m2⟩ := r
      simp only at hm hF hcf hcn
      obtain ⟨hI2, hc2, hk2, hF1, hF2⟩ := hF
      rw [← hF2] at hcn
      have hw2 : m2.ks[k]? = some w0 := by rw [hk2]; exact hw0
      have hG := closed_wake hI2 hc2 hw2
      have hcw := (wake_cf m2 k).trans hcf
      have HW := Lib.hid hG
      have HF1 := Lib.hid hF1
      have HCN := Lib.hid hcn
      have HK2 := Lib.hid hk2
      have HALL := Lib.hid hall
      have HW0 := Lib.hid hw0
      clear hG hF1 hcn hF2 hk2 hall hw0 hw2 b1
      go_wp2_with fail
      refine hm.mono ?_
      intro e v1 hpost
      obtain ⟨rfl, p1, hB1, hS1⟩ := hB.post hpost
      have hrow1 := RowAt.same hrow hS1 (.inl rfl)
      have hrK1 := RowAt.same hrK hS1 (.inr rfl)
      clear hpost hm hS1 hB hrow hrK e0 f0 f1 f2 f3 f4 f5 f6
      have rz := RowAt.new v1 #[.bool false, .int .i64 0, .int .i64 0, .int .i64 0, .int .i64 0, .bool false, .bool false, .int .i64 0, .int .i64 0, .int .i64 0, .int .i64 0, .int .i64 0, .int .i64 0, .int .i64 0, .int .i64 0, .int .i64 0, .int .i64 0, .int .i64 0] 36
      have hst := ev_store rz rfl y
      have hsz := ev_size y
      have rw2 := rz.set y.cells
      have hb11 : Below v1.heap.size v1 ((v1.alloc (.cells #[.bool false, .int .i64 0, .int .i64 0, .int .i64 0, .int .i64 0, .bool false, .bool false, .int .i64 0, .int .i64 0, .int .i64 0, .int .i64 0, .int .i64 0, .int .i64 0, .int .i64 0, .int .i64 0, .int .i64 0, .int .i64 0, .int .i64 0] 36)).setRow v1.heap.size y.cells) := below_setRow ((Below.refl _ _).alloc (Nat.le_refl _) _) (Nat.le_refl _) _
      have hB1' := hB1.below' hb11
      have hrow1 := hrow1.below hb11
      have hrK1 := hrK1.below hb11
      clear hb11 rz hB1
      go_upto_region 17 with (fail)
      generalize (v1.alloc (.cells #[.bool false, .int .i64 0, .int .i64 0, .int .i64 0, .int .i64 0, .bool false, .bool false, .int .i64 0, .int .i64 0, .int .i64 0, .int .i64 0, .int .i64 0, .int .i64 0, .int .i64 0, .int .i64 0, .int .i64 0, .int .i64 0, .int .i64 0] 36)).setRow v1.heap.size y.cells = x1 at *
      generalize v1.heap.size = gy at *
      clear hst hsz
      have f0 : x1.cell? ⟨kb, 0, none⟩ = some (.int .i64 op) := hrK1.cell 0
      have fe : x1.cell? ⟨gy, 10, none⟩ = some (.int .i64 y.e) := rw2.cell 10
      generalize hye : y.e = ye at *
      clear rw2
      go_cut [87] from 54 to 119 (fun s87 wx => s87 = .bool false ∧ wx = x1)
      case first =>
        by_cases o0 : 0 ≤ op
        · by_cases o4 : op ≤ 4
          · cases yc
            · clear HF1
              go_wp2_with fail
              go_meet
              case rel => exact ⟨rfl, rfl⟩
            · obtain ⟨hyb, hy5⟩ := HF1.out (by trivial) o0 o4
              subst hyb
              subst hy5
              clear HF1
              go_wp2_with fail
              go_meet
              case rel => exact ⟨rfl, rfl⟩
          · clear HF1
            go_wp2_with fail
            go_meet
            case rel => exact ⟨rfl, rfl⟩
        · clear HF1
          go_wp2_with fail
          go_meet
          case rel => exact ⟨rfl, rfl⟩
      case rest =>
        obtain ⟨rfl, rfl⟩ := hcut
        have hw := m_wake hB1'.at' k
        rw [hB1'.mb] at hw
        generalize m2.wake k = r at *
        obtain ⟨⟨u, ub⟩, m3⟩ := r
        simp only at hw hcw
        clear f0 fe
        go_wp2_with fail
        refine hw.mono ?_
        intro e v2 hpost
        obtain ⟨rfl, p2, hB2, hS2⟩ := hB1'.post hpost
        have hrow2 := RowAt.same hrow1 hS2 (.inl rfl)
        have hrK2 := RowAt.same hrK1 hS2 (.inr rfl)
        clear hpost hw hS2 hB1' hrow1 hrK1
        have rz := RowAt.new v2 #[.bool false, .int .i64 0, .int .i64 0, .int .i64 0, .int .i64 0, .bool false, .bool false, .int .i64 0, .int .i64 0, .int .i64 0, .int .i64 0, .int .i64 0, .int .i64 0, .int .i64 0, .int .i64 0, .int .i64 0, .int .i64 0, .int .i64 0] 36
        have hst := ev_store rz rfl u
        have hsz := ev_size u
        have rw2 := rz.set u.cells
        have hb11 : Below v2.heap.size v2 ((v2.alloc (.cells #[.bool false, .int .i64 0, .int .i64 0, .int .i64 0, .int .i64 0, .bool false, .bool false, .int .i64 0, .int .i64 0, .int .i64 0, .int .i64 0, .int .i64 0, .int .i64 0, .int .i64 0, .int .i64 0, .int .i64 0, .int .i64 0, .int .i64 0] 36)).setRow v2.heap.size u.cells) := below_setRow ((Below.refl _ _).alloc (Nat.le_refl _) _) (Nat.le_refl _) _
        have hB2' := hB2.below' hb11
        have hrow2 := hrow2.below hb11
        have hrK2 := hrK2.below hb11
        clear hb11 rz hB2
        go_upto_region 20 with (fail)
        generalize (v2.alloc (.cells #[.bool false, .int .i64 0, .int .i64 0, .int .i64 0, .int .i64 0, .bool false, .bool false, .int .i64 0, .int .i64 0, .int .i64 0, .int .i64 0, .int .i64 0, .int .i64 0, .int .i64 0, .int .i64 0, .int .i64 0, .int .i64 0, .int .i64 0] 36)).setRow v2.heap.size u.cells = x2 at *
        generalize v2.heap.size = gu at *
        clear hst hsz
        have f0 : x2.cell? ⟨kb, 0, none⟩ = some (.int .i64 op) := hrK2.cell 0
        have fe : x2.cell? ⟨gu, 10, none⟩ = some (.int .i64 u.e) := rw2.cell 10
        obtain ⟨hI3, hc3, hub, hue, hks3⟩ := HW.out
        try simp only at hub hue
        have hu56 : ub = true → u.e = 5 ∨ u.e = 6 := hue
        generalize hue' : u.e = ue at *
        have HUB := Lib.hid hub
        have HUE := Lib.hid hu56
        clear rw2 hub hue hu56 HW hue'
        go_cut [119] from 54 to 119 (fun s119 wx => s119 = .bool false ∧ wx = x2)
        case first =>
          have key : ub = yc → ¬ (0 ≤ op ∧ op < 8) := fun e h => by
            have h1 := HCN.out h.1 h.2
            have h2 := HUB.out
            rw [e, h1] at h2
            cases hd : decide (w0.at' = 0) <;> rw [hd] at h2 <;> cases h2
          have HKEY := Lib.hid key
          clear key HUB HCN
          cases ub
          · cases yc
            · by_cases o0 : 0 ≤ op
              · have o8 : 8 ≤ op := by have := HKEY.out rfl; omega
                clear HKEY HUE
                go_wp2_with fail
                go_meet
                case rel => exact ⟨by first | rfl | (simp; omega), rfl⟩
              · clear HKEY HUE
                go_wp2_with fail
                go_meet
                case rel => exact ⟨rfl, rfl⟩
            · clear HKEY HUE
              go_wp2_with fail
              go_meet
              case rel => exact ⟨rfl, rfl⟩
          · have h56 := HUE.out rfl
            clear HUE
            rcases h56 with h5 | h6
            · subst h5
              cases yc
              · clear HKEY
                go_wp2_with fail
                go_meet
                case rel => exact ⟨rfl, rfl⟩
              · by_cases o0 : 0 ≤ op
                · have o8 : 8 ≤ op := by have := HKEY.out rfl; omega
                  clear HKEY
                  go_wp2_with fail
                  go_meet
                  case rel => exact ⟨by first | rfl | (simp; omega), rfl⟩
                · clear HKEY
                  go_wp2_with fail
                  go_meet
                  case rel => exact ⟨rfl, rfl⟩
            · subst h6
              cases yc
              · clear HKEY
                go_wp2_with fail
                go_meet
                case rel => exact ⟨rfl, rfl⟩
              · by_cases o0 : 0 ≤ op
                · have o8 : 8 ≤ op := by have := HKEY.out rfl; omega
                  clear HKEY
                  go_wp2_with fail
                  go_meet
                  case rel => exact ⟨by first | rfl | (simp; omega), rfl⟩
                · clear HKEY
                  go_wp2_with fail
                  go_meet
                  case rel => exact ⟨rfl, rfl⟩
        case rest =>
          obtain ⟨rfl, rfl⟩ := hcut
          have hall2 : ∀ j : Nat, j < k + 1 → ∀ w, m3.ks[j]? = some w → w.at' = 0 := fun j hj w hw => by
            rcases hks3 j w hw with h | ⟨h1, h2⟩
            · exact h
            · rw [HK2.out] at h2
              exact HALL.out j (by omega) w h2
          clear f0 fe hks3
          go_wp2_with fail
          go_round
          case rel => exact ⟨k + 1, by omega, rfl, p2, m3, hB2', hI3, hc3, hcw, hrow2, hrK2, hall2⟩
          case measure => simp [intOf] <;> omega
    · obtain rfl : k = nk := by omega
      have hz := closed_all hI hcl (fun w hw => by
        obtain ⟨j, hj⟩ := mem_get hw
        exact hall j (by have := (List.getElem?_eq_some_iff.1 hj).1; omega) w hj)
      have hcnt := count_all hz
      have hss := hB.at'.ok.ns
      have hv := m_view hB.at'
      rw [hB.mb, hcl] at hv
      have b1 : ¬ ((k : Nat) : Int) < (k : Int) := by omega
      have hsl0 : (m.ss.length : Int) = c.slots := by have := hB.at'.ok.nss; rw [hcm] at this; exact this
      clear hall hz
      go_wp2_with fail
      refine hv.mono ?_
      rintro e z5 ⟨vg3, vc3, va3, vd3, rfl, hsl, -, -, -, hb⟩
      have hB3 := hB.below' hb
      have hrow3 := hrow.below hb
      have row6 := RowAt.new z5 #[.slice (some ⟨vg3, 0, none⟩) m.ss.length vc3, .slice va3 m.line.length vd3, .int .i64 2] 45
      have hb6 : Below z5.heap.size z5 (z5.alloc (.cells #[.slice (some ⟨vg3, 0, none⟩) m.ss.length vc3, .slice va3 m.line.length vd3, .int .i64 2] 45)) := (Below.refl _ _).alloc (Nat.le_refl _) _
      have hB5 := hB3.below' hb6
      have hrow5 := hrow3.below hb6
      have hsl6 := hsl.stable (hb6.block vg3 (hsl.lt hss.1))
      clear hv hb hsl hB hB3 hrow hrow3
      go_upto_region 23 with (fail)
      generalize z5.alloc (.cells #[.slice (some ⟨vg3, 0, none⟩) m.ss.length vc3, .slice va3 m.line.length vd3, .int .i64 2] 45) = z6 at *
      generalize z5.heap.size = g6 at *
      clear hb6
      have d0 : z6.cell? ⟨g6, 0, none⟩ = some (.slice (some ⟨vg3, 0, none⟩) m.ss.length vc3) := row6.cell 0
      have d2 : z6.cell? ⟨g6, 2, none⟩ = some (.int .i64 2) := row6.cell 2
      have d1 : z6.cell? ⟨cb, 1, none⟩ = some (.int .i64 m.ss.length) := by rw [hsl0]; exact hrow5.cell 1
      have hst : ∀ q, Calls Tryz.prog 32 #[.slice (some ⟨vg3, 0, none⟩) m.ss.length vc3, .int .i64 0] (z6.drewN q) fun e W' => e = .returned (.int .i64 m.ss.length) ∧ ∃ n, W' = (z6.drewN q).drewN n := fun q => by
        have := state_any (z6.drewN q) vg3 vc3 m.ss (hsl6.stable rfl) (by omega) 0
        rw [hcnt] at this
        exact this
      clear row6 hrow5 hsl6
      go_quiet (exact Calls.quiet_of (hst _))
      have hbe := (hB5.below' (bdrewN (Below.refl _ _) nq)).below
      go_wp2
      go_ret
      exact ⟨rfl, hbe⟩
end Go.Proofs.YtpmkgddjgebojaaGreatDoor.Mod

namespace Go.Proofs.YtpmkgddjgebojaaGreatDoor.modelClosed
open Go.ChangeShapes Go.WideShapes Go.ChangeAt Go.RowKit
set_option linter.unusedVariables false
set_option linter.unusedSimpArgs false

theorem own : ownKnob Tryz.prog.godebug = none := by kernel_rfl
theorem laidOut : laidOutB Tryz.prog = true := by kernel_rfl

set_option maxRecDepth 100000 in
theorem lifted (os : Os) (started : os.Started) (H : Type) (enc : TypeId × Value → H) :
    ReturnsInHanded {} Tryz.checked os 9 .any (fun w args => (Rows.modelClosedSpec.pre enc Tryz.prog Tryz.f9 [] false w args ∧ laidMetH Tryz.prog Mod.lst w) ∧ sizedMet enc Tryz.prog Tryz.f9 (OpenSpec.ofChange Rows.modelClosedSpec) false w args) (Rows.modelClosedSpec.post enc Tryz.prog Tryz.f9 false true false false) := by
  refine returnsInHanded_of_change_and (C := Tryz.checked) (X := fun w _ => laidMetH Tryz.prog Mod.lst w) (fun _ _ _ hh h => h.of_heap hh) own started (by kernel_rfl) Tryz.func9
    (ChangeSpec.witness_shaped (enc := enc) (C := Tryz.checked) (os := os) (X := fun w _ => laidMetH Tryz.prog Mod.lst w) false (World.doorLaid Tryz.prog 23 os) #[.agg #[.int .u8 0, .int .u8 0, .int .u8 0, .int .u8 0, .int .u8 0], .slice none 0 0, .int .u8 0, Mod.Ask.zero.val] 8 rfl (World.shaped_of_RefB (by kernel_rfl) (by kernel_rfl)) (by kernel_rfl) (by kernel_rfl) (by kernel_rfl) (Mod.door_met os _)) ?_
  intro W base args ds gs before hval0 hW _ _ hL _
  have hval : ∀ (j : Nat) t v, Tryz.f9.params[j]? = some t → args[j]? = some v → Value.okWide Tryz.prog W .any base t v := hval0
  have hW' := hW
  obtain ⟨p, q, hA0, hV, rfl, hfz, hnd⟩ := hW
  have hA : DataW.TrodAll enc Tryz.prog W 0 (fun _ => true) true Tryz.f9.params.toList args.toList ds p := hA0
  rw [Tryz.params9] at hA hval
  obtain ⟨v0, vs0, d0, ds0, p0, q0, hargs, rfl, rfl, h0, r0⟩ := trodAll_cons hA
  obtain ⟨v1, vs1, d1, ds1, p1, q1, rfl, rfl, rfl, h1, r1⟩ := trodAll_cons r0
  obtain ⟨v2, vs2, d2, ds2, p2, q2, rfl, rfl, rfl, h2, r2⟩ := trodAll_cons r1
  obtain ⟨v3, vs3, d3, ds3, p3, q3, rfl, rfl, rfl, h3, r3⟩ := trodAll_cons r2
  obtain ⟨rfl, rfl, rfl⟩ := trodAll_nil r3
  obtain rfl : args = #[v0, v1, v2, v3] := by cases args; simp_all
  obtain ⟨rfl, rfl⟩ := trodVars_none hV
  have k0 := h0
  have lt0 : ∀ x ∈ p0, x.block < W.heap.size := by obtain ⟨m, hm⟩ := k0; exact DataW.trod_lt m _ _ _ hm
  obtain ⟨g0a, g0b, g0c, g0d, g0e, rfl, x0a, x0b, x0c, x0d, x0e⟩ := Mod.open_given (hval 0 49 v0 rfl rfl) h0
  have k1 := h1
  have lt1 : ∀ x ∈ p1, x.block < W.heap.size := by obtain ⟨m, hm⟩ := k1; exact DataW.trod_lt m _ _ _ hm
  obtain ⟨a1, len1, cap1, e1⟩ := okWide_slice Tryz.underlying50 (hval 1 50 v1 rfl rfl)
  obtain ⟨l1, wl1, -⟩ := Mod.open_turns e1 h1
  obtain ⟨a2, rfl, rfl, rfl, w2⟩ := open_int Tryz.underlying5 (hval 2 5 v2 rfl rfl) h2
  have k3 := h3
  have lt3 : ∀ x ∈ p3, x.block < W.heap.size := by obtain ⟨m, hm⟩ := k3; exact DataW.trod_lt m _ _ _ hm
  obtain ⟨ak3, rfl⟩ := Mod.open_ask (hval 3 25 v3 rfl rfl) h3
  have hLd := Mod.of_laid hL
  clear hA0 hval0
  refine (Mod.modelClosed_walk W hLd _ _ _ _ _ x0a x0b x0c x0d x0e _ l1 wl1 _ (Mod.u8_bd w2) ak3).mono fun e W' ⟨he, bel⟩ => ?_
  subst he
  exact ⟨_, rfl, _, _, _, [], _, [], hW', trodAll_mk1 (shut_bool Tryz.underlying4 _), (trodAll_cons_mk (Below.trod laidOut (by kernel_rfl) (of_decide_eq_true (by kernel_rfl)) k0 bel lt0) (trodAll_cons_mk (Below.trod laidOut (by kernel_rfl) (of_decide_eq_true (by kernel_rfl)) k1 bel lt1) (trodAll_cons_mk (shut_int Tryz.underlying5 w2) (trodAll_cons_mk (Below.trod laidOut (by kernel_rfl) (of_decide_eq_true (by kernel_rfl)) k3 bel lt3) trodAll_mk0)))), rfl, bel.frame _, fun h => by cases h⟩

theorem over : Rows.modelClosedRow.holds Tryz.pinned (OpenSpec.ofChange Rows.modelClosedSpec) :=
  OpenClaim.holds_of_wide 9 Tryz.f9 rfl rfl rfl rfl rfl rfl rfl ⟨rfl, rfl, rfl, rfl, rfl⟩ rfl rfl rfl rfl rfl (by kernel_rfl) Tryz.func9 (by kernel_rfl)
    (of_decide_eq_true (by kernel_rfl)) (by unfold Func.isWrapper; first | (rw [if_pos (by decide +kernel)]; kernel_rfl) | (rw [if_neg (by decide +kernel)]; exact ⟨rfl, rfl⟩))
    (fun os started H enc _ => lifted os started H enc)

theorem proved : Rows.ModelClosedCardSaid :=
  Claim7.holds_tied_plain_at .later [] [.data] true (true, "fc8267f2bfccbddf267fa1b35529e40ef16cac4113fcc7d60f2cec3809bf4342") false
    over (fun _ h => by cases h) (by kernel_rfl) (fun _ h => by cases h) modelClosed_row_tie rfl ⟨rfl, rfl⟩ (by kernel_rfl) rfl
    (fun f fn hf hfn => by
      obtain rfl : f = 9 := Option.some.inj ((show Tryz.prog.funcNamed "coachhouse/coachhouselaw23.ModelClosed" = some 9 by kernel_rfl).symm.trans hf) |>.symm
      obtain rfl : fn = Tryz.f9 := (Option.some.inj (Tryz.func9.symm.trans hfn)).symm
      exact ⟨by kernel_rfl, fun j t ht => by
        rw [Tryz.params9] at ht
        have hm : t ∈ [49, 50, 5, 25] := by simpa using Array.mem_of_getElem? ht
        have hall : ([49, 50, 5, 25].all fun u => !Tryz.prog.wantsStandIn u) = true := by kernel_rfl
        exact (show Tryz.prog.wantsStandIn t = false by simpa using List.all_eq_true.1 hall t hm)⟩)
    (by kernel_rfl)
#print axioms proved
end Go.Proofs.YtpmkgddjgebojaaGreatDoor.modelClosed

