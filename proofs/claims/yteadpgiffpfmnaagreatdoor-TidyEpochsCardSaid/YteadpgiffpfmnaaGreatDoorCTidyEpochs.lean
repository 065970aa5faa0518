/- The statement TidyEpochs holds, for every input: the call answers true and leaves what it was handed as it was, where the package's table slot.fields is laid as the program's text lays it (the tied card). -/
import Derived.Test.YteadpgiffpfmnaaGreatDoorQ16
import Derived.Test.YteadpgiffpfmnaaGreatDoorQ11
import Derived.Test.YteadpgiffpfmnaaGreatDoorQ15
import Derived.Test.YteadpgiffpfmnaaGreatDoorQ2
import Derived.Test.YteadpgiffpfmnaaGreatDoorRows
import Derived.Test.YteadpgiffpfmnaaGreatDoorTie
import Derived.Test.YteadpgiffpfmnaaGreatDoorCards
import Derived.WalkKit
import Derived.ProofKit
import Derived.OpenShut
import Derived.ShutString
import Derived.ChangeOld
import Derived.Below
import Derived.LaidMore
import Derived.SevenTiedAt

namespace Go.Proofs.YteadpgiffpfmnaaGreatDoor.Mod
set_option linter.unusedVariables false
set_option linter.unusedSimpArgs false
open Go.RowKit Hp Slot RowL Life Cl

set_option maxRecDepth 100000 in
set_option maxHeartbeats 8000000 in
theorem tidyEpochs_walk (W : World) (hL : Laid W) (g : Gv) (hgv : GvAt W g) (a0 : Option Addr) (len cap b0 off : Nat) (l : List Int) (hl : Base.IntsAt .u8 W a0 len cap b0 off l) (who : Int) (hwho : 0 ≤ who ∧ who < 256) :
    Calls Tryz.prog 7 #[g.val, .slice a0 len cap, .int .u8 who] W fun e W' => e = .returned (.bool true) ∧ Below W.heap.size W W' := by
  have haw := fun w hL => yawake_any w hL
  have hcr := confOf_right g.b0 g.b1 g.b2 g.b3 g.b4
  have hwt := fun w h (h8 : len ≤ 8) hl => waits_any (a0 := a0) (len := len) (cap := cap) (b0 := b0) (off := off) (l := l) w g h hl h8
  generalize confOf g.b0 g.b1 g.b2 g.b3 g.b4 = c at *
  have hA : Below W.heap.size W (W.alloc (.cells g.cells 27)) := (Below.refl _ _).alloc (Nat.le_refl _) _
  have hg : RowAt (W.alloc (.cells g.cells 27)) W.heap.size g.cells 27 := heap_alloc_new W _
  have hG := hgv.below hA
  have hL0 := hL.stable (hA.block 0 (hL.lt (by decide)))
  have hW0 : 0 < W.heap.size := hL.lt (by decide)
  go_enter Tryz.func7, Tryz.ntmps7
  go_upto_region 1 with (fail)
  generalize (W.alloc (.cells g.cells 27)) = w0 at *
  go_wp2_with fail
  refine (haw _ hL0).mono ?_
  rintro e w1 ⟨rfl, hb1⟩
  have hB1 := hA.trans (hb1.mono hA.size)
  have hg1 := RowAt.below hg hb1
  have hG1 := hG.below hb1
  have hl1 := hl.later hB1 (Nat.le_refl _)
  clear haw hb1 hA hg hG hL0 hgv
  by_cases h8 : len ≤ 8
  rotate_left
  · have h8i : (8 : Int) < (len : Int) := by omega
    have HB := Lib.hid hB1
    clear hwt hG1 hg1 hl1 hB1
    go_wp2_with fail
    go_ret
    exact ⟨rfl, HB.out⟩
  have h8i : ¬ (8 : Int) < (len : Int) := by omega
  go_upto_region 4 with (fail)
  refine wp_region_lit ?_
  refine grow hg1 27 (.tmp 3) Tryz.underlying27 ?_
  try simp only [Act.put, sA, sZ, sS]
  refine gl (.slice a0 len cap) ?_
  try simp only [Act.put, sA, sZ, sS]
  refine gcall 10 #[.tmp 26, .tmp 27] #[27, 25] #[g.val, .slice a0 len cap] (enters_of Tryz.func10 (by kernel_rfl) rfl) ?_
  refine (hwt _ hG1 h8 hl1).mono ?_
  rintro e w2 ⟨gb, pre, ss, LL, rfl, hw2, hp, hq, hgb, hb2, hz⟩
  refine ⟨_, rfl, ?_⟩
  have hB2 := hB1.trans (hb2.mono hB1.size)
  dsimp only
  refine gl (.tuple #[c.val, .slice (some ⟨gb, 0, none⟩) (Tk.cells pre ss).length (Tk.cells pre ss).length]) ?_
  refine gl c.val ?_
  refine gl (.slice (some ⟨gb, 0, none⟩) (Tk.cells pre ss).length (Tk.cells pre ss).length) ?_
  refine gbox (ob := .cells zero5 30) (Z := zero5) (cs := c.cells) (t := 30) 30 (.tmp 8) (.tmp 29) rfl ?_
  refine gl (.slice (some ⟨gb, 0, none⟩) (Tk.cells pre ss).length (Tk.cells pre ss).length) ?_
  try simp only [Act.put, sA, sZ, sS]
  rw [setRow_new]
  have M4 : LwAt W c w2.heap.size gb (Tk.cells pre ss) (w2.alloc (.cells c.cells 30)) := ⟨hB2.alloc hB2.size _, heap_alloc_new w2 _, RowAt.below hw2 ((Below.refl _ _).alloc (Nat.le_refl _) _), ⟨by have := hB1.size; omega, RowAt.lt hw2, hW0⟩⟩
  generalize (w2.alloc (.cells c.cells 30)) = w4 at *
  generalize w2.heap.size = cb at *
  have hlen : (Tk.cells pre ss).length = Tk.sc c (Tk.ns c) := by unfold Tk.cells Tk.sc; have := hp.pl; have := hp.sl; simp; omega
  obtain ⟨⟨wk0, wk1⟩, sl0, sl1⟩ := right_small hcr
  have hn6 : 6 ≤ (Tk.cells pre ss).length := by rw [hlen]; unfold Tk.sc Tk.ns; omega
  clear hwt hG1 hg1 hw2 hB1 hB2 hb2 hgb hl1 h8i
  have c0 : w4.cell? ⟨cb, 0, none⟩ = some (.int .i64 c.workers) := RowAt.cell M4.cr 0
  obtain ⟨i, hi, hilt⟩ : ∃ i : Nat, who.tmod c.workers = (i : Int) ∧ (i : Int) < c.workers := ⟨(who % c.workers).toNat, by rw [Int.tmod_eq_emod_of_nonneg hwho.1]; have := Int.emod_nonneg who (show c.workers ≠ 0 by omega); omega, by have := Int.emod_nonneg who (show c.workers ≠ 0 by omega); have := Int.emod_lt_of_pos who (show 0 < c.workers by omega); omega⟩
  have hne : ¬ c.workers = 0 := by omega
  have hnb : (c.workers == 0) = false := by simpa using hne
  have x0 := hwho.1
  have x1 := hwho.2
  obtain ⟨pre', ss', L', t', hrun, h17, hF⟩ := fin_run (k := i) hp hq hcr (by omega)
  have hok : Ty.TyOk (Ty.Ty.new c i) (Tk.cells pre ss).length := Ty.TyOk.new ⟨by omega, by omega⟩ (by unfold Tk.ns; omega) hilt (by rw [hlen]; rfl)
  have hme : Ty.MemOk c (Tk.cells pre ss) := memOk_of hp hq wk1
  have HF := Lib.hid hF
  have HP := Lib.hid (And.intro hp (And.intro hq hz))
  clear hF hz
  go_upto_region 6 with (fail)
  have hld := laid_any w4 c hcr gb 0 (Tk.cells pre ss).length (Tk.cells pre ss) hlen M4.ints
  refine wp_region_lit ?_
  refine grow M4.cr 30 (.tmp 8) Tryz.underlying30 ?_
  refine gl (.slice (some ⟨gb, 0, none⟩) (Tk.cells pre ss).length (Tk.cells pre ss).length) ?_
  try simp only [Act.put, sA, sZ, sS]
  refine gcall 11 #[.tmp 36, .tmp 37] #[30, 31] #[c.val, .slice (some ⟨gb, 0, none⟩) (Tk.cells pre ss).length (Tk.cells pre ss).length] (enters_of Tryz.func11 (by kernel_rfl) rfl) ?_
  refine hld.mono ?_
  rintro e w5 ⟨mb, wb, rfl, hM5, hm1, hm2, hb5⟩
  refine ⟨_, rfl, ?_⟩
  have M5 := M4.below hb5
  have hmb : cb + 1 ≤ mb := Nat.le_trans M4.lt hm1
  have hwb : cb + 1 ≤ wb := Nat.le_trans M4.lt hm2
  have hL5 : Laid w5 := hL.stable (M5.b.block 0 (hL.lt (by decide)))
  clear hld hm1 hm2 hb5 M4 c0 hne hnb x0 x1
  dsimp only
  have hal := yalone_any hM5 hL5 (by have := M5.ng; omega) (by have := M5.ng; omega) ⟨by omega, by rw [hlen]; unfold Tk.sc Tk.ns; omega⟩ c i hok hme
  rw [hrun] at hal
  clear hok hme hM5 hL5 hrun hp hq
  go_upto_region 9 with (fail)
  refine wp_region_lit ?_
  refine gl (.pointer (some ⟨mb, 0, none⟩)) ?_
  try simp only [Act.put, sA, sZ, sS]
  refine grow M5.cr 30 (.tmp 8) Tryz.underlying30 ?_
  try simp only [Act.put, sA, sZ, sS]
  refine gl (.int .i64 i) ?_
  try simp only [Act.put, sA, sZ, sS]
  refine gcall 12 #[.tmp 41, .tmp 42, .tmp 43] #[34, 30, 3] #[Value.pointer (some ⟨mb, 0, none⟩), c.val, .int .i64 i] (enters_of Tryz.func12 (by kernel_rfl) rfl) ?_
  refine hal.mono ?_
  rintro e w7 ⟨rfl, tc, hM7, ht7, hC7⟩
  refine ⟨_, rfl, ?_⟩
  have M7 := M5.keep (hC7.below (B := cb + 1) M5.lt (fun q e => by rcases e with rfl | rfl <;> assumption))
  rw [decide_eq_true h17]
  dsimp only at hM7 ⊢
  have hwo := words_any hM7
  have HM7 := Lib.hid M7
  clear hal hM7 ht7 hC7 M7 M5 h17
  go_wp2_with fail
  refine hwo.mono ?_
  rintro e w9 ⟨na, ncap, rfl, hown, hfp, hb9⟩
  have hl9 : (Tk.cells pre' ss').length = (Tk.cells pre ss).length := by have h1 := HF.out.p.pl; have h2 := HF.out.p.sl; rw [hlen]; unfold Tk.cells Tk.sc; simp; omega
  rw [hl9, hlen] at hown ⊢
  obtain ⟨ng, no, rfl, hng, hni, hnz⟩ := own_ints hown (by omega)
  have M9 := HM7.out.below hb9
  clear hwo hown hfp hb9 HM7 hnz
  have hsA := ref_slots_any w9 c hcr ng no ncap (Tk.cells pre' ss') (by rw [hl9, hlen]) hni (HF.out.bd HP.out.1 HP.out.2.1 hcr)
  rw [slotsOf_cells HF.out.p, hl9, hlen] at hsA
  go_upto_region 11 with (fail)
  refine wp_region_lit ?_
  refine grow M9.cr 30 (.tmp 8) Tryz.underlying30 ?_
  try simp only [Act.put, sA, sZ, sS]
  refine gl (.slice (some ⟨ng, no, none⟩) (Tk.sc c (Tk.ns c)) ncap) ?_
  try simp only [Act.put, sA, sZ, sS]
  refine gcall 14 #[.tmp 47, .tmp 48] #[30, 31] #[c.val, .slice (some ⟨ng, no, none⟩) (Tk.sc c (Tk.ns c)) ncap] (enters_of Tryz.func14 (by kernel_rfl) rfl) ?_
  refine hsA.mono ?_
  rintro e w10 ⟨sa, scp, rfl, hsi, hb10⟩
  refine ⟨_, rfl, ?_⟩
  have M10 := M9.below hb10
  have hni10 := hni.keep hb10 hng
  have hsB := ref_slots_any w10 c hcr gb 0 (Tk.sc c (Tk.ns c)) (Tk.cells pre ss) hlen M10.ints (words_bd HP.out.1 (HP.out.2.1.bd wk1))
  rw [slotsOf_cells HP.out.1, hlen] at hsB
  clear hsA M9 hni
  dsimp only
  go_upto_region 12 with (fail)
  refine wp_region_lit ?_
  refine grow M10.cr 30 (.tmp 8) Tryz.underlying30 ?_
  try simp only [Act.put, sA, sZ, sS]
  refine gl (.slice (some ⟨gb, 0, none⟩) (Tk.sc c (Tk.ns c)) (Tk.sc c (Tk.ns c))) ?_
  try simp only [Act.put, sA, sZ, sS]
  refine gcall 14 #[.tmp 50, .tmp 51] #[30, 31] #[c.val, .slice (some ⟨gb, 0, none⟩) (Tk.sc c (Tk.ns c)) (Tk.sc c (Tk.ns c))] (enters_of Tryz.func14 (by kernel_rfl) rfl) ?_
  refine hsB.mono ?_
  rintro e w11 ⟨oa, ocp, rfl, hoi, hb11⟩
  refine ⟨_, rfl, ?_⟩
  have M11 := M10.below hb11
  have hni11 := hni10.keep hb11 (Nat.lt_of_lt_of_le hng hb10.size)
  have hsi11 := hsi.below hb11
  have hsl' : ss'.length = Tk.ns c := HF.out.p.sl
  have hsl : ss.length = Tk.ns c := HP.out.1.sl
  obtain ⟨pre1, pre2, TT⟩ := HF.out.t
  have hgone := fun (i : Nat) (s s' : S) (h : ss[i]? = some s) (h' : ss'[i]? = some s') => (Ty.gone_iff TT h h').2
  have hep := Ty.epochs TT HP.out.1.pl (show i < c.workers.toNat by omega)
  have hx2 : (Tk.cells pre' ss')[2]? = some (Tk.rd pre 2 + Ty.goneN ss ss') := by rw [rd_here (by rw [hl9]; omega), Tk.rd_pre HF.out.p (by omega)]; exact congrArg some hep
  have hy2 : (Tk.cells pre ss)[2]? = some (Tk.rd pre 2) := by rw [rd_here (by omega), Tk.rd_pre HP.out.1 (by omega)]; rfl
  have he2 : 0 ≤ Tk.rd pre 2 ∧ Tk.rd pre 2 ≤ 255 := HP.out.2.1.ep
  have hgl : goneTo ss ss' (Tk.ns c) = Ty.goneN ss ss' := goneTo_all (by omega) (by omega)
  have hgs := fun (q : Nat) (s s' : S) (h : ss[q]? = some s) (h' : ss'[q]? = some s') => goneTo_step h h'
  have hgb := goneTo_bd ss ss'
  have hg0 : goneTo ss ss' 0 = 0 := by simp [goneTo, Ty.goneN]
  have hns : Tk.ns c ≤ 16 := by unfold Tk.ns; omega
  generalize Tk.rd pre 2 = x2 at *
  generalize hGN : Ty.goneN ss ss' = gn at *
  have e1 := hni11 2 _ hx2
  have e2 := M11.wr.get hy2
  have hn6' : 6 ≤ Tk.sc c (Tk.ns c) := by omega
  have HG := Lib.hid (And.intro hgone (And.intro hgs (And.intro hgb hgl)))
  have HI := Lib.hid (And.intro hsi11 hoi)
  have HB11 := Lib.hid M11.b
  have HL := Lib.hid (And.intro hsl' hsl)
  rw [hsl', hsl]
  clear hsB M10 hni10 hsi hoi hb10 hb11 hni11 hsi11 hgone hep hx2 hy2 hgl hgs hgb TT hsl hsl' hng M11 hGN HF HP
  dsimp only
  go_wp2_with fail
  go_loopw [16, 17] (fun n i wr => ∃ q : Nat, q ≤ Tk.ns c ∧ n = .int .i64 (goneTo ss ss' q) ∧ i = .int .i64 q ∧ RowKit.Hid (Below w11.heap.size w11 wr)) (fun _ i _ => Tk.ns c - (intOf i).toNat)
  case atStart => exact ⟨0, by omega, by rw [hg0], rfl, Below.refl _ _⟩
  case round =>
    obtain ⟨q, hq, rfl, rfl, hB⟩ := hrel
    by_cases hlt : q < Tk.ns c
    · obtain ⟨s, hs⟩ : ∃ s, ss[q]? = some s := ⟨_, List.getElem?_eq_getElem (by rw [HL.out.2]; exact hlt)⟩
      obtain ⟨s', hs'⟩ : ∃ s, ss'[q]? = some s := ⟨_, List.getElem?_eq_getElem (by rw [HL.out.1]; exact hlt)⟩
      obtain ⟨sg, so, rfl, hcs⟩ := HI.out.1 q s' hs'
      obtain ⟨og, oo, rfl, hco⟩ := HI.out.2 q s hs
      have g0 : wr.cell? ⟨sg, so + q * 9, none⟩ = some (.int .i64 s'.state) := Field.bkeep hB.out (hcs 0 _ rfl)
      have g6 : wr.cell? ⟨sg, so + q * 9 + 6, none⟩ = some (.int .i64 s.gen) := Field.bkeep hB.out ((hcs 6 _ rfl).trans (by show some (Value.int .i64 s'.gen) = _; rw [HG.out.1 q s s' hs hs']))
      have o0 : wr.cell? ⟨og, oo + q * 9, none⟩ = some (.int .i64 s.state) := Field.bkeep hB.out (hco 0 _ rfl)
      have o6 : wr.cell? ⟨og, oo + q * 9 + 6, none⟩ = some (.int .i64 s.gen) := Field.bkeep hB.out (hco 6 _ rfl)
      have k0 : (0 : Int) ≤ (q : Int) := by omega
      have k1 : (q : Int) < (Tk.ns c : Int) := by omega
      have kq : q ≤ 16 := by omega
      have hst := HG.out.2.1 q s s' hs hs'
      have hbd := HG.out.2.2.1 q
      have hw1 : wrap64 (goneTo ss ss' q + 1) = goneTo ss ss' q + 1 := wrap_id (by omega)
      unfold Ty.gone at hst
      generalize goneTo ss ss' q = n at *
      generalize s.state = st at *
      generalize s'.state = st' at *
      generalize s.gen = gn' at *
      have hk : ∀ n', goneTo ss ss' (q + 1) = n' → RowKit.Hid (goneTo ss ss' (q + 1) = n') := fun n' h => h
      clear hcs hco hs hs' hbd hlt
      have hcase : (st ≠ 2 ∧ st ≠ 3) ∨ ((st = 2 ∨ st = 3) ∧ (st' = 2 ∨ st' = 3 ∨ st' = 4)) ∨ ((st = 2 ∨ st = 3) ∧ st' ≠ 2 ∧ st' ≠ 3 ∧ st' ≠ 4) := by omega
      rcases hcase with ⟨a1, a2⟩ | ⟨a1, a2⟩ | ⟨a1, a2, a3, a4⟩
      · have b1 : (st == 2) = false := by simpa using a1
        have b2 : (st == 3) = false := by simpa using a2
        rw [b1, b2] at hst
        simp only [Bool.or_self, Bool.false_and, Bool.false_eq_true, if_false, Int.add_zero] at hst
        have HK := hk _ hst
        clear hst hk
        go_wp2_with fail
        go_region
        go_wp2_with fail
        go_roundw
        case rel => exact ⟨q + 1, by omega, by rw [HK.out], by go_num, Lib.hid (hB.out.trans ((Below.refl _ _).drew.mono hB.out.size))⟩
        case measure => simp [intOf]; omega
      · have b1 : (st == 2 || st == 3) = true := by rcases a1 with rfl | rfl <;> rfl
        have b2 : (st' != 2 && (st' != 3 && st' != 4)) = false := by rcases a2 with rfl | rfl | rfl <;> rfl
        rw [b1, b2] at hst
        simp only [Bool.and_false, Bool.false_eq_true, if_false, Int.add_zero] at hst
        have HK := hk _ hst
        clear hst hk b1 b2
        rcases a1 with rfl | rfl
        all_goals
          rcases a2 with rfl | rfl | rfl
          all_goals
            go_wp2_with fail
            go_region
            go_wp2_with fail
            go_roundw
            case rel => exact ⟨q + 1, by omega, by rw [HK.out], by go_num, Lib.hid (hB.out.trans ((Below.refl _ _).drew.mono hB.out.size))⟩
            case measure => simp [intOf]; omega
      · have b1 : (st == 2 || st == 3) = true := by rcases a1 with rfl | rfl <;> rfl
        have c2 : (st' == 2) = false := by simpa using a2
        have c3 : (st' == 3) = false := by simpa using a3
        have c4 : (st' == 4) = false := by simpa using a4
        have d2 : (st' != 2) = true := by simpa using a2
        have d3 : (st' != 3) = true := by simpa using a3
        have d4 : (st' != 4) = true := by simpa using a4
        rw [b1, d2, d3, d4] at hst
        simp only [Bool.and_self, if_true] at hst
        have HK := hk _ hst
        clear hst hk b1
        rcases a1 with rfl | rfl
        all_goals
          go_wp2_with fail
          go_region
          go_wp2_with fail
          go_roundw
          case rel => exact ⟨q + 1, by omega, by rw [HK.out, hw1], by go_num, Lib.hid (hB.out.trans ((Below.refl _ _).drew.mono hB.out.size))⟩
          case measure => simp [intOf]; omega
    · have hqe : q = Tk.ns c := by omega
      have k1 : ¬ (q : Int) < (Tk.ns c : Int) := by omega
      subst hqe
      have hgl := HG.out.2.2.2
      have hbd := HG.out.2.2.1 (Tk.ns c)
      have hw1 : wrap64 (x2 + goneTo ss ss' (Tk.ns c)) = x2 + gn := by rw [hgl]; exact wrap_id (by rw [hgl] at hbd; omega)
      have f1 := Field.bkeep hB.out e1
      have f2 := Field.bkeep hB.out e2
      have k2 : (2 : Int) < (Tk.sc c (Tk.ns c) : Int) := by omega
      generalize goneTo ss ss' (Tk.ns c) = n at *
      clear hgl hbd e1 e2
      go_wp2_with fail
      go_region
      go_wp2_with fail
      go_ret
      exact ⟨Base.ret_bool (by simp), HB11.out.trans ((hB.out.trans ((Below.refl _ _).drew.mono hB.out.size)).mono HB11.out.size)⟩
end Go.Proofs.YteadpgiffpfmnaaGreatDoor.Mod

namespace Go.Proofs.YteadpgiffpfmnaaGreatDoor.tidyEpochs
open Go.ChangeShapes Go.WideShapes Go.ChangeAt Go.RowKit
set_option linter.unusedVariables false
set_option linter.unusedSimpArgs false

theorem own : ownKnob Tryz.prog.godebug = none := by kernel_rfl
theorem laidOut : laidOutB Tryz.prog = true := by kernel_rfl

set_option maxRecDepth 100000 in
theorem lifted (os : Os) (started : os.Started) (H : Type) (enc : TypeId × Value → H) :
    ReturnsInHanded {} Tryz.checked os 7 .any (fun w args => (Rows.tidyEpochsSpec.pre enc Tryz.prog Tryz.f7 [] false w args ∧ laidMetH Tryz.prog Mod.lst w) ∧ sizedMet enc Tryz.prog Tryz.f7 (OpenSpec.ofChange Rows.tidyEpochsSpec) false w args) (Rows.tidyEpochsSpec.post enc Tryz.prog Tryz.f7 false true false false) := by
  refine returnsInHanded_of_change_and (C := Tryz.checked) (X := fun w _ => laidMetH Tryz.prog Mod.lst w) (fun _ _ _ hh h => h.of_heap hh) own started (by kernel_rfl) Tryz.func7
    (ChangeSpec.witness_shaped (enc := enc) (C := Tryz.checked) (os := os) (X := fun w _ => laidMetH Tryz.prog Mod.lst w) false (World.doorLaid Tryz.prog 23 os) #[.agg #[.int .u8 0, .int .u8 0, .int .u8 0, .int .u8 0, .int .u8 0, .slice none 0 0, .slice none 0 0, .slice none 0 0], .slice none 0 0, .int .u8 0] 8 rfl (World.shaped_of_RefB (by kernel_rfl) (by kernel_rfl)) (by kernel_rfl) (by kernel_rfl) (by kernel_rfl) (Mod.door_met os _)) ?_
  intro W base args ds gs before hval0 hW _ _ hL _
  have hval : ∀ (j : Nat) t v, Tryz.f7.params[j]? = some t → args[j]? = some v → Value.okWide Tryz.prog W .any base t v := hval0
  have hW' := hW
  obtain ⟨p, q, hA0, hV, rfl, hfz, hnd⟩ := hW
  have hA : DataW.TrodAll enc Tryz.prog W 0 (fun _ => true) true Tryz.f7.params.toList args.toList ds p := hA0
  rw [Tryz.params7] at hA hval
  obtain ⟨v0, vs0, d0, ds0, p0, q0, hargs, rfl, rfl, h0, r0⟩ := trodAll_cons hA
  obtain ⟨v1, vs1, d1, ds1, p1, q1, rfl, rfl, rfl, h1, r1⟩ := trodAll_cons r0
  obtain ⟨v2, vs2, d2, ds2, p2, q2, rfl, rfl, rfl, h2, r2⟩ := trodAll_cons r1
  obtain ⟨rfl, rfl, rfl⟩ := trodAll_nil r2
  obtain rfl : args = #[v0, v1, v2] := by cases args; simp_all
  obtain ⟨rfl, rfl⟩ := trodVars_none hV
  have k0 := h0
  have lt0 : ∀ x ∈ p0, x.block < W.heap.size := by obtain ⟨m, hm⟩ := k0; exact DataW.trod_lt m _ _ _ hm
  obtain ⟨g0, rfl, w0⟩ := Mod.open_gv (hval 0 27 v0 rfl rfl) h0
  have k1 := h1
  have lt1 : ∀ x ∈ p1, x.block < W.heap.size := by obtain ⟨m, hm⟩ := k1; exact DataW.trod_lt m _ _ _ hm
  obtain ⟨a1, len1, cap1, rfl⟩ := okWide_slice Tryz.underlying25 (hval 1 25 v1 rfl rfl)
  obtain ⟨b1, off1, l1, w1⟩ : ∃ b off l, Base.IntsAt .u8 W a1 len1 cap1 b off l := by
    obtain ⟨fuel, hf⟩ := h1
    rcases open_ints Tryz.underlying25 Tryz.underlying5 (by kernel_rfl) hf with ⟨hcs, _⟩ | ⟨x, l, c, zs, hcs, _, hl, hm, hz, _, hcell, hwz⟩
    · simp [Value.cells] at hcs
      obtain ⟨rfl, rfl, rfl⟩ := hcs
      exact ⟨0, 0, [], Base.intsAt_nil _ _⟩
    · simp [Value.cells] at hcs
      obtain ⟨rfl, rfl, rfl⟩ := hcs
      obtain ⟨b, off, h⟩ := Base.intsAt_some hl hm (by simpa using hz) hcell hwz
      exact ⟨b, off, _, h⟩
  obtain ⟨a2, rfl, rfl, rfl, w2⟩ := open_int Tryz.underlying5 (hval 2 5 v2 rfl rfl) h2
  have hLd := Mod.of_laid hL
  clear hA0 hval0
  refine (Mod.tidyEpochs_walk W hLd g0 w0 _ _ _ _ _ _ w1 _ (Mod.u8_bd w2)).mono fun e W' ⟨he, bel⟩ => ?_
  subst he
  exact ⟨_, rfl, _, _, _, [], _, [], hW', trodAll_mk1 (shut_bool Tryz.underlying4 _), (trodAll_cons_mk (Below.trod laidOut (by kernel_rfl) (of_decide_eq_true (by kernel_rfl)) k0 bel lt0) (trodAll_cons_mk (Below.trod laidOut (by kernel_rfl) (of_decide_eq_true (by kernel_rfl)) k1 bel lt1) (trodAll_cons_mk (shut_int Tryz.underlying5 w2) trodAll_mk0))), rfl, bel.frame _, fun h => by cases h⟩

theorem over : Rows.tidyEpochsRow.holds Tryz.pinned (OpenSpec.ofChange Rows.tidyEpochsSpec) :=
  OpenClaim.holds_of_wide 7 Tryz.f7 rfl rfl rfl rfl rfl rfl rfl ⟨rfl, rfl, rfl, rfl, rfl⟩ rfl rfl rfl rfl rfl (by kernel_rfl) Tryz.func7 (by kernel_rfl)
    (of_decide_eq_true (by kernel_rfl)) (by unfold Func.isWrapper; first | (rw [if_pos (by decide +kernel)]; kernel_rfl) | (rw [if_neg (by decide +kernel)]; exact ⟨rfl, rfl⟩))
    (fun os started H enc _ => lifted os started H enc)

theorem proved : Rows.TidyEpochsCardSaid :=
  Claim7.holds_tied_plain_at .later [] [.data] true (true, "cd55222638d17cc50f25ad6c8bf105d0d96fe0f485c41963596c810bfd790a53") false
    over (fun _ h => by cases h) (by kernel_rfl) (fun _ h => by cases h) tidyEpochs_row_tie rfl ⟨rfl, rfl⟩ (by kernel_rfl) rfl
    (fun f fn hf hfn => by
      obtain rfl : f = 7 := Option.some.inj ((show Tryz.prog.funcNamed "coachhouse/coachhouselaw20.TidyEpochs" = some 7 by kernel_rfl).symm.trans hf) |>.symm
      obtain rfl : fn = Tryz.f7 := (Option.some.inj (Tryz.func7.symm.trans hfn)).symm
      exact ⟨by kernel_rfl, fun j t ht => by
        rw [Tryz.params7] at ht
        have hm : t ∈ [27, 25, 5] := by simpa using Array.mem_of_getElem? ht
        have hall : ([27, 25, 5].all fun u => !Tryz.prog.wantsStandIn u) = true := by kernel_rfl
        exact (show Tryz.prog.wantsStandIn t = false by simpa using List.all_eq_true.1 hall t hm)⟩)
    (by kernel_rfl)
#print axioms proved
end Go.Proofs.YteadpgiffpfmnaaGreatDoor.tidyEpochs

