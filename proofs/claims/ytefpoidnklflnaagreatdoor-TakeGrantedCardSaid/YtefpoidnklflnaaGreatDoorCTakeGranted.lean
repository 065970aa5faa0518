/- The statement TakeGranted holds, for every input: the call answers true and leaves what it was handed as it was, where the package's table slot.fields is laid as the program's text lays it (the tied card). -/
import Derived.Test.YtefpoidnklflnaaGreatDoorP16
import Derived.Test.YtefpoidnklflnaaGreatDoorP1
import Derived.Test.YtefpoidnklflnaaGreatDoorP10
import Derived.Test.YtefpoidnklflnaaGreatDoorP15
import Derived.Test.YtefpoidnklflnaaGreatDoorP2
import Derived.Test.YtefpoidnklflnaaGreatDoorRows
import Derived.Test.YtefpoidnklflnaaGreatDoorTie
import Derived.Test.YtefpoidnklflnaaGreatDoorCards
import Derived.WalkKit
import Derived.ProofKit
import Derived.OpenShut
import Derived.ShutString
import Derived.ChangeOld
import Derived.Below
import Derived.LaidMore
import Derived.SevenTiedAt
import Derived.Deep.CutRange

namespace Go.Proofs.YtefpoidnklflnaaGreatDoor.Mod
set_option linter.unusedVariables false
set_option linter.unusedSimpArgs false
open Go.RowKit Hp Slot RowL Life Cl

set_option maxRecDepth 100000 in
set_option maxHeartbeats 4000000 in
theorem takeGranted_walk (W : World) (hL : Laid W) (g : Gv) (hgv : GvAt W g) (who : Int) (hwho : 0 ≤ who ∧ who < 256) (at' : Int) (hat : 0 ≤ at' ∧ at' < 256) (good : Bool) :
    Calls Tryz.prog 7 #[g.val, .int .u8 who, .int .u8 at', .bool good] W fun e W' => e = .returned (.bool true) ∧ Below W.heap.size W W' := by
  have haw := fun w hL => awake_any w hL
  have hmd := fun w h => made_any w g h
  have hcr := Cl.confOf_right g.b0 g.b1 g.b2 g.b3 g.b4
  generalize Cl.confOf g.b0 g.b1 g.b2 g.b3 g.b4 = c at *
  have hA : Below W.heap.size W (W.alloc (.cells g.cells 50)) := (Below.refl _ _).alloc (Nat.le_refl _) _
  have hg : RowAt (W.alloc (.cells g.cells 50)) W.heap.size g.cells 50 := heap_alloc_new W _
  have hG := hgv.below hA
  have hL0 := hL.stable (hA.block 0 (hL.lt (by decide)))
  have hW0 : 0 < W.heap.size := hL.lt (by decide)
  go_enter Tryz.func7, Tryz.ntmps7
  go_upto_region 1 with (fail)
  generalize (W.alloc (.cells g.cells 50)) = w0 at *
  go_wp2_with fail
  refine (haw _ hL0).mono ?_
  rintro e w1 ⟨rfl, hb1⟩
  have hB1 := hA.trans (hb1.mono hA.size)
  have hg1 := RowAt.below hg hb1
  have hG1 := hG.below hb1
  clear haw hb1 hA hg hG hL0 hgv
  go_upto_region 2 with (fail)
  refine wp_region_lit ?_
  refine grow hg1 50 (.tmp 4) Tryz.underlying50 ?_
  try simp only [Act.put, sA, sZ, sS]
  refine gcall 20 #[.tmp 26] #[50] #[g.val] (enters_of Tryz.func20 (by kernel_rfl) rfl) ?_
  refine (hmd _ hG1).mono ?_
  rintro e w2 ⟨gb, pre, ss, rfl, hw2, hp, hq, hgb, hb2⟩
  refine ⟨_, rfl, ?_⟩
  have hB2 := hB1.trans (hb2.mono hB1.size)
  dsimp only
  refine gl (.tuple #[c.val, .slice (some ⟨gb, 0, none⟩) (Tk.cells pre ss).length (Tk.cells pre ss).length]) ?_
  refine gl c.val ?_
  refine gl (.slice (some ⟨gb, 0, none⟩) (Tk.cells pre ss).length (Tk.cells pre ss).length) ?_
  refine gbox (ob := .cells zero5 25) (Z := zero5) (cs := c.cells) (t := 25) 25 (.tmp 10) (.tmp 28) rfl ?_
  refine gl (.slice (some ⟨gb, 0, none⟩) (Tk.cells pre ss).length (Tk.cells pre ss).length) ?_
  try simp only [Act.put, sA, sZ, sS]
  rw [setRow_new]
  have M : LwAt W c w2.heap.size gb (Tk.cells pre ss) (w2.alloc (.cells c.cells 25)) := ⟨hB2.alloc hB2.size _, heap_alloc_new w2 _, RowAt.below hw2 ((Below.refl _ _).alloc (Nat.le_refl _) _), ⟨by have := hB1.size; omega, RowAt.lt hw2, hW0⟩⟩
  generalize (w2.alloc (.cells c.cells 25)) = w3 at *
  generalize w2.heap.size = cb at *
  have hlen : (Tk.cells pre ss).length = Tk.sc c (Tk.ns c) := by unfold Tk.cells Tk.sc; have := hp.pl; have := hp.sl; simp; omega
  obtain ⟨⟨wk0, wk1⟩, sl0, sl1⟩ := right_small hcr
  have hn6 : 6 ≤ (Tk.cells pre ss).length := by rw [hlen]; unfold Tk.sc Tk.ns; omega
  clear hmd hG1 hg1 hw2 hB1 hB2 hb2 hgb
  obtain ⟨v0, q0⟩ : ∃ v, w3.cell? ⟨gb, 0, none⟩ = some (.int .i64 v) := ⟨_, M.wr.get (List.getElem?_eq_getElem (by omega))⟩
  have z0 : w3.frozen? ⟨gb, 0, none⟩ = false := RowAt.frozen M.wr 0
  have hn0 : (0 : Int) < (Tk.cells pre ss).length := by omega
  have M4 := M.put 0 0
  rw [Tk.set_pre hp (i := 0) (by omega)] at M4
  have hp4 := hp.setPre 0 0
  have hq4 := hq.set0 (x := 0) (by omega)
  have h04 : (pre.set 0 0).getD 0 0 = 0 := by rw [getD_set]; split; rfl; rename_i hh; exact absurd ⟨rfl, by have := hp.pl; omega⟩ hh
  have hl4 : (Tk.cells (pre.set 0 0) ss).length = (Tk.cells pre ss).length := by unfold Tk.cells; simp
  go_upto_region 4 with (fail)
  generalize (w3.setCell ⟨gb, 0, none⟩ (.int .i64 0)) = w4 at *
  rw [← hl4] at hlen hn6 ⊢
  generalize pre.set 0 0 = pre4 at *
  clear q0 z0 M hp hq hl4 hn0
  have c0 : w4.cell? ⟨cb, 0, none⟩ = some (.int .i64 c.workers) := RowAt.cell M4.cr 0
  obtain ⟨i, hi, hilt⟩ : ∃ i : Nat, who.tmod c.workers = (i : Int) ∧ (i : Int) < c.workers := ⟨(who % c.workers).toNat, by rw [Int.tmod_eq_emod_of_nonneg hwho.1]; have := Int.emod_nonneg who (show c.workers ≠ 0 by omega); omega, by have := Int.emod_nonneg who (show c.workers ≠ 0 by omega); have := Int.emod_lt_of_pos who (show 0 < c.workers by omega); omega⟩
  have hnei : ¬ c.workers = 0 := by omega
  have hnbi : (c.workers == 0) = false := by simpa using hnei
  have x0i := hwho.1
  have x1i := hwho.2
  go_upto_region 5 with (fail)
  have c1 : w4.cell? ⟨cb, 1, none⟩ = some (.int .i64 c.slots) := RowAt.cell M4.cr 1
  obtain ⟨k, hk, hklt⟩ : ∃ k : Nat, at'.tmod c.slots = (k : Int) ∧ (k : Int) < c.slots := ⟨(at' % c.slots).toNat, by rw [Int.tmod_eq_emod_of_nonneg hat.1]; have := Int.emod_nonneg at' (show c.slots ≠ 0 by omega); omega, by have := Int.emod_nonneg at' (show c.slots ≠ 0 by omega); have := Int.emod_lt_of_pos at' (show 0 < c.slots by omega); omega⟩
  have hnek : ¬ c.slots = 0 := by omega
  have hnbk : (c.slots == 0) = false := by simpa using hnek
  have x0k := hat.1
  have x1k := hat.2
  go_upto_region 6 with (fail)
  clear c0 c1
  have hld := laid_any w4 c hcr gb 0 (Tk.cells pre4 ss).length (Tk.cells pre4 ss) hlen M4.ints
  go_upto_region 6 with (fail)
  refine wp_region_lit ?_
  refine grow M4.cr 25 (.tmp 10) Tryz.underlying25 ?_
  refine gl (.slice (some ⟨gb, 0, none⟩) (Tk.cells pre4 ss).length (Tk.cells pre4 ss).length) ?_
  try simp only [Act.put, sA, sZ, sS]
  refine gcall 13 #[.tmp 42, .tmp 43] #[25, 26] #[c.val, .slice (some ⟨gb, 0, none⟩) (Tk.cells pre4 ss).length (Tk.cells pre4 ss).length] (enters_of Tryz.func13 (by kernel_rfl) rfl) ?_
  refine hld.mono ?_
  rintro e w5 ⟨mb, wb, rfl, hM5, hm1, hm2, hb5⟩
  refine ⟨_, rfl, ?_⟩
  have M5 := M4.below hb5
  have hmb : cb + 1 ≤ mb := Nat.le_trans M4.lt hm1
  have hwb : cb + 1 ≤ wb := Nat.le_trans M4.lt hm2
  have hL5 : Laid w5 := hL.stable (M5.b.block 0 (hL.lt (by decide)))
  clear hld hm1 hm2 hb5 M4
  dsimp only
  go_upto_region 7 with (fail)
  refine wp_region_lit ?_
  refine grow M5.cr 25 (.tmp 10) Tryz.underlying25 ?_
  refine gl (.int .i64 i) ?_
  refine gl (.int .i64 k) ?_
  try simp only [Act.put, sA, sZ, sS]
  refine gcall 26 #[.tmp 45, .tmp 46, .tmp 47] #[25, 3, 3] #[c.val, .int .i64 i, .int .i64 k] (enters_of Tryz.func26 (by kernel_rfl) rfl) ?_
  refine (tgranted_any w5 c i k).mono ?_
  rintro e w6 ⟨tb, rfl, hT6, ht6, hb6⟩
  refine ⟨_, rfl, ?_⟩
  have M6 := M5.below hb6
  have htb : cb + 1 ≤ tb := Nat.le_trans M5.lt ht6
  have h6 := TkAt.fresh hM5 hL5 (by have := M5.ng; omega) (by have := M5.ng; omega) hb6 ht6 hT6 rfl rfl
  have hH6 := hi_new htb
  clear hT6 ht6 hb6 hM5 hL5 M5
  dsimp only
  have hkn : k < Tk.ns c := by unfold Tk.ns; omega
  have hok : Tk.TkOk (Tk.Tk.granted c i k) (Tk.cells pre4 ss) := granted_ok hcr (by omega) hlen hkn
  obtain ⟨s, hs⟩ : ∃ s, ss[k]? = some s := ⟨_, List.getElem?_eq_getElem (by rw [hp4.sl]; exact hkn)⟩
  obtain ⟨n, t', s', hrun, hn4, hsr, hE⟩ := Tk.granted_all hp4 h04 hs (w := i) (by omega) good
  have hal := alone_any h6 hok ⟨by omega, by rw [hlen]; unfold Tk.sc Tk.ns; omega⟩ good
  have hok2 := Tk.alone_ok good 200 0 hok
  rw [hrun] at hal hok2
  have HE := Lib.hid hE
  have HN := Lib.hid hn4
  clear hrun hE h6 hok hn4
  go_wp2_with fail
  refine hal.mono ?_
  rintro e w7 ⟨rfl, lo, ro, tc, h7, ht7, r7⟩
  have r7' : TR w6 tb mb wb none none w7 lo ro := r7
  have M7 := M6.keep (r7'.hiBelow hH6 hmb hwb M6.lt)
  have hH7 := r7'.hi hH6 M6.lt
  have h7 : TkAt w7 tb mb wb lo ro t' (Tk.cells pre4 (ss.set k s')) tc := h7
  have han := answer_any h7
  have H7 := Lib.hid h7
  have M7 := Lib.hid M7
  clear hal r7 r7' h7 hH6 M6
  go_wp2_with fail
  refine han.mono ?_
  rintro e w8 ⟨rfl, hb8⟩
  have M8 := M7.out.below hb8
  have h8 := H7.out.below hb8
  have hwo := words_any h8.mem
  have M8 := Lib.hid M8
  clear han hb8 M7 H7 hH7 h8
  go_wp2_with fail
  refine hwo.mono ?_
  rintro e w9 ⟨na, ncap, rfl, hown, hfp, hb9⟩
  have hl9 : (Tk.cells pre4 (ss.set k s')).length = (Tk.cells pre4 ss).length := by unfold Tk.cells; simp
  rw [hl9, hlen] at hown ⊢
  obtain ⟨ng, no, rfl, hng, hni, hnz⟩ := own_ints hown (by omega)
  have hnb : cb + 1 ≤ ng := Nat.le_trans M8.out.lt (hfp ng ((fp_some _ _ _ _).2 rfl))
  have M9 := M8.out.below hb9
  clear hwo hown hfp hb9 M8
  have hsls := ref_slots_any w9 c hcr gb 0 (Tk.sc c (Tk.ns c)) (Tk.cells pre4 ss) hlen M9.ints (cells_bd hp4 hq4)
  rw [slotsOf_cells hp4, hlen] at hsls
  dsimp only
  go_upto_region 13 with (fail)
  refine wp_region_lit ?_
  refine grow M9.cr 25 (.tmp 10) Tryz.underlying25 ?_
  refine gl (.slice (some ⟨gb, 0, none⟩) (Tk.sc c (Tk.ns c)) (Tk.sc c (Tk.ns c))) ?_
  try simp only [Act.put, sA, sZ, sS]
  refine gcall 21 #[.tmp 67, .tmp 68] #[25, 26] #[c.val, .slice (some ⟨gb, 0, none⟩) (Tk.sc c (Tk.ns c)) (Tk.sc c (Tk.ns c))] (enters_of Tryz.func21 (by kernel_rfl) rfl) ?_
  refine hsls.mono ?_
  rintro e w10 ⟨sa, scp, rfl, hsi, hb10⟩
  refine ⟨_, rfl, ?_⟩
  have M10 := M9.below hb10
  have hni10 := hni.keep hb10 hng
  have hnz10 : ∀ j, j < Tk.sc c (Tk.ns c) → w10.frozen? ⟨ng, no + j, none⟩ = false := fun j hj => (World.frozen?_of_block (w := w9) (hb10.block ng hng)).trans (hnz j hj)
  have hng10 : ng < w10.heap.size := Nat.lt_of_lt_of_le hng hb10.size
  obtain ⟨sg, so, rfl, hcs⟩ := hsi k s hs
  have hsl : ss.length = Tk.ns c := hp4.sl
  rw [hsl]
  have hE := HE.out
  have hsd := dec_word hsr
  obtain ⟨j, hj⟩ : ∃ j, j = Tk.sc c k := ⟨_, rfl⟩
  have hjl : j < Tk.sc c (Tk.ns c) := by rw [hj]; unfold Tk.sc; omega
  have hslot := fun w => ref_slot_any w c k ⟨by omega, wk1⟩ ⟨by unfold Tk.ns at hkn; omega, by omega⟩
  have hjc : 3 + 2 * c.workers + (k : Int) = (j : Int) := by rw [hj]; unfold Tk.sc; omega
  simp only [hjc] at hslot
  have hnow : (Tk.cells pre4 (ss.set k s'))[j]? = some s'.word := by rw [rd_here (by rw [hl9, hlen]; exact hjl), hj, Tk.rd_slot (hp4.set hsr) (List.getElem?_set_self (by rw [hsl]; exact hkn))]
  have hold : (Tk.cells pre4 ss)[j]? = some s.word := by rw [rd_here (by rw [hlen]; exact hjl), hj, Tk.rd_slot hp4 hs]
  have hback : (Tk.cells pre4 (ss.set k s')).set j s.word = Tk.cells pre4 ss := by rw [hj, Tk.set_slot (hp4.set hsr) s, List.set_set, Tk.set_self hs]
  have hdc := fun w => ref_decode_any w s'.word (by have := word_bd hsr; omega)
  rw [hsd] at hdc
  simp only [Option.getD_some, Option.isSome_some] at hdc
  have HBK := Lib.hid hback
  have HNW := Lib.hid hnow
  have HOD := Lib.hid hold
  have HNI := Lib.hid hni10
  have HM := Lib.hid M10
  have HE := Lib.hid hE
  have HJ := Lib.hid hj
  have HLN := Lib.hid hlen
  clear hsls hsi hb10 hni hnz M9 hs hE hsd hjc hback hnow hold hni10 M10 hj hp4 hq4 h04 hok2 hsl hsr
  obtain ⟨st, ow, sm, br, ma, us, ge, ep, ve⟩ := s
  have x0 := hcs 0 _ rfl
  have x1 := hcs 1 _ rfl
  have x2 := hcs 2 _ rfl
  have x3 := hcs 3 _ rfl
  have x4 := hcs 4 _ rfl
  have x5 := hcs 5 _ rfl
  have x6 := hcs 6 _ rfl
  have x7 := hcs 7 _ rfl
  have x8 := hcs 8 _ rfl
  simp only [S.cells, Nat.add_zero] at x0 x1 x2 x3 x4 x5 x6 x7 x8
  have k0 : (0 : Int) ≤ (k : Int) := by omega
  have k1 : (k : Int) < (Tk.ns c : Int) := by omega
  clear hcs
  dsimp only
  go_upto_region 14 with (fail)
  have hbo : Below w10.heap.size w10 (w10.alloc (.cells #[.int .i64 st, .int .i64 ow, .int .i64 sm, .bool br, .bool ma, .int .i64 us, .int .i64 ge, .int .i64 ep, .int .i64 ve] 30)) := (Below.refl _ _).alloc (Nat.le_refl _) _
  have hro : RowAt (w10.alloc (.cells #[.int .i64 st, .int .i64 ow, .int .i64 sm, .bool br, .bool ma, .int .i64 us, .int .i64 ge, .int .i64 ep, .int .i64 ve] 30)) w10.heap.size #[.int .i64 st, .int .i64 ow, .int .i64 sm, .bool br, .bool ma, .int .i64 us, .int .i64 ge, .int .i64 ep, .int .i64 ve] 30 := RowAt.new _ _ _
  have M11 := HM.out.below hbo
  have hni11 := HNI.out.below hbo
  have hnz11 : ∀ j, j < Tk.sc c (Tk.ns c) → (w10.alloc (.cells #[.int .i64 st, .int .i64 ow, .int .i64 sm, .bool br, .bool ma, .int .i64 us, .int .i64 ge, .int .i64 ep, .int .i64 ve] 30)).frozen? ⟨ng, no + j, none⟩ = false := fun j hj => (World.frozen?_of_block (w := w10) (hbo.block ng hng10)).trans (hnz10 j hj)
  have hob : cb + 1 ≤ w10.heap.size := HM.out.lt
  generalize (w10.alloc (.cells #[.int .i64 st, .int .i64 ow, .int .i64 sm, .bool br, .bool ma, .int .i64 us, .int .i64 ge, .int .i64 ep, .int .i64 ve] 30)) = w11 at *
  generalize hobq : w10.heap.size = ob at *
  clear HM HNI hnz10 hbo x0 x1 x2 x3 x4 x5 x6 x7 x8 hobq
  refine wp_region_lit ?_
  refine gl (.slice (some ⟨ng, no, none⟩) (Tk.sc c (Tk.ns c)) ncap) ?_
  refine grow M11.cr 25 (.tmp 10) Tryz.underlying25 ?_
  refine gl (.int .i64 k) ?_
  try simp only [Act.put, sA, sZ, sS]
  refine gcall 12 #[.tmp 75, .tmp 76] #[25, 3] #[c.val, .int .i64 k] (enters_of Tryz.func12 (by kernel_rfl) rfl) ?_
  refine (hslot _).mono ?_
  rintro e w12 ⟨rfl, hb12⟩
  refine ⟨_, rfl, ?_⟩
  have M12 := M11.below hb12
  have hni12 := hni11.keep hb12 (Nat.lt_trans hng10 (RowAt.lt hro))
  have hro12 := RowAt.below hro hb12
  have hol := RowAt.lt hro
  have hnz12 : ∀ j, j < Tk.sc c (Tk.ns c) → w12.frozen? ⟨ng, no + j, none⟩ = false := fun j hj => (World.frozen?_of_block (w := w11) (hb12.block ng (Nat.lt_trans hng10 hol))).trans (hnz11 j hj)
  have e12 : w12.cell? ⟨ng, no + j, none⟩ = some (.int .i64 s'.word) := hni12 j _ HNW.out
  have j0 : (0 : Int) ≤ (j : Int) := by omega
  have j1 : (j : Int) < (Tk.sc c (Tk.ns c) : Int) := by omega
  clear M11 hni11 hro hnz11
  dsimp only
  go_wp2_with fail
  refine (hdc _).mono ?_
  rintro e w13 ⟨rfl, hb13⟩
  have M13 := M12.below hb13
  have hni13 := hni12.keep hb13 (Nat.lt_of_lt_of_le (Nat.lt_trans hng10 hol) hb12.size)
  have hro13 := RowAt.below hro12 hb13
  have hnz13 : ∀ j, j < Tk.sc c (Tk.ns c) → w13.frozen? ⟨ng, no + j, none⟩ = false := fun j hj => (World.frozen?_of_block (w := w12) (hb13.block ng (Nat.lt_of_lt_of_le (Nat.lt_trans hng10 hol) hb12.size))).trans (hnz12 j hj)
  have hs13 : ob < w13.heap.size := RowAt.lt hro13
  clear M12 hni12 hro12 hnz12 hb12 e12 hdc
  dsimp only
  go_step
  refine gl (.tuple #[s'.val, .bool true]) ?_
  refine gl s'.val ?_
  refine gl (.bool true) ?_
  refine gbox (ob := .cells zero9 30) (Z := zero9) (cs := s'.cells) (t := 30) 30 (.tmp 22) (.tmp 81) rfl ?_
  refine gl (.bool true) ?_
  try simp only [Act.put, sA, sZ, sS]
  rw [setRow_new]
  have hbn : Below w13.heap.size w13 (w13.alloc (.cells s'.cells 30)) := (Below.refl _ _).alloc (Nat.le_refl _) _
  have hrn : RowAt (w13.alloc (.cells s'.cells 30)) w13.heap.size s'.cells 30 := RowAt.new _ _ _
  have M14 := M13.below hbn
  have hni14 := hni13.keep hbn (Nat.lt_trans hng10 hs13)
  have hro14 := RowAt.below hro13 hbn
  have hnz14 : (w13.alloc (.cells s'.cells 30)).frozen? ⟨ng, no + j, none⟩ = false := (World.frozen?_of_block (w := w13) (hbn.block ng (Nat.lt_trans hng10 hs13))).trans (hnz13 j hjl)
  generalize (w13.alloc (.cells s'.cells 30)) = w14 at *
  generalize w13.heap.size = nb at *
  clear M13 hni13 hro13 hnz13 hb13 hbn
  have hol14 : (Tk.cells pre4 ss)[j]? = some (S.word ⟨st, ow, sm, br, ma, us, ge, ep, ve⟩) := HOD.out
  go_upto_region 15 with (fail)
  refine wp_region_held_drew (S := fun w' => RowAt w' cb c.cells 25 ∧ w'.cell? ⟨gb, j, none⟩ = some (.int .i64 (S.mk st ow sm br ma us ge ep ve).word)) (by kernel_rfl) (by exact ⟨M14.cr, M14.wr.get hol14⟩) (fun hHeld => ?_)
  refine tKg 0 83 hHeld ?_
  try simp only [Act.put, sA, sZ, sS]
  refine tKg 2 85 hHeld ?_
  try simp only [Act.put, sA, sZ, sS]
  refine tKg 4 87 hHeld ?_
  try simp only [Act.put, sA, sZ, sS]
  refine tKg 6 89 hHeld ?_
  try simp only [Act.put, sA, sZ, sS]
  refine tKw (gd := none) 1 84 (.load 25 (.tmp 10)) (.agg c.cells) (run_load_row 25 (.tmp 10) cb 25 c.cells _ (by kernel_rfl) Tryz.underlying25 rfl (by kernel_rfl) (fun w h => h.1)) hHeld ?_
  try simp only [Act.put, sA, sZ, sS]
  refine tKw (gd := none) 5 88 (.load 25 (.tmp 10)) (.agg c.cells) (run_load_row 25 (.tmp 10) cb 25 c.cells _ (by kernel_rfl) Tryz.underlying25 rfl (by kernel_rfl) (fun w h => h.1)) hHeld ?_
  try simp only [Act.put, sA, sZ, sS]
  refine rKc (i := 3) 12 #[.tmp 84, .tmp 85] #[25, 3] (some 86) none #[c.val, .int .i64 k] (enters_of Tryz.func12 (by kernel_rfl) rfl) ?_
  refine (hslot _).mono ?_
  rintro e w15 ⟨rfl, hb15⟩
  have hb15 := (Below.refl w14.heap.size w14).drew.trans hb15
  have M15 := M14.below hb15
  refine ⟨_, rfl, ⟨M15.cr, M15.wr.get hol14⟩, fun hHeld => ?_⟩
  try simp only [Act.put, sA, sZ, sS]
  refine rKc (i := 7) 12 #[.tmp 88, .tmp 89] #[25, 3] (some 90) none #[c.val, .int .i64 k] (enters_of Tryz.func12 (by kernel_rfl) rfl) ?_
  refine (hslot _).mono ?_
  rintro e w16 ⟨rfl, hb16⟩
  have hb16 := hb15.trans (hb16.mono hb15.size)
  have M16 := M14.below hb16
  refine ⟨_, rfl, ⟨M16.cr, M16.wr.get hol14⟩, fun hHeld => ?_⟩
  try simp only [Act.put, sA, sZ, sS]
  refine tKg 8 91 hHeld ?_
  try simp only [Act.put, sA, sZ, sS]
  refine tKg 9 92 hHeld ?_
  try simp only [Act.put, sA, sZ, sS]
  refine tKg 10 93 hHeld ?_
  try simp only [Act.put, sA, sZ, sS]
  have hng14 : ng < w14.heap.size := Nat.lt_trans hng10 (RowAt.lt hro14)
  have hni16 := hni14.keep hb16 hng14
  have hz16 : w16.frozen? ⟨ng, no + j, none⟩ = false := (World.frozen?_of_block (w := w14) (hb16.block ng hng14)).trans hnz14
  have hni17 := hni16.set j (S.mk st ow sm br ma us ge ep ve).word
  rw [HBK.out] at hni17
  have hbs : Below (cb + 1) w16 (w16.setCell ⟨ng, no + j, none⟩ (.int .i64 (S.mk st ow sm br ma us ge ep ve).word)) := (Below.refl _ _).setCell (p := ⟨ng, no + j, none⟩) hnb _
  have M17 := M16.keep hbs
  have hro17 := setOther (p := ⟨ng, no + j, none⟩) (RowAt.below hro14 hb16) (.int .i64 (S.mk st ow sm br ma us ge ep ve).word) (by show ob ≠ ng; omega)
  have hrn17 := setOther (p := ⟨ng, no + j, none⟩) (RowAt.below hrn hb16) (.int .i64 (S.mk st ow sm br ma us ge ep ve).word) (by show nb ≠ ng; omega)
  refine ready1 (i := 11) (by kernel_rfl) (step_store_cell 3 (.tmp 93) (.tmp 92) (by kernel_rfl) ng (no + j) (.int .i64 (S.mk st ow sm br ma us ge ep ve).word) (by kernel_rfl) (by kernel_rfl) (fun _ => st_intw (hni16 j _ HNW.out) hz16) ⟨M17.cr, M17.wr.get hol14⟩ (fun _ => ?_))
  try simp only [Act.put, sA, sZ, sS]
  refine wpAnyH_done (by kernel_rfl) ?_ _
  have hin := Ref01.ints_any _ _ _ _ _ (hni17.at (c := ncap) (by rw [HLN.out]; unfold maxLen Tk.sc Tk.ns; omega)) (M17.ints.at (c := Tk.sc c (Tk.ns c)) (by rw [HLN.out]; unfold maxLen Tk.sc Tk.ns; omega))
  rw [HLN.out, decide_eq_true rfl] at hin
  generalize (w16.setCell ⟨ng, no + j, none⟩ (.int .i64 (S.mk st ow sm br ma us ge ep ve).word)) = w17 at *
  clear hni16 hz16 hni17 hbs hHeld M14 M15 M16 hb15 hb16 hni14 hro14 hrn hnz14 hol14 hslot HBK HOD
  go_wp2_with fail
  refine hin.mono ?_
  rintro e w18 ⟨rfl, nq, rfl⟩
  have hr18 : RowAt (w17.drewN nq) ob (S.mk st ow sm br ma us ge ep ve).cells 30 := hro17
  have hn18 : RowAt (w17.drewN nq) nb s'.cells 30 := hrn17
  have hB18 : Below W.heap.size W (w17.drewN nq) := bdrewN M17.b nq
  generalize w17.drewN nq = w18 at *
  clear hin hro17 hrn17 M17
  obtain ⟨E1, E2, E3⟩ := HE.out
  dsimp only at E1 E2 E3
  have n4 : ¬ (4 : Int) < n := by have := HN.out; omega
  generalize t'.answer = A at *
  obtain ⟨a1, a2, a3⟩ := A
  dsimp only at E1 E2 E3
  obtain ⟨st', ow', sm', br', ma', us', ge', ep', ve'⟩ := s'
  dsimp only at E1 E2 E3
  have o0 : w18.cell? ⟨ob, 0, none⟩ = some (.int .i64 st) := RowAt.cell hr18 0
  have o1 : w18.cell? ⟨ob, 1, none⟩ = some (.int .i64 ow) := RowAt.cell hr18 1
  have o2 : w18.cell? ⟨ob, 2, none⟩ = some (.int .i64 sm) := RowAt.cell hr18 2
  have o3 : w18.cell? ⟨ob, 3, none⟩ = some (.bool br) := RowAt.cell hr18 3
  have o4 : w18.cell? ⟨ob, 4, none⟩ = some (.bool ma) := RowAt.cell hr18 4
  have o5 : w18.cell? ⟨ob, 5, none⟩ = some (.int .i64 us) := RowAt.cell hr18 5
  have o6 : w18.cell? ⟨ob, 6, none⟩ = some (.int .i64 ge) := RowAt.cell hr18 6
  have o7 : w18.cell? ⟨ob, 7, none⟩ = some (.int .i64 ep) := RowAt.cell hr18 7
  have o8 : w18.cell? ⟨ob, 8, none⟩ = some (.int .i64 ve) := RowAt.cell hr18 8
  have r0 : w18.cell? ⟨nb, 0, none⟩ = some (.int .i64 st') := RowAt.cell hn18 0
  have r1 : w18.cell? ⟨nb, 1, none⟩ = some (.int .i64 ow') := RowAt.cell hn18 1
  have r2 : w18.cell? ⟨nb, 2, none⟩ = some (.int .i64 sm') := RowAt.cell hn18 2
  have r3 : w18.cell? ⟨nb, 3, none⟩ = some (.bool br') := RowAt.cell hn18 3
  have r4 : w18.cell? ⟨nb, 4, none⟩ = some (.bool ma') := RowAt.cell hn18 4
  have r5 : w18.cell? ⟨nb, 5, none⟩ = some (.int .i64 us') := RowAt.cell hn18 5
  have r6 : w18.cell? ⟨nb, 6, none⟩ = some (.int .i64 ge') := RowAt.cell hn18 6
  have r7 : w18.cell? ⟨nb, 7, none⟩ = some (.int .i64 ep') := RowAt.cell hn18 7
  have r8 : w18.cell? ⟨nb, 8, none⟩ = some (.int .i64 ve') := RowAt.cell hn18 8
  have HB := Lib.hid hB18
  clear hr18 hn18 hB18 HE HN HNW HJ
  by_cases hno : ow = i ∧ (st = 4 ∨ st = 5)
  · obtain ⟨rfl, h45⟩ := hno
    by_cases h5 : st = 5 ∧ good = false
    · obtain ⟨rfl, rfl⟩ := h5
      obtain ⟨q1, q2⟩ := E2 rfl rfl rfl
      subst q1 q2
      clear E1 E2 E3 h45
      go_wp2_with fail
      go_ret
      exact ⟨rfl, HB.out⟩
    · have h6 : st = 4 ∨ st = 5 ∧ good = true := by rcases h45 with q | q; exact .inl q; exact .inr ⟨q, by cases good; exact absurd ⟨q, rfl⟩ h5; rfl⟩
      obtain ⟨q1, q2, q3, q4, q5, q6⟩ := E3 rfl h6
      subst q1 q2 q3 q4 q5 q6
      clear E1 E2 E3 h45 h5
      rcases h6 with rfl | ⟨rfl, rfl⟩
      all_goals (go_wp2_with fail; go_ret; exact ⟨Base.ret_bool (by simp), HB.out⟩)
  · obtain ⟨q1, q2⟩ := E1 hno
    cases q2
    subst q1
    clear E1 E2 E3
    have hq := fun W => eq_slot W st ow sm br ma us ge ep ve st ow sm br ma us ge ep ve
    simp only [decide_true] at hq
    by_cases ho : ow = i
    · subst ho
      have h4 : (st == 4) = false := by rw [beq_eq_false_iff_ne]; omega
      have h4' : (st != 4) = true := by rw [bne_iff_ne]; omega
      have h5 : (st == 5) = false := by rw [beq_eq_false_iff_ne]; omega
      have h5' : (st != 5) = true := by rw [bne_iff_ne]; omega
      clear hno
      go_wp2_with fail
      go_ret
      exact ⟨rfl, HB.out⟩
    · have ho1 : (ow == (i : Int)) = false := by simpa using ho
      have ho2 : (ow != (i : Int)) = true := by simpa using ho
      clear hno
      go_wp2_with fail
      go_ret
      exact ⟨rfl, HB.out⟩
end Go.Proofs.YtefpoidnklflnaaGreatDoor.Mod

namespace Go.Proofs.YtefpoidnklflnaaGreatDoor.takeGranted
open Go.ChangeShapes Go.WideShapes Go.ChangeAt Go.RowKit
set_option linter.unusedVariables false
set_option linter.unusedSimpArgs false

theorem own : ownKnob Tryz.prog.godebug = none := by kernel_rfl
theorem laidOut : laidOutB Tryz.prog = true := by kernel_rfl

set_option maxRecDepth 100000 in
theorem lifted (os : Os) (started : os.Started) (H : Type) (enc : TypeId × Value → H) :
    ReturnsInHanded {} Tryz.checked os 7 .any (fun w args => (Rows.takeGrantedSpec.pre enc Tryz.prog Tryz.f7 [] false w args ∧ laidMetH Tryz.prog Mod.lst w) ∧ sizedMet enc Tryz.prog Tryz.f7 (OpenSpec.ofChange Rows.takeGrantedSpec) false w args) (Rows.takeGrantedSpec.post enc Tryz.prog Tryz.f7 false true false false) := by
  refine returnsInHanded_of_change_and (C := Tryz.checked) (X := fun w _ => laidMetH Tryz.prog Mod.lst w) (fun _ _ _ hh h => h.of_heap hh) own started (by kernel_rfl) Tryz.func7
    (ChangeSpec.witness_shaped (enc := enc) (C := Tryz.checked) (os := os) (X := fun w _ => laidMetH Tryz.prog Mod.lst w) false (World.doorLaid Tryz.prog 23 os) #[.agg #[.int .u8 0, .int .u8 0, .int .u8 0, .int .u8 0, .int .u8 0, .slice none 0 0, .slice none 0 0, .slice none 0 0], .int .u8 0, .int .u8 0, .bool false] 8 rfl (World.shaped_of_RefB (by kernel_rfl) (by kernel_rfl)) (by kernel_rfl) (by kernel_rfl) (by kernel_rfl) (Mod.door_met os _)) ?_
  intro W base args ds gs before hval0 hW _ _ hL _
  have hval : ∀ (j : Nat) t v, Tryz.f7.params[j]? = some t → args[j]? = some v → Value.okWide Tryz.prog W .any base t v := hval0
  have hW' := hW
  obtain ⟨p, q, hA0, hV, rfl, hfz, hnd⟩ := hW
  have hA : DataW.TrodAll enc Tryz.prog W 0 (fun _ => true) true Tryz.f7.params.toList args.toList ds p := hA0
  rw [Tryz.params7] at hA hval
  obtain ⟨v0, vs0, d0, ds0, p0, q0, hargs, rfl, rfl, h0, r0⟩ := trodAll_cons hA
  obtain ⟨v1, vs1, d1, ds1, p1, q1, rfl, rfl, rfl, h1, r1⟩ := trodAll_cons r0
  obtain ⟨v2, vs2, d2, ds2, p2, q2, rfl, rfl, rfl, h2, r2⟩ := trodAll_cons r1
  obtain ⟨v3, vs3, d3, ds3, p3, q3, rfl, rfl, rfl, h3, r3⟩ := trodAll_cons r2
  obtain ⟨rfl, rfl, rfl⟩ := trodAll_nil r3
  obtain rfl : args = #[v0, v1, v2, v3] := by cases args; simp_all
  obtain ⟨rfl, rfl⟩ := trodVars_none hV
  have k0 := h0
  have lt0 : ∀ x ∈ p0, x.block < W.heap.size := by obtain ⟨m, hm⟩ := k0; exact DataW.trod_lt m _ _ _ hm
  obtain ⟨g0, rfl, w0⟩ := Mod.open_gv (hval 0 50 v0 rfl rfl) h0
  obtain ⟨a1, rfl, rfl, rfl, w1⟩ := open_int Tryz.underlying5 (hval 1 5 v1 rfl rfl) h1
  obtain ⟨a2, rfl, rfl, rfl, w2⟩ := open_int Tryz.underlying5 (hval 2 5 v2 rfl rfl) h2
  obtain ⟨a3, rfl, rfl, rfl⟩ := open_bool Tryz.underlying4 (hval 3 4 v3 rfl rfl) h3
  have hLd := Mod.of_laid hL
  clear hA0 hval0
  refine (Mod.takeGranted_walk W hLd g0 w0 _ (Mod.u8_bd w1) _ (Mod.u8_bd w2) a3).mono fun e W' ⟨he, bel⟩ => ?_
  subst he
  exact ⟨_, rfl, _, _, _, [], _, [], hW', trodAll_mk1 (shut_bool Tryz.underlying4 _), (trodAll_cons_mk (Below.trod laidOut (by kernel_rfl) (of_decide_eq_true (by kernel_rfl)) k0 bel lt0) (trodAll_cons_mk (shut_int Tryz.underlying5 w1) (trodAll_cons_mk (shut_int Tryz.underlying5 w2) (trodAll_cons_mk (shut_bool Tryz.underlying4 _) trodAll_mk0)))), rfl, bel.frame _, fun h => by cases h⟩

theorem over : Rows.takeGrantedRow.holds Tryz.pinned (OpenSpec.ofChange Rows.takeGrantedSpec) :=
  OpenClaim.holds_of_wide 7 Tryz.f7 rfl rfl rfl rfl rfl rfl rfl ⟨rfl, rfl, rfl, rfl, rfl⟩ rfl rfl rfl rfl rfl (by kernel_rfl) Tryz.func7 (by kernel_rfl)
    (of_decide_eq_true (by kernel_rfl)) (by unfold Func.isWrapper; first | (rw [if_pos (by decide +kernel)]; kernel_rfl) | (rw [if_neg (by decide +kernel)]; exact ⟨rfl, rfl⟩))
    (fun os started H enc _ => lifted os started H enc)

theorem proved : Rows.TakeGrantedCardSaid :=
  Claim7.holds_tied_plain_at .later [] [.data] true (true, "9b8bff58fe40348fefb797c643549a366003180c2937cd5f0cb8670f9547f7cb") false
    over (fun _ h => by cases h) (by kernel_rfl) (fun _ h => by cases h) takeGranted_row_tie rfl ⟨rfl, rfl⟩ (by kernel_rfl) rfl
    (fun f fn hf hfn => by
      obtain rfl : f = 7 := Option.some.inj ((show Tryz.prog.funcNamed "coachhouse/coachhouselaw17.TakeGranted" = some 7 by kernel_rfl).symm.trans hf) |>.symm
      obtain rfl : fn = Tryz.f7 := (Option.some.inj (Tryz.func7.symm.trans hfn)).symm
      exact ⟨by kernel_rfl, fun j t ht => by
        rw [Tryz.params7] at ht
        have hm : t ∈ [50, 5, 5, 4] := by simpa using Array.mem_of_getElem? ht
        have hall : ([50, 5, 5, 4].all fun u => !Tryz.prog.wantsStandIn u) = true := by kernel_rfl
        exact (show Tryz.prog.wantsStandIn t = false by simpa using List.all_eq_true.1 hall t hm)⟩)
    (by kernel_rfl)
#print axioms proved
end Go.Proofs.YtefpoidnklflnaaGreatDoor.takeGranted

