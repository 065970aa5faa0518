/- The statement TidyLeaves holds, for every input: the call answers true and leaves what it was handed as it was, where the package's table slot.fields is laid as the program's text lays it (the tied card). -/
import Derived.Test.YteadpgiffpfmnaaGreatDoorQ16
import Derived.Test.YteadpgiffpfmnaaGreatDoorQ11
import Derived.Test.YteadpgiffpfmnaaGreatDoorQ12
import Derived.Test.YteadpgiffpfmnaaGreatDoorQ15
import Derived.Test.YteadpgiffpfmnaaGreatDoorQ2
import Derived.Test.YteadpgiffpfmnaaGreatDoorRows
import Derived.Test.YteadpgiffpfmnaaGreatDoorTie
import Derived.Test.YteadpgiffpfmnaaGreatDoorCards
import Derived.WalkKit
import Derived.ProofKit
import Derived.OpenShut
import Derived.ShutString
import Derived.ChangeOld
import Derived.Below
import Derived.LaidMore
import Derived.SevenTiedAt

namespace Go.Proofs.YteadpgiffpfmnaaGreatDoor.Cl
set_option linter.unusedVariables false
set_option linter.unusedSimpArgs false
open Go.RowKit Hp Slot RowL Life

def pinsOf (c : Conf.Cf) (ws : List Int) : List Int := (List.range c.workers.toNat).map fun o => Tk.rd ws (3 + o)
theorem pinsOf_len (c : Conf.Cf) (ws : List Int) : (pinsOf c ws).length = c.workers.toNat := by simp [pinsOf]
theorem pinsOf_get (c : Conf.Cf) (ws : List Int) {o : Nat} (h : o < c.workers.toNat) : (pinsOf c ws)[o]? = some (Tk.rd ws (3 + o)) := by simp [pinsOf, h]
/-- What Pins leaves. -/
def PinsPost (W : World) (n : Nat) (l : List Int) (e : Ending) (W' : World) : Prop :=
  ∃ a c, e = .returned (.slice a n c) ∧ OwnS W' (.slice a n c) n 1 (l.map (Value.int .i64)) ∧ (∀ x, Fp (.slice a n c) x → W.heap.size ≤ x) ∧ Below W.heap.size W W'
set_option maxRecDepth 100000 in
set_option maxHeartbeats 4000000 in
theorem ref_pins_any (W : World) (c : Conf.Cf) (hr : c.right = true) (g o cap : Nat) (ws : List Int) (hl : ws.length = Tk.sc c (Tk.ns c)) (hs : IntsB W g o ws) :
    Calls Tryz.prog 15 #[c.val, .slice (some ⟨g, o, none⟩) ws.length cap] W (PinsPost W c.workers.toNat (pinsOf c ws)) := by
  obtain ⟨⟨a0, a1⟩, b0, b1⟩ := right_small hr
  have hce := fun w => ref_cells_any w c ⟨by omega, a1⟩ ⟨b0, by omega⟩
  have hn : 3 + 2 * c.workers + c.slots = (ws.length : Int) := by rw [hl]; unfold Tk.sc Tk.ns; omega
  simp only [hn] at hce
  have hpn := fun w (q : Nat) (h : (q : Int) < c.workers) => ref_pin_any w c q ⟨h, a1⟩
  have hdl := pinsOf_len c ws
  have hdg := fun q (h : q < c.workers.toNat) => pinsOf_get c ws h
  have hnl : 3 + c.workers.toNat ≤ ws.length ∧ ws.length ≤ 4096 := by rw [hl]; unfold Tk.sc Tk.ns; omega
  have hwn : (c.workers.toNat : Int) = c.workers := by omega
  generalize pinsOf c ws = ds at *
  generalize hN : c.workers.toNat = N at *
  have hN8 : N ≤ 8 := by omega
  clear hl hr hN
  obtain ⟨cw, cs, cst, cwa, cu⟩ := c
  simp only [Conf.Cf.val, Conf.Cf.cells] at hce hpn
  dsimp only at *
  subst hwn
  have hA : Below W.heap.size W (W.alloc (.cells #[.int .i64 N, .int .i64 cs, .int .i64 cst, .int .i64 cwa, .int .i64 cu] 30)) := (Below.refl _ _).alloc (Nat.le_refl _) _
  have hrow : RowAt (W.alloc (.cells #[.int .i64 N, .int .i64 cs, .int .i64 cst, .int .i64 cwa, .int .i64 cu] 30)) W.heap.size #[.int .i64 N, .int .i64 cs, .int .i64 cst, .int .i64 cwa, .int .i64 cu] 30 := RowAt.new _ _ _
  have hgl : g < W.heap.size := hs.lt (by omega)
  have hs1 := hs.below hA
  have HA := Lib.hid hA
  have HR := Lib.hid hrow
  have HS := Lib.hid hs1
  have HD := Lib.hid hdg
  have HP := Lib.hid hpn
  clear hs hA hrow hs1 hdg hpn
  go_enter Tryz.func15, Tryz.ntmps15
  simp only [Conf.Cf.val, Conf.Cf.cells]
  go_wp2_with fail
  generalize (W.alloc (.cells #[.int .i64 N, .int .i64 cs, .int .i64 cst, .int .i64 cwa, .int .i64 cu] 30)) = w0 at *
  go_loopw [5, 6] (fun v i wr => ∃ k : Nat, k ≤ N ∧ i = .int .i64 k ∧ RowKit.Hid (OwnS wr v k 1 ((ds.take k).map (Value.int .i64))) ∧ RowKit.Hid (∀ x, Fp v x → W.heap.size + 1 ≤ x) ∧ RowKit.Hid (Below W.heap.size W wr) ∧ RowKit.Hid (RowAt wr W.heap.size #[.int .i64 N, .int .i64 cs, .int .i64 cst, .int .i64 cwa, .int .i64 cu] 30) ∧ RowKit.Hid (IntsB wr g o ws)) (fun _ i _ => N - (intOf i).toNat)
  case atStart => exact ⟨0, by omega, rfl, Lib.hid (by rw [List.take_zero]; exact ownS_nil _ 1), fun x h => absurd h (fp_nil x), HA, HR, HS⟩
  case round =>
    obtain ⟨k, hk, rfl, hown, hfp, hB, hrw, hI⟩ := hrel
    obtain ⟨a, cp, rfl⟩ := hown.out.form
    clear HA HR HS
    have c0 : wr.cell? ⟨W.heap.size, 0, none⟩ = some (.int .i64 N) := RowAt.cell hrw.out 0
    by_cases hlt : k < N
    · have hx : ws[3 + k]? = some (Tk.rd ws (3 + k)) := rd_here (by omega)
      have hd := HD.out k hlt
      have k1 : (k : Int) < N := by omega
      have k0 : (0 : Int) ≤ (k : Int) := by omega
      have c1 : wr.cell? ⟨W.heap.size, 1, none⟩ = some (.int .i64 cs) := RowAt.cell hrw.out 1
      have c2 : wr.cell? ⟨W.heap.size, 2, none⟩ = some (.int .i64 cst) := RowAt.cell hrw.out 2
      have c3 : wr.cell? ⟨W.heap.size, 3, none⟩ = some (.int .i64 cwa) := RowAt.cell hrw.out 3
      have c4 : wr.cell? ⟨W.heap.size, 4, none⟩ = some (.int .i64 cu) := RowAt.cell hrw.out 4
      obtain ⟨j, hj⟩ : ∃ j, j = 3 + k := ⟨_, rfl⟩
      have hpk : ∀ w, Calls Tryz.prog 21 #[.agg #[.int .i64 N, .int .i64 cs, .int .i64 cst, .int .i64 cwa, .int .i64 cu], .int .i64 k] w fun e w' => e = .returned (.int .i64 (j : Nat)) ∧ Below w.heap.size w w' := fun w => by rw [hj]; exact HP.out w k k1
      rw [← hj] at hx hd
      have j0 : (0 : Int) ≤ (j : Int) := by omega
      have j1 : (j : Int) < (ws.length : Int) := by omega
      generalize Tk.rd ws j = x at *
      have hxc := fun w (h : Below wr.heap.size wr w) => Field.bkeep h (hI.out j x hx)
      have HX := Lib.hid hxc
      have HD1 := Lib.hid hd
      clear hx hxc hd hj
      go_wp2_with fail
      refine (hce _).mono ?_
      rintro e w1 ⟨rfl, hb1⟩
      have d0 := Field.bkeep hb1 c0
      have d1 := Field.bkeep hb1 c1
      have d2 := Field.bkeep hb1 c2
      have d3 := Field.bkeep hb1 c3
      have d4 := Field.bkeep hb1 c4
      clear c0 c1 c2 c3 c4
      go_wp2_with fail
      refine (hpk _).mono ?_
      rintro e w2 ⟨rfl, hb2⟩
      have hb2 := hb1.trans (hb2.mono hb1.size)
      have ex := HX.out w2 hb2
      have hown4 := (hown.out.stable hb2.size (fun x hx => hb2.block x (hown.out.lt hx)))
      clear d0 d1 d2 d3 d4 hb1
      dsimp only
      go_step
      refine gl (.pointer (some ⟨g, o + j, none⟩)) ?_ (by go_simp)
      try simp only [Act.put, sA, sZ, sS]
      refine gl (.int .i64 x) ?_ (by go_simp)
      try simp only [Act.put, sA, sZ, sS]
      refine wpList_push rfl (.tmp 26) rfl x rfl rfl (.tmp 20) (.tmp 27) rfl (.slice a k cp) k (ds.take k) hown4 (by omega) rfl rfl ?_
      intro a' c' w9 hown' hfp' hch
      have hb9 : Below (W.heap.size + 1) wr w9 := (hb2.mono (by have := (hrw.out).lt; omega)).trans (hch.below (B := W.heap.size + 1) (by have := (hrw.out).lt; have := hb2.size; omega) (fun q hq => hfp.out q hq))
      have htk : ds.take k ++ [x] = ds.take (k + 1) := by rw [List.take_add_one, HD1.out]; rfl
      rw [htk] at hown'
      have HB9 := Lib.hid (hB.out.trans (hb9.mono (Nat.le_succ _)))
      have HO9 := Lib.hid hown'
      have HR9 := Lib.hid (show RowAt w9 W.heap.size #[.int .i64 N, .int .i64 cs, .int .i64 cst, .int .i64 cwa, .int .i64 cu] 30 from (hb9.block W.heap.size (Nat.lt_succ_self _)).trans hrw.out)
      have HI9 := Lib.hid (show IntsB w9 g o ws from fun q z hz => (World.cell?_of_block (w := wr) (hb9.block g (by omega))).trans (hI.out q z hz))
      have HF9 := Lib.hid (show ∀ x, Fp (.slice a' (k + 1) c') x → W.heap.size + 1 ≤ x from fun q hq => (hfp' q hq).elim (hfp.out q) (fun h => by have := (hrw.out).lt; have := hb2.size; omega))
      clear hb9 hown' htk hown4 hch hfp' hB hrw hI hfp hown HX HD1 hb2 ex
      try simp only [Act.put, sA, sZ, sS]
      try dsimp only
      go_wp2_with fail
      go_roundw
      case rel => exact ⟨k + 1, by omega, by go_num, HO9, HF9, HB9, HR9, HI9⟩
      case measure => simp [intOf]; omega
    · have hke : k = N := by omega
      subst hke
      have k1 : ¬ (k : Int) < k := by omega
      go_wp2_with fail
      go_ret
      have ho := hown.out
      have hl : ds.take k = ds := List.take_of_length_le (by omega)
      rw [hl] at ho
      exact ⟨a, cp, rfl, ho, fun x hx => by have := hfp.out x hx; omega, hB.out⟩
end Go.Proofs.YteadpgiffpfmnaaGreatDoor.Cl

namespace Go.Proofs.YteadpgiffpfmnaaGreatDoor.Mod
set_option linter.unusedVariables false
set_option linter.unusedSimpArgs false
open Go.RowKit Hp Slot RowL Life Cl

theorem free_pins {c : Conf.Cf} {pre : List Int} {ss : List S} (hp : Tk.Pool c pre ss) (k : Nat) (e : Int) : freeL (pinsOf c (Tk.cells pre ss)) k e = Ty.freeB pre c.workers.toNat k e := by
  unfold freeL Ty.freeB
  rw [pinsOf_len]
  rw [Bool.eq_iff_iff, List.all_eq_true, List.all_eq_true]
  have hg : ∀ o, o ∈ List.range c.workers.toNat → (pinsOf c (Tk.cells pre ss)).getD o 0 = pre.getD (3 + o) 0 := by
    intro o ho
    have ho := List.mem_range.1 ho
    rw [List.getD_eq_getElem?_getD, pinsOf_get c _ ho, Tk.rd_pre hp (by omega)]
    rfl
  constructor
  · intro h o ho; rw [← hg o ho]; exact h o ho
  · intro h o ho; rw [hg o ho]; exact h o ho
theorem pins_bd {c : Conf.Cf} {pre : List Int} {ss : List S} (hp : Tk.Pool c pre ss) (hb : ∀ x ∈ Tk.cells pre ss, x < 9223372036854775808) : ∀ x ∈ pinsOf c (Tk.cells pre ss), x ≤ 9223372036854775807 := by
  intro x hx
  unfold pinsOf at hx
  obtain ⟨o, ho, rfl⟩ := List.mem_map.1 hx
  have ho := List.mem_range.1 ho
  have hl : 3 + o < (Tk.cells pre ss).length := by unfold Tk.cells; have := hp.pl; simp; omega
  have := hb _ (List.mem_of_getElem? (rd_here hl))
  omega
set_option maxRecDepth 100000 in
set_option maxHeartbeats 2000000 in
theorem tidyLeaves_walk (W : World) (hL : Laid W) (g : Gv) (hgv : GvAt W g) (a0 : Option Addr) (len cap b0 off : Nat) (l : List Int) (hl : Base.IntsAt .u8 W a0 len cap b0 off l) (who : Int) (hwho : 0 ≤ who ∧ who < 256) :
    Calls Tryz.prog 3 #[g.val, .slice a0 len cap, .int .u8 who] W fun e W' => e = .returned (.bool true) ∧ Below W.heap.size W W' := by
  have haw := fun w hL => yawake_any w hL
  have hcr := confOf_right g.b0 g.b1 g.b2 g.b3 g.b4
  have hwt := fun w h (h8 : len ≤ 8) hl => waits_any (a0 := a0) (len := len) (cap := cap) (b0 := b0) (off := off) (l := l) w g h hl h8
  generalize confOf g.b0 g.b1 g.b2 g.b3 g.b4 = c at *
  have hA : Below W.heap.size W (W.alloc (.cells g.cells 27)) := (Below.refl _ _).alloc (Nat.le_refl _) _
  have hg : RowAt (W.alloc (.cells g.cells 27)) W.heap.size g.cells 27 := heap_alloc_new W _
  have hG := hgv.below hA
  have hL0 := hL.stable (hA.block 0 (hL.lt (by decide)))
  have hW0 : 0 < W.heap.size := hL.lt (by decide)
  go_enter Tryz.func3, Tryz.ntmps3
  go_upto_region 1 with (fail)
  generalize (W.alloc (.cells g.cells 27)) = w0 at *
  go_wp2_with fail
  refine (haw _ hL0).mono ?_
  rintro e w1 ⟨rfl, hb1⟩
  have hB1 := hA.trans (hb1.mono hA.size)
  have hg1 := RowAt.below hg hb1
  have hG1 := hG.below hb1
  have hl1 := hl.later hB1 (Nat.le_refl _)
  clear haw hb1 hA hg hG hL0 hgv
  by_cases h8 : len ≤ 8
  rotate_left
  · have h8i : (8 : Int) < (len : Int) := by omega
    have HB := Lib.hid hB1
    clear hwt hG1 hg1 hl1 hB1
    go_wp2_with fail
    go_ret
    exact ⟨rfl, HB.out⟩
  have h8i : ¬ (8 : Int) < (len : Int) := by omega
  go_upto_region 4 with (fail)
  refine wp_region_lit ?_
  refine grow hg1 27 (.tmp 3) Tryz.underlying27 ?_
  try simp only [Act.put, sA, sZ, sS]
  refine gl (.slice a0 len cap) ?_
  try simp only [Act.put, sA, sZ, sS]
  refine gcall 10 #[.tmp 25, .tmp 26] #[27, 25] #[g.val, .slice a0 len cap] (enters_of Tryz.func10 (by kernel_rfl) rfl) ?_
  refine (hwt _ hG1 h8 hl1).mono ?_
  rintro e w2 ⟨gb, pre, ss, LL, rfl, hw2, hp, hq, hgb, hb2, hz⟩
  refine ⟨_, rfl, ?_⟩
  have hB2 := hB1.trans (hb2.mono hB1.size)
  dsimp only
  refine gl (.tuple #[c.val, .slice (some ⟨gb, 0, none⟩) (Tk.cells pre ss).length (Tk.cells pre ss).length]) ?_
  refine gl c.val ?_
  refine gl (.slice (some ⟨gb, 0, none⟩) (Tk.cells pre ss).length (Tk.cells pre ss).length) ?_
  refine gbox (ob := .cells zero5 30) (Z := zero5) (cs := c.cells) (t := 30) 30 (.tmp 8) (.tmp 28) rfl ?_
  refine gl (.slice (some ⟨gb, 0, none⟩) (Tk.cells pre ss).length (Tk.cells pre ss).length) ?_
  try simp only [Act.put, sA, sZ, sS]
  rw [setRow_new]
  have M4 : LwAt W c w2.heap.size gb (Tk.cells pre ss) (w2.alloc (.cells c.cells 30)) := ⟨hB2.alloc hB2.size _, heap_alloc_new w2 _, RowAt.below hw2 ((Below.refl _ _).alloc (Nat.le_refl _) _), ⟨by have := hB1.size; omega, RowAt.lt hw2, hW0⟩⟩
  generalize (w2.alloc (.cells c.cells 30)) = w4 at *
  generalize w2.heap.size = cb at *
  have hlen : (Tk.cells pre ss).length = Tk.sc c (Tk.ns c) := by unfold Tk.cells Tk.sc; have := hp.pl; have := hp.sl; simp; omega
  obtain ⟨⟨wk0, wk1⟩, sl0, sl1⟩ := right_small hcr
  have hn6 : 6 ≤ (Tk.cells pre ss).length := by rw [hlen]; unfold Tk.sc Tk.ns; omega
  clear hwt hG1 hg1 hw2 hB1 hB2 hb2 hgb hl1 h8i
  have c0 : w4.cell? ⟨cb, 0, none⟩ = some (.int .i64 c.workers) := RowAt.cell M4.cr 0
  obtain ⟨i, hi, hilt⟩ : ∃ i : Nat, who.tmod c.workers = (i : Int) ∧ (i : Int) < c.workers := ⟨(who % c.workers).toNat, by rw [Int.tmod_eq_emod_of_nonneg hwho.1]; have := Int.emod_nonneg who (show c.workers ≠ 0 by omega); omega, by have := Int.emod_nonneg who (show c.workers ≠ 0 by omega); have := Int.emod_lt_of_pos who (show 0 < c.workers by omega); omega⟩
  have hne : ¬ c.workers = 0 := by omega
  have hnb : (c.workers == 0) = false := by simpa using hne
  have x0 := hwho.1
  have x1 := hwho.2
  obtain ⟨pre', ss', L', t', hrun, h17, hF⟩ := fin_run (k := i) hp hq hcr (by omega)
  have hok : Ty.TyOk (Ty.Ty.new c i) (Tk.cells pre ss).length := Ty.TyOk.new ⟨by omega, by omega⟩ (by unfold Tk.ns; omega) hilt (by rw [hlen]; rfl)
  have hme : Ty.MemOk c (Tk.cells pre ss) := memOk_of hp hq wk1
  have HF := Lib.hid hF
  have HP := Lib.hid (And.intro hp (And.intro hq hz))
  clear hF hz
  go_upto_region 6 with (fail)
  have hld := laid_any w4 c hcr gb 0 (Tk.cells pre ss).length (Tk.cells pre ss) hlen M4.ints
  refine wp_region_lit ?_
  refine grow M4.cr 30 (.tmp 8) Tryz.underlying30 ?_
  refine gl (.slice (some ⟨gb, 0, none⟩) (Tk.cells pre ss).length (Tk.cells pre ss).length) ?_
  try simp only [Act.put, sA, sZ, sS]
  refine gcall 11 #[.tmp 35, .tmp 36] #[30, 31] #[c.val, .slice (some ⟨gb, 0, none⟩) (Tk.cells pre ss).length (Tk.cells pre ss).length] (enters_of Tryz.func11 (by kernel_rfl) rfl) ?_
  refine hld.mono ?_
  rintro e w5 ⟨mb, wb, rfl, hM5, hm1, hm2, hb5⟩
  refine ⟨_, rfl, ?_⟩
  have M5 := M4.below hb5
  have hmb : cb + 1 ≤ mb := Nat.le_trans M4.lt hm1
  have hwb : cb + 1 ≤ wb := Nat.le_trans M4.lt hm2
  have hL5 : Laid w5 := hL.stable (M5.b.block 0 (hL.lt (by decide)))
  clear hld hm1 hm2 hb5 M4 c0 hne hnb x0 x1
  dsimp only
  have hal := yalone_any hM5 hL5 (by have := M5.ng; omega) (by have := M5.ng; omega) ⟨by omega, by rw [hlen]; unfold Tk.sc Tk.ns; omega⟩ c i hok hme
  rw [hrun] at hal
  clear hok hme hM5 hL5 hrun hp hq
  go_upto_region 9 with (fail)
  refine wp_region_lit ?_
  refine gl (.pointer (some ⟨mb, 0, none⟩)) ?_
  try simp only [Act.put, sA, sZ, sS]
  refine grow M5.cr 30 (.tmp 8) Tryz.underlying30 ?_
  try simp only [Act.put, sA, sZ, sS]
  refine gl (.int .i64 i) ?_
  try simp only [Act.put, sA, sZ, sS]
  refine gcall 12 #[.tmp 40, .tmp 41, .tmp 42] #[34, 30, 3] #[Value.pointer (some ⟨mb, 0, none⟩), c.val, .int .i64 i] (enters_of Tryz.func12 (by kernel_rfl) rfl) ?_
  refine hal.mono ?_
  rintro e w7 ⟨rfl, tc, hM7, ht7, hC7⟩
  refine ⟨_, rfl, ?_⟩
  have M7 := M5.keep (hC7.below (B := cb + 1) M5.lt (fun q e => by rcases e with rfl | rfl <;> assumption))
  rw [decide_eq_true h17]
  dsimp only at hM7 ⊢
  have hwo := words_any hM7
  have HM7 := Lib.hid M7
  clear hal hM7 ht7 hC7 M7 M5 h17
  go_wp2_with fail
  refine hwo.mono ?_
  rintro e w9 ⟨na, ncap, rfl, hown, hfp, hb9⟩
  have hl9 : (Tk.cells pre' ss').length = (Tk.cells pre ss).length := by have h1 := HF.out.p.pl; have h2 := HF.out.p.sl; rw [hlen]; unfold Tk.cells Tk.sc; simp; omega
  rw [hl9, hlen] at hown ⊢
  obtain ⟨ng, no, rfl, hng, hni, hnz⟩ := own_ints hown (by omega)
  have M9 := HM7.out.below hb9
  clear hwo hown hfp hb9 HM7 hnz
  have hsA := ref_slots_any w9 c hcr ng no ncap (Tk.cells pre' ss') (by rw [hl9, hlen]) hni (HF.out.bd HP.out.1 HP.out.2.1 hcr)
  rw [slotsOf_cells HF.out.p, hl9, hlen] at hsA
  go_upto_region 11 with (fail)
  refine wp_region_lit ?_
  refine grow M9.cr 30 (.tmp 8) Tryz.underlying30 ?_
  try simp only [Act.put, sA, sZ, sS]
  refine gl (.slice (some ⟨ng, no, none⟩) (Tk.sc c (Tk.ns c)) ncap) ?_
  try simp only [Act.put, sA, sZ, sS]
  refine gcall 14 #[.tmp 46, .tmp 47] #[30, 31] #[c.val, .slice (some ⟨ng, no, none⟩) (Tk.sc c (Tk.ns c)) ncap] (enters_of Tryz.func14 (by kernel_rfl) rfl) ?_
  refine hsA.mono ?_
  rintro e w10 ⟨sa, scp, rfl, hsi, hb10⟩
  refine ⟨_, rfl, ?_⟩
  have M10 := M9.below hb10
  have hni10 := hni.keep hb10 hng
  have hng10 : ng < w10.heap.size := Nat.lt_of_lt_of_le hng hb10.size
  have hps := ref_pins_any w10 c hcr ng no ncap (Tk.cells pre' ss') (by rw [hl9, hlen]) hni10
  rw [hl9, hlen] at hps
  clear hsA M9 hni
  dsimp only
  go_upto_region 12 with (fail)
  refine wp_region_lit ?_
  refine grow M10.cr 30 (.tmp 8) Tryz.underlying30 ?_
  try simp only [Act.put, sA, sZ, sS]
  refine gl (.slice (some ⟨ng, no, none⟩) (Tk.sc c (Tk.ns c)) ncap) ?_
  try simp only [Act.put, sA, sZ, sS]
  refine gcall 15 #[.tmp 49, .tmp 50] #[30, 31] #[c.val, .slice (some ⟨ng, no, none⟩) (Tk.sc c (Tk.ns c)) ncap] (enters_of Tryz.func15 (by kernel_rfl) rfl) ?_
  refine hps.mono ?_
  rintro e w11 ⟨pa, pcp, rfl, hpo, hpf, hb11⟩
  refine ⟨_, rfl, ?_⟩
  have M11 := M10.below hb11
  have hni11 := hni10.keep hb11 hng10
  have hsi11 := hsi.below hb11
  obtain ⟨pg, po, rfl, hpg, hpi, -⟩ := own_ints hpo (by omega)
  obtain ⟨pre1, pre2, TT⟩ := HF.out.t
  have hkW : i < c.workers.toNat := by omega
  have hpt := TT.preT HP.out.1.pl hkW
  have hTD := TT.tidy HP.out.1.pl hkW
  have hcl := HP.out.2.1.closed
  have hcl3 : Tk.rd pre 0 = 0 ∨ Tk.rd pre 0 = 1 ∨ Tk.rd pre 0 = 2 := by show pre.getD 0 0 = 0 ∨ pre.getD 0 0 = 1 ∨ pre.getD 0 0 = 2; omega
  have hl1 := fun s (h : s ∈ ss') => Ty.leaves1 hTD hcl3 h
  have hl2 := fun (h : Tk.rd pre 0 = 0) (hq : Ty.lw L' ≠ 0) s (hs : s ∈ ss') => Ty.leaves2 hTD h hq hs
  have hfree : ∀ e, freeL (pinsOf c (Tk.cells pre' ss')) i e = Ty.freeB pre' c.workers.toNat i e := fun e => free_pins HF.out.p i e
  have hpbd : ∀ x ∈ pinsOf c (Tk.cells pre' ss'), x ≤ 9223372036854775807 := pins_bd HF.out.p (HF.out.bd HP.out.1 HP.out.2.1 hcr)
  have hpl := pinsOf_len c (Tk.cells pre' ss')
  have hpk : (pinsOf c (Tk.cells pre' ss'))[i]? = some 0 := by rw [pinsOf_get c _ hkW, Tk.rd_pre HF.out.p (by omega)]; exact congrArg some hpt.2.2.2.1
  have hx1 : (Tk.cells pre' ss')[1]? = some (Ty.lw L') := by rw [rd_here (by rw [hl9]; omega), Tk.rd_pre HF.out.p (by omega)]; exact congrArg some HF.out.q
  have hx2 : (Tk.cells pre' ss')[2]? = some (Ty.sweepAll (Tk.rd pre 0) (Tk.rd pre 2) ss).1 := by rw [rd_here (by rw [hl9]; omega), Tk.rd_pre HF.out.p (by omega)]; exact congrArg some hpt.2.2.1
  have hy0 : (Tk.cells pre ss)[0]? = some (Tk.rd pre 0) := by rw [rd_here (by omega), Tk.rd_pre HP.out.1 (by omega)]; rfl
  have hy2 : (Tk.cells pre ss)[2]? = some (Tk.rd pre 2) := by rw [rd_here (by omega), Tk.rd_pre HP.out.1 (by omega)]; rfl
  have hge := (Ty.sweepAll_len (Tk.rd pre 0) ss (Tk.rd pre 2)).2.1
  have hsl' : ss'.length = Tk.ns c := HF.out.p.sl
  have hns : Tk.ns c ≤ 16 := by unfold Tk.ns; omega
  generalize pinsOf c (Tk.cells pre' ss') = pl at *
  generalize (Ty.sweepAll (Tk.rd pre 0) (Tk.rd pre 2) ss).1 = e2 at *
  generalize Tk.rd pre 2 = e1 at *
  generalize Tk.rd pre 0 = cl at *
  generalize Ty.lw L' = qv at *
  have n1 := hni11 1 _ hx1
  have n2 := hni11 2 _ hx2
  have y0 := M11.wr.get hy0
  have y2 := M11.wr.get hy2
  have hpi0 := hpi i _ hpk
  have hat := fun w (h : Below w11.heap.size w11 w) => (hpi.below h).at (c := pcp) (by rw [hpl]; unfold maxLen; omega)
  rw [hpl] at hat
  have hfr := fun w (h : Below w11.heap.size w11 w) (e : Int) => rfree_any w (some ⟨pg, po, none⟩) pcp pl i e (by rw [hpl]; exact hat w h) (by omega) hpbd
  simp only [hpl, hfree] at hfr
  have HL := Lib.hid (And.intro hl1 hl2)
  have HR := Lib.hid hfr
  have HI := Lib.hid hsi11
  have HB11 := Lib.hid M11.b
  have HS := Lib.hid hsl'
  have hw6 : 6 ≤ Tk.sc c (Tk.ns c) := by omega
  have HKW := Lib.hid (And.intro hkW hge)
  rw [hsl']
  clear hps M10 hni10 hsi hb10 hb11 hni11 hsi11 hpo hpf hpi hpt hTD hcl hcl3 hl1 hl2 hfree hpbd hpl hpk hx1 hx2 hy0 hy2 hsl' hng hng10 hpg M11 TT HF HP hat hfr hge hkW
  dsimp only
  go_wp2_with fail
  go_loopw [16] (fun i wr => ∃ q : Nat, q ≤ Tk.ns c ∧ i = .int .i64 q ∧ RowKit.Hid (Below w11.heap.size w11 wr)) (fun i _ => Tk.ns c - (intOf i).toNat)
  case atStart => exact ⟨0, by omega, rfl, Below.refl _ _⟩
  case round =>
    obtain ⟨q, hq, rfl, hB⟩ := hrel
    by_cases hlt : q < Tk.ns c
    · obtain ⟨s, hs⟩ : ∃ s, ss'[q]? = some s := ⟨_, List.getElem?_eq_getElem (by rw [HS.out]; exact hlt)⟩
      obtain ⟨og, oo, rfl, hco⟩ := HI.out q s hs
      have hm := List.mem_of_getElem? hs
      have hA := HL.out.1 s hm
      have hB2 := fun a b => HL.out.2 a b s hm
      have k0 : (0 : Int) ≤ (q : Int) := by omega
      have k1 : (q : Int) < (Tk.ns c : Int) := by omega
      obtain ⟨st, ow, sm, br, ma, us, ge, ep, ve⟩ := s
      have y0' := Field.bkeep hB.out (hco 0 _ rfl)
      have y1' := Field.bkeep hB.out (hco 1 _ rfl)
      have y2' := Field.bkeep hB.out (hco 2 _ rfl)
      have y3' := Field.bkeep hB.out (hco 3 _ rfl)
      have y4' := Field.bkeep hB.out (hco 4 _ rfl)
      have y5' := Field.bkeep hB.out (hco 5 _ rfl)
      have y6' := Field.bkeep hB.out (hco 6 _ rfl)
      have y7' := Field.bkeep hB.out (hco 7 _ rfl)
      have y8' := Field.bkeep hB.out (hco 8 _ rfl)
      simp only [S.cells, Nat.add_zero] at y0' y1' y2' y3' y4' y5' y6' y7' y8'
      dsimp only at hA hB2
      clear hco hs hm
      go_upto_region 17 with (fail)
      have hB12 : Below w11.heap.size w11 (wr.alloc (.cells #[.int .i64 st, .int .i64 ow, .int .i64 sm, .bool br, .bool ma, .int .i64 us, .int .i64 ge, .int .i64 ep, .int .i64 ve] 41)) := hB.out.alloc hB.out.size _
      have hs12 : RowAt (wr.alloc (.cells #[.int .i64 st, .int .i64 ow, .int .i64 sm, .bool br, .bool ma, .int .i64 us, .int .i64 ge, .int .i64 ep, .int .i64 ve] 41)) wr.heap.size #[.int .i64 st, .int .i64 ow, .int .i64 sm, .bool br, .bool ma, .int .i64 us, .int .i64 ge, .int .i64 ep, .int .i64 ve] 41 := RowAt.new _ _ _
      generalize (wr.alloc (.cells #[.int .i64 st, .int .i64 ow, .int .i64 sm, .bool br, .bool ma, .int .i64 us, .int .i64 ge, .int .i64 ep, .int .i64 ve] 41)) = w12 at *
      generalize wr.heap.size = sb at *
      have s0 : w12.cell? ⟨sb, 0, none⟩ = some (.int .i64 st) := RowAt.cell hs12 0
      have s3 : w12.cell? ⟨sb, 3, none⟩ = some (.bool br) := RowAt.cell hs12 3
      have s7 : w12.cell? ⟨sb, 7, none⟩ = some (.int .i64 ep) := RowAt.cell hs12 7
      have y0 := Field.bkeep hB12 y0
      have n1 := Field.bkeep hB12 n1
      have HB12 := Lib.hid hB12
      have HS12 := Lib.hid hs12
      clear hs12 n2 y2 hpi0 y0' y1' y2' y3' y4' y5' y6' y7' y8'
      have hcase : st = 6 ∨ st = 2 ∨ st = 3 ∨ st = 0 ∨ (st ≠ 6 ∧ st ≠ 2 ∧ st ≠ 3 ∧ st ≠ 0) := by omega
      rcases hcase with rfl | rfl | rfl | rfl | ⟨h6, h2, h3, h0⟩
      · have hfree := HR.out w12 hB12 ep
        have hnf : Ty.freeB pre' c.workers.toNat i ep = false := by cases hh : Ty.freeB pre' c.workers.toNat i ep; rfl; exact absurd ⟨rfl, hh⟩ hA.2.2
        rw [hnf] at hfree
        clear hA hB2 hnf hB12
        go_wp2_with fail
        refine hfree.mono ?_
        rintro e w13 ⟨rfl, hb13⟩
        have HB13 := Lib.hid (HB12.out.trans (hb13.mono HB12.out.size))
        have s0 := Field.bkeep hb13 s0
        have s3 := Field.bkeep hb13 s3
        have y0 := Field.bkeep hb13 y0
        have n1 := Field.bkeep hb13 n1
        clear hfree hb13
        by_cases hc0 : cl = 0
        · subst hc0
          by_cases hq0 : qv = 0
          · subst hq0
            go_wp2_with fail
            go_roundw
            case rel => exact ⟨q + 1, by omega, by go_num, HB13⟩
            case measure => simp [intOf]; omega
          · have hqb : (qv == 0) = false := by simpa using hq0
            have hqc : (qv != 0) = true := by simpa using hq0
            go_wp2_with fail
            go_roundw
            case rel => exact ⟨q + 1, by omega, by go_num, HB13⟩
            case measure => simp [intOf]; omega
        · have hcb : (cl == 0) = false := by simpa using hc0
          have hcc : (cl != 0) = true := by simpa using hc0
          go_wp2_with fail
          go_roundw
          case rel => exact ⟨q + 1, by omega, by go_num, HB13⟩
          case measure => simp [intOf]; omega
      · have hcl0 : cl = 0 := by by_cases hh : cl = 0; exact hh; exact absurd ⟨rfl, .inr hh⟩ hA.1
        subst hcl0
        have hbr : br = false := by cases hh : br; rfl; exact absurd ⟨rfl, .inl hh⟩ hA.1
        subst hbr
        have hqv : qv = 0 := by by_cases hh : qv = 0; exact hh; exact absurd (.inl rfl) (hB2 rfl hh)
        subst hqv
        clear hA hB2 hB12
        go_wp2_with fail
        go_roundw
        case rel => exact ⟨q + 1, by omega, by go_num, HB12⟩
        case measure => simp [intOf]; omega
      · have hc2 : cl ≠ 2 := fun hh => hA.2.1 ⟨rfl, hh⟩
        have hc2b : (cl == 2) = false := by simpa using hc2
        clear hA hB2 hB12 hc2
        by_cases hc0 : cl = 0
        · subst hc0
          clear hc2b
          by_cases hq0 : qv = 0
          · subst hq0
            go_wp2_with fail
            go_roundw
            case rel => exact ⟨q + 1, by omega, by go_num, HB12⟩
            case measure => simp [intOf]; omega
          · have hqb : (qv == 0) = false := by simpa using hq0
            have hqc : (qv != 0) = true := by simpa using hq0
            go_wp2_with fail
            go_roundw
            case rel => exact ⟨q + 1, by omega, by go_num, HB12⟩
            case measure => simp [intOf]; omega
        · have hcb : (cl == 0) = false := by simpa using hc0
          have hcc : (cl != 0) = true := by simpa using hc0
          go_wp2_with fail
          go_roundw
          case rel => exact ⟨q + 1, by omega, by go_num, HB12⟩
          case measure => simp [intOf]; omega
      · clear hA hB12
        by_cases hc0 : cl = 0
        · subst hc0
          have hqv : qv = 0 := by by_cases hh : qv = 0; exact hh; exact absurd (.inr rfl) (hB2 rfl hh)
          subst hqv
          clear hB2
          go_wp2_with fail
          go_roundw
          case rel => exact ⟨q + 1, by omega, by go_num, HB12⟩
          case measure => simp [intOf]; omega
        · have hcb : (cl == 0) = false := by simpa using hc0
          have hcc : (cl != 0) = true := by simpa using hc0
          clear hB2
          go_wp2_with fail
          go_roundw
          case rel => exact ⟨q + 1, by omega, by go_num, HB12⟩
          case measure => simp [intOf]; omega
      · have b6 : (st == 6) = false := by simpa using h6
        have b2 : (st == 2) = false := by simpa using h2
        have b3 : (st == 3) = false := by simpa using h3
        have b0 : (st == 0) = false := by simpa using h0
        clear hA hB2 hB12
        by_cases hc0 : cl = 0
        · subst hc0
          by_cases hq0 : qv = 0
          · subst hq0
            go_wp2_with fail
            go_roundw
            case rel => exact ⟨q + 1, by omega, by go_num, HB12⟩
            case measure => simp [intOf]; omega
          · have hqb : (qv == 0) = false := by simpa using hq0
            have hqc : (qv != 0) = true := by simpa using hq0
            go_wp2_with fail
            go_roundw
            case rel => exact ⟨q + 1, by omega, by go_num, HB12⟩
            case measure => simp [intOf]; omega
        · have hcb : (cl == 0) = false := by simpa using hc0
          have hcc : (cl != 0) = true := by simpa using hc0
          go_wp2_with fail
          go_roundw
          case rel => exact ⟨q + 1, by omega, by go_num, HB12⟩
          case measure => simp [intOf]; omega
    · have hqe : q = Tk.ns c := by omega
      have k1 : ¬ (q : Int) < (Tk.ns c : Int) := by omega
      have f2 := Field.bkeep hB.out n2
      have f3 := Field.bkeep hB.out y2
      have f4 := Field.bkeep hB.out hpi0
      have i0 : (0 : Int) ≤ (i : Int) := by omega
      have i1 : (i : Int) < (c.workers.toNat : Int) := by have := HKW.out.1; omega
      have k2 : (2 : Int) < (Tk.sc c (Tk.ns c) : Int) := by omega
      have hge := HKW.out.2
      have hge2 : decide (e1 ≤ e2) = true := by simpa using hge
      have HBE := Lib.hid (HB11.out.trans ((hB.out.trans ((Below.refl _ _).drew.mono hB.out.size)).mono HB11.out.size))
      clear n1 n2 y0 y2 hpi0 hlt hqe hB
      go_wp2_with fail
      go_region
      go_wp2_with fail
      go_ret
      exact ⟨Base.ret_bool (by simp [hge]), HBE.out⟩
end Go.Proofs.YteadpgiffpfmnaaGreatDoor.Mod

namespace Go.Proofs.YteadpgiffpfmnaaGreatDoor.tidyLeaves
open Go.ChangeShapes Go.WideShapes Go.ChangeAt Go.RowKit
set_option linter.unusedVariables false
set_option linter.unusedSimpArgs false

theorem own : ownKnob Tryz.prog.godebug = none := by kernel_rfl
theorem laidOut : laidOutB Tryz.prog = true := by kernel_rfl

set_option maxRecDepth 100000 in
theorem lifted (os : Os) (started : os.Started) (H : Type) (enc : TypeId × Value → H) :
    ReturnsInHanded {} Tryz.checked os 3 .any (fun w args => (Rows.tidyLeavesSpec.pre enc Tryz.prog Tryz.f3 [] false w args ∧ laidMetH Tryz.prog Mod.lst w) ∧ sizedMet enc Tryz.prog Tryz.f3 (OpenSpec.ofChange Rows.tidyLeavesSpec) false w args) (Rows.tidyLeavesSpec.post enc Tryz.prog Tryz.f3 false true false false) := by
  refine returnsInHanded_of_change_and (C := Tryz.checked) (X := fun w _ => laidMetH Tryz.prog Mod.lst w) (fun _ _ _ hh h => h.of_heap hh) own started (by kernel_rfl) Tryz.func3
    (ChangeSpec.witness_shaped (enc := enc) (C := Tryz.checked) (os := os) (X := fun w _ => laidMetH Tryz.prog Mod.lst w) false (World.doorLaid Tryz.prog 23 os) #[.agg #[.int .u8 0, .int .u8 0, .int .u8 0, .int .u8 0, .int .u8 0, .slice none 0 0, .slice none 0 0, .slice none 0 0], .slice none 0 0, .int .u8 0] 8 rfl (World.shaped_of_RefB (by kernel_rfl) (by kernel_rfl)) (by kernel_rfl) (by kernel_rfl) (by kernel_rfl) (Mod.door_met os _)) ?_
  intro W base args ds gs before hval0 hW _ _ hL _
  have hval : ∀ (j : Nat) t v, Tryz.f3.params[j]? = some t → args[j]? = some v → Value.okWide Tryz.prog W .any base t v := hval0
  have hW' := hW
  obtain ⟨p, q, hA0, hV, rfl, hfz, hnd⟩ := hW
  have hA : DataW.TrodAll enc Tryz.prog W 0 (fun _ => true) true Tryz.f3.params.toList args.toList ds p := hA0
  rw [Tryz.params3] at hA hval
  obtain ⟨v0, vs0, d0, ds0, p0, q0, hargs, rfl, rfl, h0, r0⟩ := trodAll_cons hA
  obtain ⟨v1, vs1, d1, ds1, p1, q1, rfl, rfl, rfl, h1, r1⟩ := trodAll_cons r0
  obtain ⟨v2, vs2, d2, ds2, p2, q2, rfl, rfl, rfl, h2, r2⟩ := trodAll_cons r1
  obtain ⟨rfl, rfl, rfl⟩ := trodAll_nil r2
  obtain rfl : args = #[v0, v1, v2] := by cases args; simp_all
  obtain ⟨rfl, rfl⟩ := trodVars_none hV
  have k0 := h0
  have lt0 : ∀ x ∈ p0, x.block < W.heap.size := by obtain ⟨m, hm⟩ := k0; exact DataW.trod_lt m _ _ _ hm
  obtain ⟨g0, rfl, w0⟩ := Mod.open_gv (hval 0 27 v0 rfl rfl) h0
  have k1 := h1
  have lt1 : ∀ x ∈ p1, x.block < W.heap.size := by obtain ⟨m, hm⟩ := k1; exact DataW.trod_lt m _ _ _ hm
  obtain ⟨a1, len1, cap1, rfl⟩ := okWide_slice Tryz.underlying25 (hval 1 25 v1 rfl rfl)
  obtain ⟨b1, off1, l1, w1⟩ : ∃ b off l, Base.IntsAt .u8 W a1 len1 cap1 b off l := by
    obtain ⟨fuel, hf⟩ := h1
    rcases open_ints Tryz.underlying25 Tryz.underlying5 (by kernel_rfl) hf with ⟨hcs, _⟩ | ⟨x, l, c, zs, hcs, _, hl, hm, hz, _, hcell, hwz⟩
    · simp [Value.cells] at hcs
      obtain ⟨rfl, rfl, rfl⟩ := hcs
      exact ⟨0, 0, [], Base.intsAt_nil _ _⟩
    · simp [Value.cells] at hcs
      obtain ⟨rfl, rfl, rfl⟩ := hcs
      obtain ⟨b, off, h⟩ := Base.intsAt_some hl hm (by simpa using hz) hcell hwz
      exact ⟨b, off, _, h⟩
  obtain ⟨a2, rfl, rfl, rfl, w2⟩ := open_int Tryz.underlying5 (hval 2 5 v2 rfl rfl) h2
  have hLd := Mod.of_laid hL
  clear hA0 hval0
  refine (Mod.tidyLeaves_walk W hLd g0 w0 _ _ _ _ _ _ w1 _ (Mod.u8_bd w2)).mono fun e W' ⟨he, bel⟩ => ?_
  subst he
  exact ⟨_, rfl, _, _, _, [], _, [], hW', trodAll_mk1 (shut_bool Tryz.underlying4 _), (trodAll_cons_mk (Below.trod laidOut (by kernel_rfl) (of_decide_eq_true (by kernel_rfl)) k0 bel lt0) (trodAll_cons_mk (Below.trod laidOut (by kernel_rfl) (of_decide_eq_true (by kernel_rfl)) k1 bel lt1) (trodAll_cons_mk (shut_int Tryz.underlying5 w2) trodAll_mk0))), rfl, bel.frame _, fun h => by cases h⟩

theorem over : Rows.tidyLeavesRow.holds Tryz.pinned (OpenSpec.ofChange Rows.tidyLeavesSpec) :=
  OpenClaim.holds_of_wide 3 Tryz.f3 rfl rfl rfl rfl rfl rfl rfl ⟨rfl, rfl, rfl, rfl, rfl⟩ rfl rfl rfl rfl rfl (by kernel_rfl) Tryz.func3 (by kernel_rfl)
    (of_decide_eq_true (by kernel_rfl)) (by unfold Func.isWrapper; first | (rw [if_pos (by decide +kernel)]; kernel_rfl) | (rw [if_neg (by decide +kernel)]; exact ⟨rfl, rfl⟩))
    (fun os started H enc _ => lifted os started H enc)

theorem proved : Rows.TidyLeavesCardSaid :=
  Claim7.holds_tied_plain_at .later [] [.data] true (true, "cd55222638d17cc50f25ad6c8bf105d0d96fe0f485c41963596c810bfd790a53") false
    over (fun _ h => by cases h) (by kernel_rfl) (fun _ h => by cases h) tidyLeaves_row_tie rfl ⟨rfl, rfl⟩ (by kernel_rfl) rfl
    (fun f fn hf hfn => by
      obtain rfl : f = 3 := Option.some.inj ((show Tryz.prog.funcNamed "coachhouse/coachhouselaw20.TidyLeaves" = some 3 by kernel_rfl).symm.trans hf) |>.symm
      obtain rfl : fn = Tryz.f3 := (Option.some.inj (Tryz.func3.symm.trans hfn)).symm
      exact ⟨by kernel_rfl, fun j t ht => by
        rw [Tryz.params3] at ht
        have hm : t ∈ [27, 25, 5] := by simpa using Array.mem_of_getElem? ht
        have hall : ([27, 25, 5].all fun u => !Tryz.prog.wantsStandIn u) = true := by kernel_rfl
        exact (show Tryz.prog.wantsStandIn t = false by simpa using List.all_eq_true.1 hall t hm)⟩)
    (by kernel_rfl)
#print axioms proved
end Go.Proofs.YteadpgiffpfmnaaGreatDoor.tidyLeaves

