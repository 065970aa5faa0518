/- Part 10 of the walks and plain laws that the last text joins. -/
import Derived.Test.YteadpgiffpfmnaaGreatDoorQ9
set_option maxRecDepth 100000
set_option maxHeartbeats 16000000
set_option linter.unusedVariables false
set_option linter.unusedSimpArgs false
namespace Go.Proofs.YteadpgiffpfmnaaGreatDoor.Cl
open Go.RowKit Hp Slot RowL Life
def BytesIn (W : World) (a : Option Addr) (l : List Int) : Prop:=∀ (k : Nat) x, l[k]? = some x → (0 ≤ x ∧ x < 256) ∧ ∃ g o, a = some ⟨g, o, none⟩ ∧ W.cell? ⟨g, o + k, none⟩ = some (.int .u8 x)
def SlotsIn (W : World) (a : Option Addr) (l : List S) : Prop:=∀ (k : Nat) s, l[k]? = some s → ∃ g o, a = some ⟨g, o, none⟩ ∧ ∀ j v, s.cells[j]? = some v → W.cell? ⟨g, o + k * 9 + j, none⟩ = some v
theorem BytesIn.below {W W' : World} {a : Option Addr} {l : List Int} (h : BytesIn W a l) (hb : Below W.heap.size W W') : BytesIn W' a l:=by
 intro k x hx
 obtain ⟨h1, g, o, h2, h3⟩:=h k x hx
 exact ⟨h1, g, o, h2, Field.bkeep hb h3⟩
theorem SlotsIn.below {W W' : World} {a : Option Addr} {l : List S} (h : SlotsIn W a l) (hb : Below W.heap.size W W') : SlotsIn W' a l:=by
 intro k s hs
 obtain ⟨g, o, h2, h3⟩:=h k s hs
 exact ⟨g, o, h2, fun j v hv => Field.bkeep hb (h3 j v hv)⟩
structure Gv where
 b0 : Int
 b1 : Int
 b2 : Int
 b3 : Int
 b4 : Int
 sa : Option Addr
 sc : Nat
 ss : List S
 fa : Option Addr
 fc : Nat
 fs : List Int
 pa : Option Addr
 pc : Nat
 ps : List Int
def Gv.cells (g : Gv) : Array Value:=#[.int .u8 g.b0, .int .u8 g.b1, .int .u8 g.b2, .int .u8 g.b3, .int .u8 g.b4, .slice g.sa g.ss.length g.sc, .slice g.fa g.fs.length g.fc, .slice g.pa g.ps.length g.pc]
abbrev Gv.val (g : Gv) : Value:=.agg g.cells
structure GvAt (W : World) (g : Gv) : Prop where
 b0 : 0 ≤ g.b0 ∧ g.b0 < 256
 b1 : 0 ≤ g.b1 ∧ g.b1 < 256
 b2 : 0 ≤ g.b2 ∧ g.b2 < 256
 b3 : 0 ≤ g.b3 ∧ g.b3 < 256
 b4 : 0 ≤ g.b4 ∧ g.b4 < 256
 ss : SlotsIn W g.sa g.ss
 fs : BytesIn W g.fa g.fs
 ps : BytesIn W g.pa g.ps
theorem GvAt.below {W W' : World} {g : Gv} (h : GvAt W g) (hb : Below W.heap.size W W') : GvAt W' g:=⟨h.b0, h.b1, h.b2, h.b3, h.b4, h.ss.below hb, h.fs.below hb, h.ps.below hb⟩
structure PreOkB (B : Int) (c : Conf.Cf) (pre : List Int) : Prop where
 len : pre.length = 3 + 2 * c.workers.toNat
 closed : 0 ≤ pre.getD 0 0 ∧ pre.getD 0 0 ≤ 2
 line : pre.getD 1 0 = 0
 ep : 0 ≤ pre.getD 2 0 ∧ pre.getD 2 0 ≤ 255
 pin : ∀ j, 3 ≤ j → 0 ≤ pre.getD j 0 ∧ pre.getD j 0 ≤ B
 gr : ∀ j, 3 + c.workers.toNat ≤ j → pre.getD j 0 = 0
abbrev PreOk (c : Conf.Cf) (pre : List Int) : Prop:=PreOkB 255 c pre
theorem getD_rep (n j : Nat) : (List.replicate n (0 : Int)).getD j 0 = 0:=by
 rw [List.getD_eq_getElem?_getD, List.getElem?_replicate]
 split <;> rfl
theorem getD_set (l : List Int) (i j : Nat) (x : Int) : (l.set i x).getD j 0 = if i = j ∧ i < l.length then x else l.getD j 0:=by
 rw [List.getD_eq_getElem?_getD, List.getD_eq_getElem?_getD, List.getElem?_set]
 by_cases h : i = j
 ·subst h
  by_cases h2 : i < l.length
  ·simp [h2]
  ·simp [h2]
 ·simp [h]
theorem PreOkB.zero {B : Int} (hB : 0 ≤ B) (c : Conf.Cf) : PreOkB B c (List.replicate (3 + 2 * c.workers.toNat) 0):=by
 refine ⟨by simp, ?_, ?_, ?_, ?_, ?_⟩
 ·rw [getD_rep]; omega
 ·rw [getD_rep]
 ·rw [getD_rep]; omega
 ·intro j _; rw [getD_rep]; omega
 ·intro j _; rw [getD_rep]
theorem PreOkB.set0 {B : Int} {c : Conf.Cf} {pre : List Int} (h : PreOkB B c pre) {x : Int} (hx : 0 ≤ x ∧ x ≤ 2) : PreOkB B c (pre.set 0 x):=by
 refine ⟨by simpa using h.len, ?_, ?_, ?_, ?_, ?_⟩
 ·rw [getD_set]; split; exact hx; exact h.closed
 ·rw [getD_set, if_neg (by omega)]; exact h.line
 ·rw [getD_set, if_neg (by omega)]; exact h.ep
 ·intro j hj; rw [getD_set, if_neg (by omega)]; exact h.pin j hj
 ·intro j hj; rw [getD_set, if_neg (by omega)]; exact h.gr j hj
theorem PreOkB.set2 {B : Int} {c : Conf.Cf} {pre : List Int} (h : PreOkB B c pre) {x : Int} (hx : 0 ≤ x ∧ x ≤ 255) : PreOkB B c (pre.set 2 x):=by
 refine ⟨by simpa using h.len, ?_, ?_, ?_, ?_, ?_⟩
 ·rw [getD_set, if_neg (by omega)]; exact h.closed
 ·rw [getD_set, if_neg (by omega)]; exact h.line
 ·rw [getD_set]; split; exact hx; exact h.ep
 ·intro j hj; rw [getD_set, if_neg (by omega)]; exact h.pin j hj
 ·intro j hj; rw [getD_set, if_neg (by omega)]; exact h.gr j hj
theorem PreOkB.setPin {B : Int} {c : Conf.Cf} {pre : List Int} (h : PreOkB B c pre) {i : Nat} (hi : i < c.workers.toNat) {x : Int} (hx : 0 ≤ x ∧ x ≤ B) : PreOkB B c (pre.set (3 + i) x):=by
 refine ⟨by simpa using h.len, ?_, ?_, ?_, ?_, ?_⟩
 ·rw [getD_set, if_neg (by omega)]; exact h.closed
 ·rw [getD_set, if_neg (by omega)]; exact h.line
 ·rw [getD_set, if_neg (by omega)]; exact h.ep
 ·intro j hj; rw [getD_set]; split; exact hx; exact h.pin j hj
 ·intro j hj; rw [getD_set, if_neg (by omega)]; exact h.gr j hj
theorem PreOk.zero (c : Conf.Cf) : PreOk c (List.replicate (3 + 2 * c.workers.toNat) 0):=PreOkB.zero (by omega) c
theorem PreOkB.fin {B : Int} {c : Conf.Cf} {pre : List Int} {n : Nat} (h : PreOkB B c pre) (hB : 0 ≤ B ∧ B ≤ 255) (hz : n = 0 → B = 0) : PreOk c pre ∧ (n = 0 → ∀ j, 3 ≤ j → pre.getD j 0 = 0) :=
 ⟨⟨h.len, h.closed, h.line, h.ep, fun j hj => by have:=h.pin j hj; omega, h.gr⟩, fun h0 j hj => by have:=h.pin j hj; have:=hz h0; omega⟩
def docS (s : S) : S:=if s.right = true then s else S.zero
theorem docS_right (s : S) : (docS s).right = true:=by
 unfold docS
 split
 ·assumption
 ·exact zero_right
theorem docW_word (s : S) : docW s = (docS s).word:=by
 unfold docW docS
 split
 ·rfl
 ·exact zero_word.symm
theorem cells_zero (c : Conf.Cf) (n : Nat) (hn : n = Tk.sc c (Tk.ns c)) : List.replicate n (0 : Int) = Tk.cells (List.replicate (3 + 2 * c.workers.toNat) 0) (List.replicate (Tk.ns c) S.zero):=by
 unfold Tk.cells
 rw [List.map_replicate, zero_word, List.replicate_append_replicate, hn]
 rfl
theorem pool_zero (c : Conf.Cf) : Tk.Pool c (List.replicate (3 + 2 * c.workers.toNat) 0) (List.replicate (Tk.ns c) S.zero):=⟨by simp, by simp, fun s hs => by rw [(List.mem_replicate.1 hs).2]; exact zero_right⟩
theorem make_ints (n : Nat) (hn : n ≤ 4096) (w : World) : (Instr.makeSlice 31 (.i n) (.i n)).run Tryz.prog w = .ok (.slice (some ⟨w.heap.size, 0, none⟩) n n) (w.alloc (.cells (Array.replicate n (.i 0)) 3)):=by
 obtain ⟨i0, hi, hz0, hz1, hz2⟩:=Field.info_parts Field.int_info
 have h:=run_makeSlice (P:=Tryz.prog) (w:=w) 31 3 i0 (.i 0) Tryz.underlying31 hi hz0 .i64 .i64 n n (by omega) (by omega) (by rw [hz1]; simp; omega) (by rw [hz2]; omega) (by omega)
 rw [hz1] at h
 simp only [Int.toNat_natCast, Nat.mul_one] at h
 rw [h, ← made_rep]
 rfl
theorem st_intw {w : World} {g off : Nat} {z : Value} {b : Int} (hc : w.cell? ⟨g, off, none⟩ = some z) (hf : w.frozen? ⟨g, off, none⟩ = false) : (Instr.storeAt 3 (.pointer (some ⟨g, off, none⟩)) (.i b)).run Tryz.prog w = .ok () (w.setCell ⟨g, off, none⟩ (.i b)):=by
 go_simp
abbrev zero5 : Array Value:=(Ae 0 0 0 0 0)
structure MdAt (B : Int) (W : World) (c : Conf.Cf) (gcs : Array Value) (gb cb : Nat) (wr : World) (pr : List Int) (ss : List S) : Prop where
 w : WRow wr gb (Tk.cells pr ss)
 p : PreOkB B c pr
 l : Tk.Pool c pr ss
 b : Below W.heap.size W wr
 g : RowAt wr W.heap.size gcs 27
 r : RowAt wr (W.heap.size + 1) zero5 30
 cr : RowAt wr cb c.cells 30
 ng : W.heap.size + 1 < cb ∧ cb < gb
theorem MdAt.below {B : Int} {W : World} {c : Conf.Cf} {gcs : Array Value} {gb cb : Nat} {wr w' : World} {pr : List Int} {ss : List S} (h : MdAt B W c gcs gb cb wr pr ss) (hb : Below wr.heap.size wr w') : MdAt B W c gcs gb cb w' pr ss :=
 ⟨RowAt.below h.w hb, h.p, h.l, h.b.trans (hb.mono h.b.size), RowAt.below h.g hb, RowAt.below h.r hb, RowAt.below h.cr hb, h.ng⟩
theorem MdAt.put {B : Int} {W : World} {c : Conf.Cf} {gcs : Array Value} {gb cb : Nat} {wr : World} {pr pr' : List Int} {ss ss' : List S} (h : MdAt B W c gcs gb cb wr pr ss) (i : Nat) (x : Int) (hp : PreOkB B c pr') (hl : Tk.Pool c pr' ss') (he : (Tk.cells pr ss).set i x = Tk.cells pr' ss') : MdAt B W c gcs gb cb (wr.setCell ⟨gb, i, none⟩ (.i x)) pr' ss':=by
 have hn:=h.ng
 refine ⟨he ▸ h.w.set i x, hp, hl, h.b.setCell (p:=⟨gb, i, none⟩) (by show W.heap.size ≤ gb; omega) _, Life.setOther (p:=⟨gb, i, none⟩) h.g _ (by show W.heap.size ≠ gb; omega), Life.setOther (p:=⟨gb, i, none⟩) h.r _ (by show W.heap.size + 1 ≠ gb; omega), Life.setOther (p:=⟨gb, i, none⟩) h.cr _ (by show cb ≠ gb; omega), hn⟩
def MadePost (W : World) (c : Conf.Cf) (e : Ending) (W' : World) : Prop :=
 ∃ g pre ss, e = .returned (.tuple #[c.val, .slice (some ⟨g, 0, none⟩) (Tk.cells pre ss).length (Tk.cells pre ss).length]) ∧ WRow W' g (Tk.cells pre ss) ∧ Tk.Pool c pre ss ∧ PreOk c pre ∧ W.heap.size ≤ g ∧ Below W.heap.size W W'
def MadePostB (W : World) (c : Conf.Cf) (n : Nat) (e : Ending) (W' : World) : Prop :=
 ∃ g pre ss, e = .returned (.tuple #[c.val, .slice (some ⟨g, 0, none⟩) (Tk.cells pre ss).length (Tk.cells pre ss).length]) ∧ WRow W' g (Tk.cells pre ss) ∧ Tk.Pool c pre ss ∧ PreOk c pre ∧ W.heap.size ≤ g ∧ Below W.heap.size W W' ∧ (n = 0 → ∀ j, 3 ≤ j → pre.getD j 0 = 0)
theorem made_pins (W : World) (g : Gv) (h : GvAt W g) : Calls Tryz.prog 32 #[g.val] W (MadePostB W (confOf g.b0 g.b1 g.b2 g.b3 g.b4) g.ps.length):=by
 obtain ⟨B, hBB⟩ : ∃ B : Int, (0 ≤ B ∧ B ≤ 255) ∧ (0 < g.ps.length → B = 255) ∧ (g.ps.length = 0 → B = 0):=by
  by_cases h0 : g.ps.length = 0
  ·exact ⟨0, by omega, fun h => by omega, fun _ => rfl⟩
  ·exact ⟨255, by omega, fun _ => rfl, fun h => absurd h h0⟩
 have HBB:=Lib.hid hBB
 clear hBB
 have hcf:=fun w => conf_any w g.b0 g.b1 g.b2 g.b3 g.b4 h.b0 h.b1 h.b2 h.b3 h.b4
 have hcr:=confOf_right g.b0 g.b1 g.b2 g.b3 g.b4
 generalize confOf g.b0 g.b1 g.b2 g.b3 g.b4 = c at *
 obtain ⟨⟨a0, a1⟩, b0, b1⟩:=right_small hcr
 have hce:=fun w => ref_cells_any w c ⟨by omega, a1⟩ ⟨b0, by omega⟩
 have hn : 3 + 2 * c.workers + c.slots = ((Tk.sc c (Tk.ns c) : Nat) : Int):=by unfold Tk.sc Tk.ns; omega
 simp only [hn] at hce
 have hcz:=cells_zero c _ rfl
 have hN : 6 ≤ Tk.sc c (Tk.ns c) ∧ Tk.sc c (Tk.ns c) ≤ 4096:=by unfold Tk.sc Tk.ns; omega
 have hmk:=make_ints (Tk.sc c (Tk.ns c)) (by omega)
 generalize Tk.sc c (Tk.ns c) = n at *
 have hA : Below W.heap.size W (W.alloc (.cells g.cells 27)):=(Below.refl _ _).alloc (Nat.le_refl _) _
 have hg : RowAt (W.alloc (.cells g.cells 27)) W.heap.size g.cells 27:=heap_alloc_new W _
 have H:=Lib.hid h
 clear h
 have hB2 : Below W.heap.size W ((W.alloc (.cells g.cells 27)).alloc (.cells (Ae 0 0 0 0 0) 30)):=hA.alloc hA.size _
 have hg2:=RowAt.below hg ((Below.refl _ _).alloc (Nat.le_refl _) (.cells (Ae 0 0 0 0 0) 30))
 have hr2 : RowAt ((W.alloc (.cells g.cells 27)).alloc (.cells (Ae 0 0 0 0 0) 30)) (W.heap.size + 1) (Ae 0 0 0 0 0) 30:=by
  have h:=heap_alloc_new (W.alloc (.cells g.cells 27)) (.cells (Ae 0 0 0 0 0) 30)
  simpa [RowAt] using h
 clear hA hg
 go_enter Tryz.func32, Tryz.ntmps32
 simp only [Gv.cells] at hg2
 go_upto_region 1 with (fail)
 simp only [Gv.cells] at *
 generalize ((W.alloc (.cells #[.int .u8 g.b0, .int .u8 g.b1, .int .u8 g.b2, .int .u8 g.b3, .int .u8 g.b4, .slice g.sa g.ss.length g.sc, .slice g.fa g.fs.length g.fc, .slice g.pa g.ps.length g.pc] 27)).alloc (.cells (Ae 0 0 0 0 0) 30)) = wa at *
 have k0 : wa.cell? ⟨W.heap.size, 0, none⟩ = some (.int .u8 g.b0):=RowAt.cell hg2 0
 have k1 : wa.cell? ⟨W.heap.size, 1, none⟩ = some (.int .u8 g.b1):=RowAt.cell hg2 1
 have k2 : wa.cell? ⟨W.heap.size, 2, none⟩ = some (.int .u8 g.b2):=RowAt.cell hg2 2
 have k3 : wa.cell? ⟨W.heap.size, 3, none⟩ = some (.int .u8 g.b3):=RowAt.cell hg2 3
 have k4 : wa.cell? ⟨W.heap.size, 4, none⟩ = some (.int .u8 g.b4):=RowAt.cell hg2 4
 go_wp2_with fail
 refine (hcf _).mono ?_
 rintro e w1 ⟨rfl, hb1⟩
 have hB1:=hB2.trans (hb1.mono hB2.size)
 have hg1:=RowAt.below hg2 hb1
 have hr1:=RowAt.below hr2 hb1
 clear hcf hb1 hg2 hr2 hB2 k0 k1 k2 k3 k4
 dsimp only
 go_step
 refine gbox (ob:=.cells (Ae 0 0 0 0 0) 30) (Z:=(Ae 0 0 0 0 0)) (cs:=c.cells) (t:=30) 30 (.tmp 4) (.tmp 10) rfl ?_
 rw [setRow_new]
 have hs1:=RowAt.lt hr1
 have hB2 : Below W.heap.size W (w1.alloc (.cells c.cells 30)):=hB1.alloc hB1.size _
 have hg2:=RowAt.below hg1 ((Below.refl _ _).alloc (Nat.le_refl _) (.cells c.cells 30))
 have hr2:=RowAt.below hr1 ((Below.refl _ _).alloc (Nat.le_refl _) (.cells c.cells 30))
 have hc2 : RowAt (w1.alloc (.cells c.cells 30)) w1.heap.size c.cells 30:=heap_alloc_new w1 _
 clear hB1 hg1 hr1
 generalize (w1.alloc (.cells c.cells 30)) = w2 at *
 generalize w1.heap.size = cb at *
 try simp only [Act.put, sA, sZ, sS]
 go_upto_region 2 with (fail)
 refine wp_region_lit ?_
 refine grow hc2 30 (.tmp 4) Tryz.underlying30 ?_
 try simp only [Act.put, sA, sZ, sS]
 refine gcall 38 #[.tmp 11] #[30] #[c.val] (enters_of Tryz.func38 (by kernel_rfl) rfl) ?_
 refine (hce _).mono ?_
 rintro e w3 ⟨rfl, hb3⟩
 refine ⟨_, rfl, ?_⟩
 have hB3:=hB2.trans (hb3.mono hB2.size)
 have hg3:=RowAt.below hg2 hb3
 have hr3:=RowAt.below hr2 hb3
 have hc3:=RowAt.below hc2 hb3
 clear hce hb3 hg2 hr2 hc2 hB2
 dsimp only
 go_upto_region 3 with (fail)
 have hw0 : WRow (w3.alloc (.cells (Array.replicate n (.i 0)) 3)) w3.heap.size (List.replicate n 0):=by
  unfold WRow
  rw [← made_ints, made_rep]
  exact RowAt.new w3 _ _
 rw [hcz] at hw0
 have hs3:=hB3.size
 have hB4 : Below W.heap.size W (w3.alloc (.cells (Array.replicate n (.i 0)) 3)):=hB3.alloc hs3 _
 have hg4:=RowAt.below hg3 ((Below.refl _ _).alloc (Nat.le_refl _) (.cells (Array.replicate n (.i 0)) 3))
 have hc4:=RowAt.below hc3 ((Below.refl _ _).alloc (Nat.le_refl _) (.cells (Array.replicate n (.i 0)) 3))
 have hr4:=RowAt.below hr3 ((Below.refl _ _).alloc (Nat.le_refl _) (.cells (Array.replicate n (.i 0)) 3))
 have hcl:=RowAt.lt hc3
 clear hB3 hg3 hr3 hc3
 generalize (w3.alloc (.cells (Array.replicate n (.i 0)) 3)) = w4 at *
 generalize w3.heap.size = gb at *
 have hnn : (Tk.cells (List.replicate (3 + 2 * c.workers.toNat) 0) (List.replicate (Tk.ns c) S.zero)).length = n:=by rw [← hcz]; simp
 have M4 : MdAt B W c _ gb cb w4 _ _:=⟨hw0, PreOkB.zero HBB.out.1.1 c, pool_zero c, hB4, hg4, hr4, hc4, ⟨hs1, hcl⟩⟩
 generalize hzz : List.replicate (Tk.ns c) S.zero = zs at *
 generalize hpz : List.replicate (3 + 2 * c.workers.toNat) (0 : Int) = pz at *
 have hzl : zs.length = Tk.ns c:=by rw [← hzz]; simp
 clear hcz hmk hzz hpz hw0 hB4 hg4 hr4 hc4
 have g6 : w4.cell? ⟨W.heap.size, 6, none⟩ = some (.slice g.fa g.fs.length g.fc):=RowAt.cell M4.g 6
 have FS:=H.out.fs
 have PS:=H.out.ps
 have SS:=H.out.ss
 clear H
 obtain ⟨b0', b1', b2', b3', b4', sa, sc, ss, fa, fc, fs, pa, pc, ps⟩:=g
 dsimp only at *
 obtain ⟨cw, hcw⟩ : ∃ cw : Nat, c.workers = cw:=⟨c.workers.toNat, by omega⟩
 obtain ⟨cs, hcs⟩ : ∃ cs : Nat, c.slots = cs:=⟨c.slots.toNat, by omega⟩
 have htn : c.workers.toNat = cw:=by omega
 have hns : Tk.ns c = cs:=by unfold Tk.ns; omega
 have hgb : W.heap.size < gb:=by omega
 obtain ⟨v0, q0⟩ : ∃ v, w4.cell? ⟨gb, 0, none⟩ = some (.i v):=⟨_, M4.w.get (List.getElem?_eq_getElem (by omega))⟩
 obtain ⟨v2, q2⟩ : ∃ v, w4.cell? ⟨gb, 2, none⟩ = some (.i v):=⟨_, M4.w.get (List.getElem?_eq_getElem (by omega))⟩
 have z0 : w4.frozen? ⟨gb, 0, none⟩ = false:=RowAt.frozen M4.w 0
 have z2 : w4.frozen? ⟨gb, 2, none⟩ = false:=RowAt.frozen M4.w 2
 have M4:=Lib.hid M4
 go_upto_if 17 with (fail)
 go_cut [17] from 14 to 32 (fun s wx => ∃ pre, MdAt B W c #[.int .u8 b0', .int .u8 b1', .int .u8 b2', .int .u8 b3', .int .u8 b4', .slice sa ss.length sc, .slice fa fs.length fc, .slice pa ps.length pc] gb cb wx pre zs)
 case first =>
  by_cases hf2 : fs.length = 2
  ·obtain ⟨x, y, rfl⟩ : ∃ x y, fs = [x, y]:=by
    match fs, hf2 with
    | [x, y], _ => exact ⟨x, y, rfl⟩
   obtain ⟨bx, fg, fo, rfl, ex⟩:=FS 0 x rfl
   obtain ⟨by', fg', fo', e', ey⟩:=FS 1 y rfl
   cases e'
   have hfg : fg < W.heap.size:=World.block_lt_of_cell? _ _ ex
   have x4 : w4.cell? ⟨fg, fo, none⟩ = some (.int .u8 x):=Field.bkeep M4.out.b ex
   have y4 : w4.cell? ⟨fg, fo + 1, none⟩ = some (.int .u8 y):=Field.bkeep M4.out.b ey
   have fne : fg ≠ gb:=by omega
   have m5:=(M4.out.put 0 (x % 3) (M4.out.p.set0 (x:=x % 3) (by omega)) (M4.out.l.setPre 0 _) (Tk.set_pre M4.out.l (i:=0) (by omega) _)).put 2 y ((M4.out.p.set0 (x:=x % 3) (by omega)).set2 (x:=y) (by omega)) ((M4.out.l.setPre 0 _).setPre 2 _) (Tk.set_pre (M4.out.l.setPre 0 _) (i:=2) (by omega) _)
   have M5:=Lib.hid m5
   clear hf2 ex ey m5
   go_wp2_with fail
   go_meet
   case rel => exact ⟨_, M5.out⟩
  ·have hf3 : ((fs.length : Int) == 2) = false:=by rw [beq_eq_false_iff_ne]; omega
   clear hf2
   go_wp2_with fail
   go_meet
   case rel => exact ⟨_, M4.out⟩
 case rest =>
  obtain ⟨pre, m5⟩:=hcut
  generalize wc = w5 at *
  have M5:=Lib.hid m5
  have HZ:=Lib.hid hzl
  clear m5 M4 FS q0 q2 z0 z2 g6 hnn hzl
  go_wp2_with fail
  go_loopw [6] (fun i wr => ∃ (k : Nat) (pr : List Int), k ≤ cw ∧ i = .i k ∧ RowKit.Hid (MdAt B W c #[.int .u8 b0', .int .u8 b1', .int .u8 b2', .int .u8 b3', .int .u8 b4', .slice sa ss.length sc, .slice fa fs.length fc, .slice pa ps.length pc] gb cb wr pr zs)) (fun i _ => cw - (intOf i).toNat)
  case atStart => exact ⟨0, pre, by omega, rfl, M5⟩
  case round =>
   obtain ⟨k, pr, hk, rfl, m⟩:=hrel
   clear M5
   have c0:=RowAt.cell m.out.cr 0
   have g7:=RowAt.cell m.out.g 7
   simp only [Conf.Cf.cells, hcw] at c0
   simp at c0 g7
   go_upto_region 7 with (fail)
   go_cut [43] from 33 to 56 (fun s wx => s = .bool (decide (k < cw ∧ k < ps.length)) ∧ wr = wx)
   case first =>
    by_cases h1 : k < cw
    ·have i1 : (k : Int) < cw:=by omega
     by_cases h2 : k < ps.length
     ·have i2 : (k : Int) < ps.length:=by omega
      go_wp2_with fail
      go_meet
      case rel => exact ⟨by rw [decide_eq_true ⟨h1, h2⟩], rfl⟩
     ·have i2 : ¬ (k : Int) < ps.length:=by omega
      go_wp2_with fail
      go_meet
      case rel => exact ⟨by rw [decide_eq_false (fun h => h2 h.2)], rfl⟩
    ·have i1 : ¬ (k : Int) < cw:=by omega
     go_wp2_with fail
     go_meet
     case rel => exact ⟨by rw [decide_eq_false (fun h => h1 h.1)], rfl⟩
   case rest =>
    obtain ⟨rfl, rfl⟩:=hcut
    by_cases hgo : k < cw ∧ k < ps.length
    ·rw [decide_eq_true hgo]
     obtain ⟨h1, h2⟩:=hgo
     have i1 : (k : Int) < cw:=by omega
     have i2 : (k : Int) < ps.length:=by omega
     obtain ⟨x, hx⟩ : ∃ x, ps[k]? = some x:=⟨_, List.getElem?_eq_getElem h2⟩
     obtain ⟨bx, pg, po, rfl, ex⟩:=PS k x hx
     have hpg : pg < W.heap.size:=World.block_lt_of_cell? _ _ ex
     have hpne : pg ≠ gb:=by omega
     have ex:=Field.bkeep m.out.b ex
     have hpi:=fun w => ref_pin_any w c k ⟨by omega, a1⟩
     obtain ⟨j, hj⟩ : ∃ j, j = 3 + k:=⟨_, rfl⟩
     rw [← hj] at hpi
     have m6 : ∀ w', Below wr.heap.size wr w' → MdAt B W c _ gb cb w' pr zs:=fun w' h => m.out.below h
     have M6:=Lib.hid m6
     have CR:=m.out.cr
     have i3 : (j : Int) < n:=by omega
     have i4 : (0 : Int) ≤ (j : Int):=by omega
     have hx1 : wrap64 x = x:=by unfold wrap64; omega
     have hx2 : IntKind.i64.wrap x = x:=by rw [IntKind.wrap_i64]; omega
     have hlp : (Tk.cells pr zs).length = n:=by unfold Tk.cells; have:=m.out.l.pl; have:=m.out.l.sl; simp; omega
     have HLP:=Lib.hid hlp
     have HJ:=Lib.hid hj
     clear m m6 hlp PS hx hj
     go_upto_region 9 with (fail)
     refine wp_region_held_drew (S:=fun w' => RowAt w' cb c.cells 30 ∧ w'.cell? ⟨W.heap.size, 7, none⟩ = some (.slice (some ⟨pg, po, none⟩) ps.length pc) ∧ w'.cell? ⟨pg, po + k, none⟩ = some (.int .u8 x)) (by kernel_rfl) (by exact ⟨CR, g7, ex⟩) (fun hHeld => ?_)
     refine tKg 0 46 hHeld ?_
     try simp only [Act.put, sA, sZ, sS]
     refine tKg 2 48 hHeld ?_
     try simp only [Act.put, sA, sZ, sS]
     refine tKg 4 50 hHeld ?_
     try simp only [Act.put, sA, sZ, sS]
     refine tKg 5 51 hHeld ?_
     try simp only [Act.put, sA, sZ, sS]
     refine tKg 6 52 hHeld ?_
     try simp only [Act.put, sA, sZ, sS]
     refine tKg 7 53 hHeld ?_
     try simp only [Act.put, sA, sZ, sS]
     refine tKg 8 54 hHeld ?_
     try simp only [Act.put, sA, sZ, sS]
     refine tKg (v:=.i x) 9 55 hHeld ?_
     try simp only [Act.put, sA, sZ, sS]
     refine rRow 1 47 hHeld.1 30 (.tmp 4) Tryz.underlying30 hHeld ?_
     try simp only [Act.put, sA, sZ, sS]
     refine rKc (i:=3) 21 #[.tmp 47, .tmp 48] #[30, 3] (some 49) none #[c.val, .i k] (enters_of Tryz.func21 (by kernel_rfl) rfl) ?_
     refine (hpi _).mono ?_
     rintro e w7 ⟨rfl, hb7⟩
     have hb7:=(Below.refl wr.heap.size wr).drew.trans hb7
     have m7:=M6.out w7 hb7
     have HX7:=Field.bkeep hb7 ex
     have HG7:=Field.bkeep hb7 g7
     refine ⟨_, rfl, ⟨m7.cr, HG7, HX7⟩, fun hHeld => ?_⟩
     try simp only [Act.put, sA, sZ, sS]
     refine tKg 10 56 hHeld ?_
     try simp only [Act.put, sA, sZ, sS]
     obtain ⟨v7, hv7⟩ : ∃ v, w7.cell? ⟨gb, j, none⟩ = some (.i v):=⟨_, m7.w.get (List.getElem?_eq_getElem (by have:=HJ.out; rw [HLP.out]; omega))⟩
     have hz7 : w7.frozen? ⟨gb, j, none⟩ = false:=RowAt.frozen m7.w j
     have m8:=m7.put j x (HJ.out ▸ m7.p.setPin (i:=k) (by omega) (x:=x) (by have:=HBB.out.2.1 (by omega); omega)) (m7.l.setPre j x) (Tk.set_pre m7.l (i:=j) (by have:=HJ.out; omega) _)
     have hS8:=And.intro m8.cr (And.intro (RowAt.cell m8.g 7) ((World.cell?_setCell_far w7 ⟨gb, j, none⟩ ⟨pg, po + k, none⟩ (.i x) (fun e => hpne e.symm)).trans HX7))
     refine ready1 (i:=11) (by kernel_rfl) (step_store_cell 3 (.tmp 56) (.tmp 55) (by kernel_rfl) gb j (.i x) (by kernel_rfl) (by kernel_rfl) (fun _ => st_intw hv7 hz7) hS8 (fun _ => ?_))
     try simp only [Act.put, sA, sZ, sS]
     refine wpAnyH_done (by kernel_rfl) ?_ _
     have M8:=Lib.hid m8
     clear m8 m7 hS8 hHeld hb7 hv7 hz7 HX7 HG7 CR g7 ex
     go_wp2_with fail
     go_roundw
     case rel => exact ⟨k + 1, pr.set j x, by omega, by go_num, M8⟩
     case measure => simp [intOf]; omega
    ·rw [decide_eq_false hgo]
     clear hgo
     go_upto_region 10 with (fail)
     clear c0 g7 hk
     have MM:=Lib.hid m.out
     clear m PS
     go_wp2_with fail
     go_loopw [7] (fun i wr => ∃ (k : Nat) (xs : List S), k ≤ cs ∧ i = .i k ∧ RowKit.Hid (MdAt B W c #[.int .u8 b0', .int .u8 b1', .int .u8 b2', .int .u8 b3', .int .u8 b4', .slice sa ss.length sc, .slice fa fs.length fc, .slice pa ps.length pc] gb cb wr pr xs)) (fun i _ => cs - (intOf i).toNat)
     case atStart => exact ⟨0, zs, by omega, rfl, MM⟩
     case round =>
      obtain ⟨k, xs, hk, rfl, m⟩:=hrel
      clear MM
      have c1:=RowAt.cell m.out.cr 1
      have g5:=RowAt.cell m.out.g 5
      simp only [Conf.Cf.cells, hcs] at c1
      simp at c1 g5
      go_upto_region 11 with (fail)
      go_cut [67] from 57 to 80 (fun s wx => s = .bool (decide (k < cs ∧ k < ss.length)) ∧ wr = wx)
      case first =>
       by_cases h3 : k < cs
       ·have i5 : (k : Int) < cs:=by omega
        by_cases h4 : k < ss.length
        ·have i6 : (k : Int) < ss.length:=by omega
         go_wp2_with fail
         go_meet
         case rel => exact ⟨by rw [decide_eq_true ⟨h3, h4⟩], rfl⟩
        ·have i6 : ¬ (k : Int) < ss.length:=by omega
         go_wp2_with fail
         go_meet
         case rel => exact ⟨by rw [decide_eq_false (fun h => h4 h.2)], rfl⟩
       ·have i5 : ¬ (k : Int) < cs:=by omega
        go_wp2_with fail
        go_meet
        case rel => exact ⟨by rw [decide_eq_false (fun h => h3 h.1)], rfl⟩
      case rest =>
       obtain ⟨rfl, rfl⟩:=hcut
       by_cases hgo : k < cs ∧ k < ss.length
       ·rw [decide_eq_true hgo]
        obtain ⟨h3, h4⟩:=hgo
        have i5 : (k : Int) < cs:=by omega
        have i6 : (k : Int) < ss.length:=by omega
        obtain ⟨s, hx⟩ : ∃ s, ss[k]? = some s:=⟨_, List.getElem?_eq_getElem h4⟩
        obtain ⟨sg, so, rfl, ex⟩:=SS k s hx
        have hwd:=fun w => ref_word_any w s
        rw [docW_word] at hwd
        have hdr:=docS_right s
        generalize docS s = d at *
        obtain ⟨st, ow, sm, br, ma, us, ge, ep, ve⟩:=s
        have e0:=ex 0 _ rfl
        have e1:=ex 1 _ rfl
        have e2:=ex 2 _ rfl
        have e3:=ex 3 _ rfl
        have e4:=ex 4 _ rfl
        have e5:=ex 5 _ rfl
        have e6:=ex 6 _ rfl
        have e7:=ex 7 _ rfl
        have e8:=ex 8 _ rfl
        have hsg : sg < W.heap.size:=World.block_lt_of_cell? _ _ e0
        have hsne : sg ≠ gb:=by omega
        replace e0:=Field.bkeep m.out.b e0
        replace e1:=Field.bkeep m.out.b e1
        replace e2:=Field.bkeep m.out.b e2
        replace e3:=Field.bkeep m.out.b e3
        replace e4:=Field.bkeep m.out.b e4
        replace e5:=Field.bkeep m.out.b e5
        replace e6:=Field.bkeep m.out.b e6
        replace e7:=Field.bkeep m.out.b e7
        replace e8:=Field.bkeep m.out.b e8
        simp only [S.val, S.cells, Nat.add_zero] at hwd e0 e1 e2 e3 e4 e5 e6 e7 e8
        have hsl:=fun w => ref_slot_any w c k ⟨by omega, a1⟩ ⟨by omega, by omega⟩
        obtain ⟨j, hj⟩ : ∃ j, j = Tk.sc c k:=⟨_, rfl⟩
        have hjc : 3 + 2 * c.workers + (k : Int) = (j : Int):=by rw [hj]; unfold Tk.sc; omega
        simp only [hjc] at hsl
        have m6 : ∀ w', Below wr.heap.size wr w' → MdAt B W c _ gb cb w' pr xs:=fun w' h => m.out.below h
        have M6:=Lib.hid m6
        have CR:=m.out.cr
        have i7 : (j : Int) < n:=by omega
        have i8 : (0 : Int) ≤ (j : Int):=by omega
        have hlp : (Tk.cells pr xs).length = n:=by unfold Tk.cells; have:=m.out.l.pl; have:=m.out.l.sl; simp; omega
        have HLP:=Lib.hid hlp
        have HJ:=Lib.hid hj
        have HD:=Lib.hid hdr
        clear m m6 hlp SS hx hj hjc ex hdr
        go_upto_region 13 with (fail)
        refine wp_region_held_drew (S:=fun w' => RowAt w' cb c.cells 30 ∧ w'.cell? ⟨W.heap.size, 5, none⟩ = some (.slice (some ⟨sg, so, none⟩) ss.length sc) ∧ w'.cell? ⟨sg, so + k * 9, none⟩ = some (.i st) ∧ w'.cell? ⟨sg, so + k * 9 + 1, none⟩ = some (.i ow) ∧ w'.cell? ⟨sg, so + k * 9 + 2, none⟩ = some (.i sm) ∧ w'.cell? ⟨sg, so + k * 9 + 3, none⟩ = some (.bool br) ∧ w'.cell? ⟨sg, so + k * 9 + 4, none⟩ = some (.bool ma) ∧ w'.cell? ⟨sg, so + k * 9 + 5, none⟩ = some (.i us) ∧ w'.cell? ⟨sg, so + k * 9 + 6, none⟩ = some (.i ge) ∧ w'.cell? ⟨sg, so + k * 9 + 7, none⟩ = some (.i ep) ∧ w'.cell? ⟨sg, so + k * 9 + 8, none⟩ = some (.i ve)) (by kernel_rfl) (by exact ⟨CR, g5, e0, e1, e2, e3, e4, e5, e6, e7, e8⟩) (fun hHeld => ?_)
        refine tKg 0 70 hHeld ?_
        try simp only [Act.put, sA, sZ, sS]
        refine tKg 2 72 hHeld ?_
        try simp only [Act.put, sA, sZ, sS]
        refine tKg 4 74 hHeld ?_
        try simp only [Act.put, sA, sZ, sS]
        refine tKg 5 75 hHeld ?_
        try simp only [Act.put, sA, sZ, sS]
        refine tKg 6 76 hHeld ?_
        try simp only [Act.put, sA, sZ, sS]
        refine tKg 7 77 hHeld ?_
        try simp only [Act.put, sA, sZ, sS]
        refine tKg 8 78 hHeld ?_
        try simp only [Act.put, sA, sZ, sS]
        refine rRow 1 71 hHeld.1 30 (.tmp 4) Tryz.underlying30 hHeld ?_
        try simp only [Act.put, sA, sZ, sS]
        have fin : ∀ w7 w8, Below wr.heap.size wr w7 → Below w7.heap.size w7 w8 → MdAt B W c _ gb cb w8 pr xs:=fun w7 w8 h h2 => M6.out w8 (h.trans (h2.mono h.size))
        have keep : ∀ w', Below wr.heap.size wr w' → (RowAt w' cb c.cells 30 ∧ w'.cell? ⟨W.heap.size, 5, none⟩ = some (.slice (some ⟨sg, so, none⟩) ss.length sc) ∧ w'.cell? ⟨sg, so + k * 9, none⟩ = some (.i st) ∧ w'.cell? ⟨sg, so + k * 9 + 1, none⟩ = some (.i ow) ∧ w'.cell? ⟨sg, so + k * 9 + 2, none⟩ = some (.i sm) ∧ w'.cell? ⟨sg, so + k * 9 + 3, none⟩ = some (.bool br) ∧ w'.cell? ⟨sg, so + k * 9 + 4, none⟩ = some (.bool ma) ∧ w'.cell? ⟨sg, so + k * 9 + 5, none⟩ = some (.i us) ∧ w'.cell? ⟨sg, so + k * 9 + 6, none⟩ = some (.i ge) ∧ w'.cell? ⟨sg, so + k * 9 + 7, none⟩ = some (.i ep) ∧ w'.cell? ⟨sg, so + k * 9 + 8, none⟩ = some (.i ve)):=fun w' h => ⟨(M6.out w' h).cr, Field.bkeep h g5, Field.bkeep h e0, Field.bkeep h e1, Field.bkeep h e2, Field.bkeep h e3, Field.bkeep h e4, Field.bkeep h e5, Field.bkeep h e6, Field.bkeep h e7, Field.bkeep h e8⟩
        refine rKc (i:=3) 20 #[.tmp 71, .tmp 72] #[30, 3] (some 73) none #[c.val, .i k] (enters_of Tryz.func20 (by kernel_rfl) rfl) ?_
        refine (hsl _).mono ?_
        rintro e w7 ⟨rfl, hb7⟩
        have hb7:=(Below.refl wr.heap.size wr).drew.trans hb7
        refine ⟨_, rfl, keep _ hb7, fun hHeld => ?_⟩
        try simp only [Act.put, sA, sZ, sS]
        refine rKc (i:=9) 53 #[.tmp 78] #[41] (some 79) none #[S.val ⟨st, ow, sm, br, ma, us, ge, ep, ve⟩] (enters_of Tryz.func53 (by kernel_rfl) rfl) ?_
        refine (hwd _).mono ?_
        rintro e w8 ⟨rfl, hb8⟩
        have hb8:=hb7.trans (hb8.mono hb7.size)
        refine ⟨_, rfl, keep _ hb8, fun hHeld => ?_⟩
        try simp only [Act.put, sA, sZ, sS]
        refine tKg 10 80 hHeld ?_
        try simp only [Act.put, sA, sZ, sS]
        have m7:=M6.out w8 hb8
        obtain ⟨v7, hv7⟩ : ∃ v, w8.cell? ⟨gb, j, none⟩ = some (.i v):=⟨_, m7.w.get (List.getElem?_eq_getElem (by rw [HLP.out]; omega))⟩
        have hz7 : w8.frozen? ⟨gb, j, none⟩ = false:=RowAt.frozen m7.w j
        have m8:=m7.put j d.word m7.p (m7.l.set HD.out) (by rw [HJ.out]; exact Tk.set_slot m7.l d)
        have far : ∀ o, (w8.setCell ⟨gb, j, none⟩ (.i d.word)).cell? ⟨sg, o, none⟩ = w8.cell? ⟨sg, o, none⟩:=fun o => World.cell?_setCell_far w8 ⟨gb, j, none⟩ ⟨sg, o, none⟩ _ (fun e => hsne e.symm)
        have hk9 : (w8.setCell ⟨gb, j, none⟩ (.i d.word)).cell? ⟨sg, so + k * 9, none⟩ = some (.i st) ∧ (w8.setCell ⟨gb, j, none⟩ (.i d.word)).cell? ⟨sg, so + k * 9 + 1, none⟩ = some (.i ow) ∧ (w8.setCell ⟨gb, j, none⟩ (.i d.word)).cell? ⟨sg, so + k * 9 + 2, none⟩ = some (.i sm) ∧ (w8.setCell ⟨gb, j, none⟩ (.i d.word)).cell? ⟨sg, so + k * 9 + 3, none⟩ = some (.bool br) ∧ (w8.setCell ⟨gb, j, none⟩ (.i d.word)).cell? ⟨sg, so + k * 9 + 4, none⟩ = some (.bool ma) ∧ (w8.setCell ⟨gb, j, none⟩ (.i d.word)).cell? ⟨sg, so + k * 9 + 5, none⟩ = some (.i us) ∧ (w8.setCell ⟨gb, j, none⟩ (.i d.word)).cell? ⟨sg, so + k * 9 + 6, none⟩ = some (.i ge) ∧ (w8.setCell ⟨gb, j, none⟩ (.i d.word)).cell? ⟨sg, so + k * 9 + 7, none⟩ = some (.i ep) ∧ (w8.setCell ⟨gb, j, none⟩ (.i d.word)).cell? ⟨sg, so + k * 9 + 8, none⟩ = some (.i ve):=by simp only [far]; exact (keep _ hb8).2.2
        have hS8:=And.intro m8.cr (And.intro (RowAt.cell m8.g 5) hk9)
        refine ready1 (i:=11) (by kernel_rfl) (step_store_cell 3 (.tmp 80) (.tmp 79) (by kernel_rfl) gb j (.i d.word) (by kernel_rfl) (by kernel_rfl) (fun _ => st_intw hv7 hz7) hS8 (fun _ => ?_))
        try simp only [Act.put, sA, sZ, sS]
        refine wpAnyH_done (by kernel_rfl) ?_ _
        have M8:=Lib.hid m8
        clear m8 m7 hS8 hk9 hHeld hb7 hb8 hv7 hz7 CR g5 keep far e0 e1 e2 e3 e4 e5 e6 e7 e8 fin
        go_wp2_with fail
        go_roundw
        case rel => exact ⟨k + 1, _, by omega, by go_num, M8⟩
        case measure => simp [intOf]; omega
       ·rw [decide_eq_false hgo]
        clear hgo c1 g5 hk
        go_upto_region 14 with (fail)
        refine wp_region_lit ?_
        refine grow m.out.cr 30 (.tmp 4) Tryz.underlying30 ?_
        refine gl (.slice (some ⟨gb, 0, none⟩) n n) ?_
        try simp only [Act.put, sA, sZ, sS]
        refine gSt m.out.r c.cells 30 (.tmp 2) (.tmp 81) ?_
        refine gl (.slice (some ⟨gb, 0, none⟩) n n) ?_
        try simp only [Act.put, sA, sZ, sS]
        have hr9:=m.out.r.set c.cells
        have hB9:=bSetRow m.out.b (Nat.le_succ W.heap.size) c.cells
        have hw9 : WRow (wr.setRow (W.heap.size + 1) c.cells) gb (Tk.cells pr xs):=(setRow_other _ _ _ _ (by have:=m.out.ng; omega)).trans m.out.w
        have hlp : (Tk.cells pr xs).length = n:=by unfold Tk.cells; have:=m.out.l.pl; have:=m.out.l.sl; simp; omega
        go_wp2_with fail
        refine bR2 (W.heap.size + 1) hr9 Tryz.underlying30 ?_
        exact ⟨gb, pr, xs, by rw [hlp]; rfl, hw9, m.out.l, (m.out.p.fin HBB.out.1 HBB.out.2.2).1, by omega, hB9, (m.out.p.fin HBB.out.1 HBB.out.2.2).2⟩
theorem made_any (W : World) (g : Gv) (h : GvAt W g) : Calls Tryz.prog 32 #[g.val] W (MadePost W (confOf g.b0 g.b1 g.b2 g.b3 g.b4)):=by
 refine (made_pins W g h).mono ?_
 rintro e W' ⟨a, b, c, h1, h2, h3, h4, h5, h6, -⟩
 exact ⟨a, b, c, h1, h2, h3, h4, h5, h6⟩
end Go.Proofs.YteadpgiffpfmnaaGreatDoor.Cl
