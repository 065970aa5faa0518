/- A supplement of the packs. -/
import Derived.Test.YtefpoidnklflnaaGreatDoorP1
import Derived.Test.YtefpoidnklflnaaGreatDoorP2
import Derived.Test.YtefpoidnklflnaaGreatDoorP3
import Derived.Test.YtefpoidnklflnaaGreatDoorP4
import Derived.Test.YtefpoidnklflnaaGreatDoorP5
import Derived.Test.YtefpoidnklflnaaGreatDoorP6
import Derived.Test.YtefpoidnklflnaaGreatDoorP7
import Derived.Test.YtefpoidnklflnaaGreatDoorP8
import Derived.Test.YtefpoidnklflnaaGreatDoorP9
import Derived.Test.YtefpoidnklflnaaGreatDoorP10
import Derived.Test.YtefpoidnklflnaaGreatDoorP11
import Derived.Test.YtefpoidnklflnaaGreatDoorP12
import Derived.Test.YtefpoidnklflnaaGreatDoorP13
import Derived.Test.YtefpoidnklflnaaGreatDoorP14
import Derived.Test.YtefpoidnklflnaaGreatDoorP15
import Derived.Test.YtefpoidnklflnaaGreatDoorProg
import Derived.WalkKit
import Derived.ProofKit
import Derived.OpenShut
import Derived.SliceStrings
import Derived.Deep.Grids
import Derived.Below
import Derived.Laws.MakeOwn
import Derived.Lib.SliceRun
import Derived.Laws.AppendOwn
import Derived.Lib.Hide
import Derived.Deep.DeepCutAuto
import Derived.IntWalk
set_option maxRecDepth 100000
set_option maxHeartbeats 16000000
set_option linter.unusedVariables false
set_option linter.unusedSimpArgs false
namespace Go.Proofs.YtefpoidnklflnaaGreatDoor.Base
open Go.RowKit Go.ChangeShapes Go.WideShapes Go.ChangeAt
structure BoolsAt (w : World) (a : Option Addr) (len cap b off : Nat) (l : List Bool) : Prop where
  len_eq : len = l.length
  len_cap : len ≤ cap
  cap_max : cap ≤ maxLen
  addr : 0 < len → a = some ⟨b, off, none⟩ ∧ b < w.heap.size
  cell : ∀ (j : Nat) (x : Bool), l[j]? = some x → w.cell? ⟨b, off + j, none⟩ = some (.bool x)
theorem boolsAt_nil (w : World) : BoolsAt w none 0 0 0 0 [] :=
  ⟨rfl, Nat.le_refl _, by unfold maxLen; omega, fun h => by omega, fun j x h => by simp at h⟩
theorem boolsAt_some {w : World} {x : Addr} {len cap : Nat} {B : Nat → Bool} (hl : len ≤ cap) (hm : cap ≤ maxLen) (hcell : ∀ i, i < cap → w.cell? (x.add i) = some (.bool (B i))) :
    ∃ b off, BoolsAt w (some x) len cap b off ((List.range len).map B) := by
  by_cases h0 : len = 0
  · subst h0
    exact ⟨0, 0, by simp, hl, hm, fun h => by omega, fun j x h => by simp at h⟩
  · obtain ⟨b, off, rfl⟩ := addr_plain (hcell 0 (by omega))
    refine ⟨b, off, by simp, hl, hm, fun _ => ⟨rfl, World.block_lt_of_cell? _ _ (hcell 0 (by omega))⟩, fun j x h => ?_⟩
    have hj : j < len := by have := (List.getElem?_eq_some_iff.1 h).1; simpa using this
    have := hcell j (by omega)
    rw [Addr.add_lit] at this
    rw [this]
    simp [hj] at h
    rw [h]
theorem BoolsAt.get {w : World} {a : Option Addr} {len cap b off : Nat} {l : List Bool} (h : BoolsAt w a len cap b off l) {j : Nat} (hj : j < len) :
    ∃ x, l[j]? = some x ∧ w.cell? ⟨b, off + j, none⟩ = some (.bool x) ∧ a = some ⟨b, off, none⟩ ∧ b < w.heap.size := by
  obtain ⟨ha, hb⟩ := h.addr (by omega)
  have hj' : j < l.length := by have := h.len_eq; omega
  have hx : l[j]? = some l[j] := List.getElem?_eq_getElem hj'
  exact ⟨_, hx, h.cell j _ hx, ha, hb⟩
end Go.Proofs.YtefpoidnklflnaaGreatDoor.Base
namespace Go.Proofs.YtefpoidnklflnaaGreatDoor.RowL
open Go.RowKit Hp
section
variable {P : Program} {ops : Array Oper} {Q : Exit → Act → World → Prop} {md : Region.Mode} {S : World → Prop}
theorem step_store_cell {i fuel : Nat} {listed : Array Bool} {a : Act} {w : World} (T : TypeId) (x y : Operand)
    (ho : (ops[i]?).map (fun o => (o.dst, o.op, o.guard)) = some (none, Op.store T x y, none)) (g off : Nat) (v : Value) (hx : a.eval x = .pointer (some ⟨g, off, none⟩)) (hy : a.eval y = v)
    (hv : ∀ u, (Instr.storeAt T (.pointer (some ⟨g, off, none⟩)) v).run P w = .ok u (w.setCell ⟨g, off, none⟩ v))
    (hS : S (w.setCell ⟨g, off, none⟩ v)) (h : S (w.setCell ⟨g, off, none⟩ v) → wpAnyH P md ops Q S fuel (listed.setIfInBounds i true) a (w.setCell ⟨g, off, none⟩ v)) : OpStep P md ops Q S fuel listed a w i := by
  obtain ⟨o, h1o, h2o, h3o, h4o⟩ := op_of ho
  refine wpOp_step h1o fun K hK => ?_
  rw [if_pos (by simp [Region.wanted, h4o])]
  unfold Oper.wp execOp
  simp only [h3o, hx, hy, Sem.run_bind, Sem.run_pure, hv (), Result.andThen_ok, Oper.upon_skip]
  rw [h2o]
  exact hK _ _ ⟨hS, h hS⟩
end
end Go.Proofs.YtefpoidnklflnaaGreatDoor.RowL
namespace Go.Proofs.YtefpoidnklflnaaGreatDoor.RowL
open Go.RowKit Hp

section
variable {P : Program} {ops : Array Oper} {Q : Exit → Act → World → Prop} {md : Region.Mode} {S : World → Prop}
end
section
variable {P : Program} {ops : Array Oper} {Q : Exit → Act → World → Prop} {rest : List Oper} {o : Oper} {a : Act} {w : World}
end
section
variable {P : Program} {fn : Func} {R : Ending → World → Prop} {a : Act} {w : World} {p q : Tmp} {ty t : TypeId} {cs : Array Value} {d : TypeDesc}
end
end Go.Proofs.YtefpoidnklflnaaGreatDoor.RowL
namespace Go.Proofs.YtefpoidnklflnaaGreatDoor.Life
open Go.RowKit Hp Slot RowL
end Go.Proofs.YtefpoidnklflnaaGreatDoor.Life
namespace Go.Proofs.YtefpoidnklflnaaGreatDoor.Slot
open Go.RowKit Hp Life
theorem zero_right : S.zero.right = true := by kernel_rfl
theorem zero_word : S.zero.word = 0 := by kernel_rfl
end Go.Proofs.YtefpoidnklflnaaGreatDoor.Slot
namespace Go.Proofs.YtefpoidnklflnaaGreatDoor.Cl
open Go.RowKit Hp RowL Conf
theorem clone_words (w : World) (g : Nat) (l : List Int) (h0 : 0 < l.length) (hl : l.length ≤ 4096) (h : WRow w g l) :
    Calls Tryz.prog 43 #[.slice (some ⟨g, 0, none⟩) l.length l.length] w fun e w' => ∃ a c, e = .returned (.slice a l.length c) ∧ OwnS w' (.slice a l.length c) l.length 1 (l.map (Value.int .i64)) ∧ (∀ k, Fp (.slice a l.length c) k → w.heap.size ≤ k) ∧ Below w.heap.size w w' := by
  have q22 : ∀ (w : World) (a : Option Addr) (n c n' c' : Nat), (binOp .eql 26 (.slice a n c) (.slice none n' c')).run Tryz.prog w = .ok (.bool a.isNone) w := fun w a n c n' c' => Lib.run_eql_slice_nil w _ _ a n c n' c' Tryz.underlying26
  have hc : ∀ j u, (l.map (Value.int .i64))[j]? = some u → w.cell? ⟨g, 0 + j, none⟩ = some u := by
    intro j u hu
    rw [Nat.zero_add, RowAt.cell h j]
    simpa using hu
  have HC := Lib.hid hc
  obtain ⟨i0, hi, hz0, hz1, hz2⟩ := Field.info_parts Field.int_info
  clear hc
  go_enter Tryz.func43, Tryz.ntmps43
  go_wp2_with (at_builtin; refine wpList_append_own _ rfl _ _ 26 rfl w.heap.size 3 i0 (.int .i64 0) 1 8 Tryz.underlying26 hi hz0 hz1 hz2 rfl (by decide) _ _ _ rfl (World.ownsRow_made w #[] 0 (Nat.le_refl _) (Nat.zero_le _) (by simp)) ⟨g, 0, none⟩ l.length l.length (l.map (Value.int .i64)) rfl ?qc1 ?qc2 ?qc3 ?qc4 ?qc5 ?qc6 ?_)
  case qc1 => simp
  case qc2 =>
    intro j u hj
    rw [Addr.add_lit]
    exact Lib.cell?_alloc_some _ (HC.out j u hj)
  case qc3 => simp [Value.oneCell']
  case qc4 => unfold maxLen; omega
  case qc5 => omega
  case qc6 => simp
  intro v' w1 hown hgrow hnil
  have h3 := ownS_of_row hown
  try simp only [Nat.zero_add, List.nil_append] at h3
  obtain ⟨a', c', rfl⟩ := h3.form
  have hlt := hown.lt
  have HLT := Lib.hid hlt
  have H3 := Lib.hid h3
  have HGR := Lib.hid hgrow
  clear hown hgrow hnil q22 hi hz0 hz1 hz2 hlt h3
  go_wp2
  go_ret
  refine ⟨a', c', rfl, H3.out, ?_, ?_⟩
  · intro k hk
    obtain ⟨aa, n1, c1, hv, he⟩ := hk
    cases hv
    subst he
    exact (HLT.out _ rfl).1
  · exact ((Below.refl _ w).alloc (Nat.le_refl _) _).grown HGR.out (by simp) (by intro k hk; simp [Value.ownBlock] at hk; omega)
theorem words_any {W : World} {mb wb : Nat} {ws : List Int} {tc : Int} (h : CAt W mb wb ws tc) : Calls Tryz.prog 23 #[.pointer (some ⟨mb, 0, none⟩)] W fun e W' => ∃ a c, e = .returned (.slice a ws.length c) ∧ OwnS W' (.slice a ws.length c) ws.length 1 (ws.map (Value.int .i64)) ∧ (∀ k, Fp (.slice a ws.length c) k → W.heap.size ≤ k) ∧ Below W.heap.size W W' := by
  have c0 := h.c0
  have hcl := clone_words W wb ws (by have := h.len; omega) h.len.2 h.row
  go_enter Tryz.func23, Tryz.ntmps23
  go_wp2_with fail
  refine hcl.mono ?_
  rintro e w2 ⟨a, c, rfl, h1, h2, h3⟩
  clear hcl
  go_wp2_with fail
  go_ret
  exact ⟨a, c, rfl, h1, h2, h3⟩
end Go.Proofs.YtefpoidnklflnaaGreatDoor.Cl
namespace Go.Proofs.YtefpoidnklflnaaGreatDoor.Cl
open Go.RowKit Hp Slot RowL Life
theorem tgranted_any (W : World) (c : Conf.Cf) (w : Int) (i : Nat) : Calls Tryz.prog 26 #[c.val, .int .i64 w, .int .i64 i] W fun e W' => ∃ tb, e = .returned (.pointer (some ⟨tb, 0, none⟩)) ∧ TRow W' tb (Tk.Tk.granted c w i) none none ∧ W.heap.size ≤ tb ∧ Below W.heap.size W W' := by
  obtain ⟨cw, cs, cst, cwa, cu⟩ := c
  go_enter Tryz.func26, Tryz.ntmps26
  simp only [Conf.Cf.val, Conf.Cf.cells]
  go_wp2_with fail
  go_ret
  refine ⟨W.heap.size + 1, rfl, ?_, by omega, ((Below.refl _ _).alloc (Nat.le_refl _) _).alloc (by simp) _⟩
  exact heap_alloc2_new _ _ _
end Go.Proofs.YtefpoidnklflnaaGreatDoor.Cl
namespace Go.Proofs.YtefpoidnklflnaaGreatDoor.Cl
open Go.RowKit Hp Slot RowL Life
def confOf (a b c d e : Int) : Conf.Cf := ⟨1 + a % 4, 1 + b % 5, c % 4, d % 4, 1 + e % 4⟩
theorem confOf_right (a b c d e : Int) : (confOf a b c d e).right = true := by
  simp only [Conf.Cf.right, Conf.btw, confOf, Bool.and_eq_true]
  exact ⟨decide_eq_true (by omega), decide_eq_true (by omega), decide_eq_true (by omega), decide_eq_true (by omega), decide_eq_true (by omega)⟩
theorem conf_any (W : World) (a b c d e : Int) (ha : 0 ≤ a ∧ a < 256) (hb : 0 ≤ b ∧ b < 256) (hc : 0 ≤ c ∧ c < 256) (hd : 0 ≤ d ∧ d < 256) (he : 0 ≤ e ∧ e < 256) :
    Calls Tryz.prog 41 #[.agg #[.int .u8 a, .int .u8 b, .int .u8 c, .int .u8 d, .int .u8 e]] W fun en W' => en = .returned (confOf a b c d e).val ∧ Below W.heap.size W W' := by
  have hB : Below W.heap.size W ((W.alloc (.cells #[.int .u8 a, .int .u8 b, .int .u8 c, .int .u8 d, .int .u8 e] 46)).alloc (.cells #[.int .i64 0, .int .i64 0, .int .i64 0, .int .i64 0, .int .i64 0] 25)) := ((Below.refl _ _).alloc (Nat.le_refl _) _).alloc (by simp) _
  obtain ⟨a0, a1⟩ := ha
  obtain ⟨b0, b1⟩ := hb
  obtain ⟨c0, c1⟩ := hc
  obtain ⟨d0, d1⟩ := hd
  obtain ⟨e0, e1⟩ := he
  go_enter Tryz.func41, Tryz.ntmps41
  go_wp2
  have row : RowAt ((W.alloc (.cells #[.int .u8 a, .int .u8 b, .int .u8 c, .int .u8 d, .int .u8 e] 46)).alloc (.cells (confOf a b c d e).cells 25)) (W.heap.size + 1) (confOf a b c d e).cells 25 := by
    have := RowAt.new (W.alloc (.cells #[.int .u8 a, .int .u8 b, .int .u8 c, .int .u8 d, .int .u8 e] 46)) (confOf a b c d e).cells 25
    simpa using this
  refine bodyPost_ret (results_row rfl _ _ (W.heap.size + 1) _ _ _ rfl row Tryz.underlying25 rfl (by kernel_rfl)) rfl ⟨rfl, ?_⟩
  exact ((Below.refl _ _).alloc (Nat.le_refl _) _).alloc (by simp) _
theorem ref_pin_any (w : World) (c : Conf.Cf) (i : Nat) (hi : (i : Int) < c.workers ∧ c.workers ≤ 8) : Calls Tryz.prog 42 #[c.val, .int .i64 i] w fun e w' => e = .returned (.int .i64 (3 + i : Nat)) ∧ Below w.heap.size w w' := by
  obtain ⟨cw, cs, cst, cwa, cu⟩ := c
  dsimp only at hi
  go_enter Tryz.func42, Tryz.ntmps42
  simp only [Conf.Cf.val, Conf.Cf.cells]
  have n0 : ¬ ((i : Int) < 0) := by omega
  have n1 : ¬ (cw ≤ (i : Int)) := by omega
  have n2 : decide (cw ≤ (i : Int)) = false := by simpa using n1
  have e2 : wrap64 (3 + (i : Int)) = 3 + i := by unfold wrap64; omega
  go_wp2_with fail
  go_ret
  exact ⟨by (try simp) <;> omega, (Below.refl _ _).alloc (Nat.le_refl _) _⟩
end Go.Proofs.YtefpoidnklflnaaGreatDoor.Cl
namespace Go.Proofs.YtefpoidnklflnaaGreatDoor.Cl
open Go.RowKit Hp Slot RowL Life
theorem getD_set (l : List Int) (i j : Nat) (x : Int) : (l.set i x).getD j 0 = if i = j ∧ i < l.length then x else l.getD j 0 := by
  rw [List.getD_eq_getElem?_getD, List.getD_eq_getElem?_getD, List.getElem?_set]
  by_cases h : i = j
  · subst h
    by_cases h2 : i < l.length
    · simp [h2]
    · simp [h2]
  · simp [h]
theorem PreOk.set0 {c : Conf.Cf} {pre : List Int} (h : PreOk c pre) {x : Int} (hx : 0 ≤ x ∧ x ≤ 2) : PreOk c (pre.set 0 x) := by
  refine ⟨by simpa using h.len, ?_, ?_, ?_, ?_, ?_⟩
  · rw [getD_set]; split; exact hx; exact h.closed
  · rw [getD_set, if_neg (by omega)]; exact h.line
  · rw [getD_set, if_neg (by omega)]; exact h.ep
  · intro j hj; rw [getD_set, if_neg (by omega)]; exact h.pin j hj
  · intro j hj; rw [getD_set, if_neg (by omega)]; exact h.gr j hj
theorem PreOk.set2 {c : Conf.Cf} {pre : List Int} (h : PreOk c pre) {x : Int} (hx : 0 ≤ x ∧ x ≤ 255) : PreOk c (pre.set 2 x) := by
  refine ⟨by simpa using h.len, ?_, ?_, ?_, ?_, ?_⟩
  · rw [getD_set, if_neg (by omega)]; exact h.closed
  · rw [getD_set, if_neg (by omega)]; exact h.line
  · rw [getD_set]; split; exact hx; exact h.ep
  · intro j hj; rw [getD_set, if_neg (by omega)]; exact h.pin j hj
  · intro j hj; rw [getD_set, if_neg (by omega)]; exact h.gr j hj
theorem PreOk.setPin {c : Conf.Cf} {pre : List Int} (h : PreOk c pre) {i : Nat} (hi : i < c.workers.toNat) {x : Int} (hx : 0 ≤ x ∧ x ≤ 255) : PreOk c (pre.set (3 + i) x) := by
  refine ⟨by simpa using h.len, ?_, ?_, ?_, ?_, ?_⟩
  · rw [getD_set, if_neg (by omega)]; exact h.closed
  · rw [getD_set, if_neg (by omega)]; exact h.line
  · rw [getD_set, if_neg (by omega)]; exact h.ep
  · intro j hj; rw [getD_set]; split; exact hx; exact h.pin j hj
  · intro j hj; rw [getD_set, if_neg (by omega)]; exact h.gr j hj
def docS (s : S) : S := if s.right = true then s else S.zero
theorem docS_right (s : S) : (docS s).right = true := by
  unfold docS
  split
  · assumption
  · exact zero_right
theorem docW_word (s : S) : docW s = (docS s).word := by
  unfold docW docS
  split
  · rfl
  · exact zero_word.symm
theorem cells_zero (c : Conf.Cf) (n : Nat) (hn : n = Tk.sc c (Tk.ns c)) : List.replicate n (0 : Int) = Tk.cells (List.replicate (3 + 2 * c.workers.toNat) 0) (List.replicate (Tk.ns c) S.zero) := by
  unfold Tk.cells
  rw [List.map_replicate, zero_word, List.replicate_append_replicate, hn]
  rfl
theorem pool_zero (c : Conf.Cf) : Tk.Pool c (List.replicate (3 + 2 * c.workers.toNat) 0) (List.replicate (Tk.ns c) S.zero) := ⟨by simp, by simp, fun s hs => by rw [(List.mem_replicate.1 hs).2]; exact zero_right⟩
theorem make_ints (n : Nat) (hn : n ≤ 4096) (w : World) : (Instr.makeSlice 26 (.int .i64 n) (.int .i64 n)).run Tryz.prog w = .ok (.slice (some ⟨w.heap.size, 0, none⟩) n n) (w.alloc (.cells (Array.replicate n (.int .i64 0)) 3)) := by
  obtain ⟨i0, hi, hz0, hz1, hz2⟩ := Field.info_parts Field.int_info
  have h := run_makeSlice (P := Tryz.prog) (w := w) 26 3 i0 (.int .i64 0) Tryz.underlying26 hi hz0 .i64 .i64 n n (by omega) (by omega) (by rw [hz1]; simp; omega) (by rw [hz2]; omega) (by omega)
  rw [hz1] at h
  simp only [Int.toNat_natCast, Nat.mul_one] at h
  rw [h, ← made_rep]
  rfl
theorem st_intw {w : World} {g off : Nat} {z : Value} {b : Int} (hc : w.cell? ⟨g, off, none⟩ = some z) (hf : w.frozen? ⟨g, off, none⟩ = false) : (Instr.storeAt 3 (.pointer (some ⟨g, off, none⟩)) (.int .i64 b)).run Tryz.prog w = .ok () (w.setCell ⟨g, off, none⟩ (.int .i64 b)) := by
  go_simp
abbrev zero5 : Array Value := #[.int .i64 0, .int .i64 0, .int .i64 0, .int .i64 0, .int .i64 0]
structure MdAt (W : World) (c : Conf.Cf) (gcs : Array Value) (gb cb : Nat) (wr : World) (pr : List Int) (ss : List S) : Prop where
  w : WRow wr gb (Tk.cells pr ss)
  p : PreOk c pr
  l : Tk.Pool c pr ss
  b : Below W.heap.size W wr
  g : RowAt wr W.heap.size gcs 50
  r : RowAt wr (W.heap.size + 1) zero5 25
  cr : RowAt wr cb c.cells 25
  ng : W.heap.size + 1 < cb ∧ cb < gb
theorem MdAt.below {W : World} {c : Conf.Cf} {gcs : Array Value} {gb cb : Nat} {wr w' : World} {pr : List Int} {ss : List S} (h : MdAt W c gcs gb cb wr pr ss) (hb : Below wr.heap.size wr w') : MdAt W c gcs gb cb w' pr ss :=
  ⟨RowAt.below h.w hb, h.p, h.l, h.b.trans (hb.mono h.b.size), RowAt.below h.g hb, RowAt.below h.r hb, RowAt.below h.cr hb, h.ng⟩
theorem MdAt.put {W : World} {c : Conf.Cf} {gcs : Array Value} {gb cb : Nat} {wr : World} {pr pr' : List Int} {ss ss' : List S} (h : MdAt W c gcs gb cb wr pr ss) (i : Nat) (x : Int) (hp : PreOk c pr') (hl : Tk.Pool c pr' ss') (he : (Tk.cells pr ss).set i x = Tk.cells pr' ss') : MdAt W c gcs gb cb (wr.setCell ⟨gb, i, none⟩ (.int .i64 x)) pr' ss' := by
  have hn := h.ng
  refine ⟨he ▸ h.w.set i x, hp, hl, h.b.setCell (p := ⟨gb, i, none⟩) (by show W.heap.size ≤ gb; omega) _, Life.setOther (p := ⟨gb, i, none⟩) h.g _ (by show W.heap.size ≠ gb; omega), Life.setOther (p := ⟨gb, i, none⟩) h.r _ (by show W.heap.size + 1 ≠ gb; omega), Life.setOther (p := ⟨gb, i, none⟩) h.cr _ (by show cb ≠ gb; omega), hn⟩
def MadePost (W : World) (c : Conf.Cf) (e : Ending) (W' : World) : Prop :=
  ∃ g pre ss, e = .returned (.tuple #[c.val, .slice (some ⟨g, 0, none⟩) (Tk.cells pre ss).length (Tk.cells pre ss).length]) ∧ WRow W' g (Tk.cells pre ss) ∧ Tk.Pool c pre ss ∧ PreOk c pre ∧ W.heap.size ≤ g ∧ Below W.heap.size W W'
theorem made_any (W : World) (g : Gv) (h : GvAt W g) : Calls Tryz.prog 20 #[g.val] W (MadePost W (confOf g.b0 g.b1 g.b2 g.b3 g.b4)) := by
  have hcf := fun w => conf_any w g.b0 g.b1 g.b2 g.b3 g.b4 h.b0 h.b1 h.b2 h.b3 h.b4
  have hcr := confOf_right g.b0 g.b1 g.b2 g.b3 g.b4
  generalize confOf g.b0 g.b1 g.b2 g.b3 g.b4 = c at *
  obtain ⟨⟨a0, a1⟩, b0, b1⟩ := right_small hcr
  have hce := fun w => ref_cells_any w c ⟨by omega, a1⟩ ⟨b0, by omega⟩
  have hn : 3 + 2 * c.workers + c.slots = ((Tk.sc c (Tk.ns c) : Nat) : Int) := by unfold Tk.sc Tk.ns; omega
  simp only [hn] at hce
  have hcz := cells_zero c _ rfl
  have hN : 6 ≤ Tk.sc c (Tk.ns c) ∧ Tk.sc c (Tk.ns c) ≤ 4096 := by unfold Tk.sc Tk.ns; omega
  have hmk := make_ints (Tk.sc c (Tk.ns c)) (by omega)
  generalize Tk.sc c (Tk.ns c) = n at *
  have hA : Below W.heap.size W (W.alloc (.cells g.cells 50)) := (Below.refl _ _).alloc (Nat.le_refl _) _
  have hg : RowAt (W.alloc (.cells g.cells 50)) W.heap.size g.cells 50 := heap_alloc_new W _
  have H := Lib.hid h
  clear h
  have hB2 : Below W.heap.size W ((W.alloc (.cells g.cells 50)).alloc (.cells #[.int .i64 0, .int .i64 0, .int .i64 0, .int .i64 0, .int .i64 0] 25)) := hA.alloc hA.size _
  have hg2 := RowAt.below hg ((Below.refl _ _).alloc (Nat.le_refl _) (.cells #[.int .i64 0, .int .i64 0, .int .i64 0, .int .i64 0, .int .i64 0] 25))
  have hr2 : RowAt ((W.alloc (.cells g.cells 50)).alloc (.cells #[.int .i64 0, .int .i64 0, .int .i64 0, .int .i64 0, .int .i64 0] 25)) (W.heap.size + 1) #[.int .i64 0, .int .i64 0, .int .i64 0, .int .i64 0, .int .i64 0] 25 := by
    have h := heap_alloc_new (W.alloc (.cells g.cells 50)) (.cells #[.int .i64 0, .int .i64 0, .int .i64 0, .int .i64 0, .int .i64 0] 25)
    simpa [RowAt] using h
  clear hA hg
  go_enter Tryz.func20, Tryz.ntmps20
  simp only [Gv.cells] at hg2
  go_upto_region 1 with (fail)
  simp only [Gv.cells] at *
  generalize ((W.alloc (.cells #[.int .u8 g.b0, .int .u8 g.b1, .int .u8 g.b2, .int .u8 g.b3, .int .u8 g.b4, .slice g.sa g.ss.length g.sc, .slice g.fa g.fs.length g.fc, .slice g.pa g.ps.length g.pc] 50)).alloc (.cells #[.int .i64 0, .int .i64 0, .int .i64 0, .int .i64 0, .int .i64 0] 25)) = wa at *
  have k0 : wa.cell? ⟨W.heap.size, 0, none⟩ = some (.int .u8 g.b0) := RowAt.cell hg2 0
  have k1 : wa.cell? ⟨W.heap.size, 1, none⟩ = some (.int .u8 g.b1) := RowAt.cell hg2 1
  have k2 : wa.cell? ⟨W.heap.size, 2, none⟩ = some (.int .u8 g.b2) := RowAt.cell hg2 2
  have k3 : wa.cell? ⟨W.heap.size, 3, none⟩ = some (.int .u8 g.b3) := RowAt.cell hg2 3
  have k4 : wa.cell? ⟨W.heap.size, 4, none⟩ = some (.int .u8 g.b4) := RowAt.cell hg2 4
  go_wp2_with fail
  refine (hcf _).mono ?_
  rintro e w1 ⟨rfl, hb1⟩
  have hB1 := hB2.trans (hb1.mono hB2.size)
  have hg1 := RowAt.below hg2 hb1
  have hr1 := RowAt.below hr2 hb1
  clear hcf hb1 hg2 hr2 hB2 k0 k1 k2 k3 k4
  dsimp only
  go_step
  refine gbox (ob := .cells #[.int .i64 0, .int .i64 0, .int .i64 0, .int .i64 0, .int .i64 0] 25) (Z := #[.int .i64 0, .int .i64 0, .int .i64 0, .int .i64 0, .int .i64 0]) (cs := c.cells) (t := 25) 25 (.tmp 4) (.tmp 10) rfl ?_
  rw [setRow_new]
  have hs1 := RowAt.lt hr1
  have hB2 : Below W.heap.size W (w1.alloc (.cells c.cells 25)) := hB1.alloc hB1.size _
  have hg2 := RowAt.below hg1 ((Below.refl _ _).alloc (Nat.le_refl _) (.cells c.cells 25))
  have hr2 := RowAt.below hr1 ((Below.refl _ _).alloc (Nat.le_refl _) (.cells c.cells 25))
  have hc2 : RowAt (w1.alloc (.cells c.cells 25)) w1.heap.size c.cells 25 := heap_alloc_new w1 _
  clear hB1 hg1 hr1
  generalize (w1.alloc (.cells c.cells 25)) = w2 at *
  generalize w1.heap.size = cb at *
  try simp only [Act.put, sA, sZ, sS]
  go_upto_region 2 with (fail)
  refine wp_region_lit ?_
  refine grow hc2 25 (.tmp 4) Tryz.underlying25 ?_
  try simp only [Act.put, sA, sZ, sS]
  refine gcall 10 #[.tmp 11] #[25] #[c.val] (enters_of Tryz.func10 (by kernel_rfl) rfl) ?_
  refine (hce _).mono ?_
  rintro e w3 ⟨rfl, hb3⟩
  refine ⟨_, rfl, ?_⟩
  have hB3 := hB2.trans (hb3.mono hB2.size)
  have hg3 := RowAt.below hg2 hb3
  have hr3 := RowAt.below hr2 hb3
  have hc3 := RowAt.below hc2 hb3
  clear hce hb3 hg2 hr2 hc2 hB2
  dsimp only
  go_upto_region 3 with (fail)
  have hw0 : WRow (w3.alloc (.cells (Array.replicate n (.int .i64 0)) 3)) w3.heap.size (List.replicate n 0) := by
    unfold WRow
    rw [← made_ints, made_rep]
    exact RowAt.new w3 _ _
  rw [hcz] at hw0
  have hs3 := hB3.size
  have hB4 : Below W.heap.size W (w3.alloc (.cells (Array.replicate n (.int .i64 0)) 3)) := hB3.alloc hs3 _
  have hg4 := RowAt.below hg3 ((Below.refl _ _).alloc (Nat.le_refl _) (.cells (Array.replicate n (.int .i64 0)) 3))
  have hc4 := RowAt.below hc3 ((Below.refl _ _).alloc (Nat.le_refl _) (.cells (Array.replicate n (.int .i64 0)) 3))
  have hr4 := RowAt.below hr3 ((Below.refl _ _).alloc (Nat.le_refl _) (.cells (Array.replicate n (.int .i64 0)) 3))
  have hcl := RowAt.lt hc3
  clear hB3 hg3 hr3 hc3
  generalize (w3.alloc (.cells (Array.replicate n (.int .i64 0)) 3)) = w4 at *
  generalize w3.heap.size = gb at *
  have hnn : (Tk.cells (List.replicate (3 + 2 * c.workers.toNat) 0) (List.replicate (Tk.ns c) S.zero)).length = n := by rw [← hcz]; simp
  have M4 : MdAt W c _ gb cb w4 _ _ := ⟨hw0, PreOk.zero c, pool_zero c, hB4, hg4, hr4, hc4, ⟨hs1, hcl⟩⟩
  generalize hzz : List.replicate (Tk.ns c) S.zero = zs at *
  generalize hpz : List.replicate (3 + 2 * c.workers.toNat) (0 : Int) = pz at *
  have hzl : zs.length = Tk.ns c := by rw [← hzz]; simp
  clear hcz hmk hzz hpz hw0 hB4 hg4 hr4 hc4
  have g6 : w4.cell? ⟨W.heap.size, 6, none⟩ = some (.slice g.fa g.fs.length g.fc) := RowAt.cell M4.g 6
  have FS := H.out.fs
  have PS := H.out.ps
  have SS := H.out.ss
  clear H
  obtain ⟨b0', b1', b2', b3', b4', sa, sc, ss, fa, fc, fs, pa, pc, ps⟩ := g
  dsimp only at *
  obtain ⟨cw, hcw⟩ : ∃ cw : Nat, c.workers = cw := ⟨c.workers.toNat, by omega⟩
  obtain ⟨cs, hcs⟩ : ∃ cs : Nat, c.slots = cs := ⟨c.slots.toNat, by omega⟩
  have htn : c.workers.toNat = cw := by omega
  have hns : Tk.ns c = cs := by unfold Tk.ns; omega
  have hgb : W.heap.size < gb := by omega
  obtain ⟨v0, q0⟩ : ∃ v, w4.cell? ⟨gb, 0, none⟩ = some (.int .i64 v) := ⟨_, M4.w.get (List.getElem?_eq_getElem (by omega))⟩
  obtain ⟨v2, q2⟩ : ∃ v, w4.cell? ⟨gb, 2, none⟩ = some (.int .i64 v) := ⟨_, M4.w.get (List.getElem?_eq_getElem (by omega))⟩
  have z0 : w4.frozen? ⟨gb, 0, none⟩ = false := RowAt.frozen M4.w 0
  have z2 : w4.frozen? ⟨gb, 2, none⟩ = false := RowAt.frozen M4.w 2
  have M4 := Lib.hid M4
  go_upto_if 17 with (fail)
  go_cut [17] from 14 to 32 (fun s wx => ∃ pre, MdAt W c #[.int .u8 b0', .int .u8 b1', .int .u8 b2', .int .u8 b3', .int .u8 b4', .slice sa ss.length sc, .slice fa fs.length fc, .slice pa ps.length pc] gb cb wx pre zs)
  case first =>
    by_cases hf2 : fs.length = 2
    · obtain ⟨x, y, rfl⟩ : ∃ x y, fs = [x, y] := by
        match fs, hf2 with
        | [x, y], _ => exact ⟨x, y, rfl⟩
      obtain ⟨bx, fg, fo, rfl, ex⟩ := FS 0 x rfl
      obtain ⟨by', fg', fo', e', ey⟩ := FS 1 y rfl
      cases e'
      have hfg : fg < W.heap.size := World.block_lt_of_cell? _ _ ex
      have x4 : w4.cell? ⟨fg, fo, none⟩ = some (.int .u8 x) := Field.bkeep M4.out.b ex
      have y4 : w4.cell? ⟨fg, fo + 1, none⟩ = some (.int .u8 y) := Field.bkeep M4.out.b ey
      have fne : fg ≠ gb := by omega
      have m5 := (M4.out.put 0 (x % 3) (M4.out.p.set0 (x := x % 3) (by omega)) (M4.out.l.setPre 0 _) (Tk.set_pre M4.out.l (i := 0) (by omega) _)).put 2 y ((M4.out.p.set0 (x := x % 3) (by omega)).set2 (x := y) (by omega)) ((M4.out.l.setPre 0 _).setPre 2 _) (Tk.set_pre (M4.out.l.setPre 0 _) (i := 2) (by omega) _)
      have M5 := Lib.hid m5
      clear hf2 ex ey m5
      go_wp2_with fail
      go_meet
      case rel => exact ⟨_, M5.out⟩
    · have hf3 : ((fs.length : Int) == 2) = false := by rw [beq_eq_false_iff_ne]; omega
      clear hf2
      go_wp2_with fail
      go_meet
      case rel => exact ⟨_, M4.out⟩
  case rest =>
    obtain ⟨pre, m5⟩ := hcut
    generalize wc = w5 at *
    have M5 := Lib.hid m5
    have HZ := Lib.hid hzl
    clear m5 M4 FS q0 q2 z0 z2 g6 hnn hzl
    go_wp2_with fail
    go_loopw [6] (fun i wr => ∃ (k : Nat) (pr : List Int), k ≤ cw ∧ i = .int .i64 k ∧ RowKit.Hid (MdAt W c #[.int .u8 b0', .int .u8 b1', .int .u8 b2', .int .u8 b3', .int .u8 b4', .slice sa ss.length sc, .slice fa fs.length fc, .slice pa ps.length pc] gb cb wr pr zs)) (fun i _ => cw - (intOf i).toNat)
    case atStart => exact ⟨0, pre, by omega, rfl, M5⟩
    case round =>
      obtain ⟨k, pr, hk, rfl, m⟩ := hrel
      clear M5
      have c0 := RowAt.cell m.out.cr 0
      have g7 := RowAt.cell m.out.g 7
      simp only [Conf.Cf.cells, hcw] at c0
      simp at c0 g7
      go_upto_region 7 with (fail)
      go_cut [43] from 33 to 56 (fun s wx => s = .bool (decide (k < cw ∧ k < ps.length)) ∧ wr = wx)
      case first =>
        by_cases h1 : k < cw
        · have i1 : (k : Int) < cw := by omega
          by_cases h2 : k < ps.length
          · have i2 : (k : Int) < ps.length := by omega
            go_wp2_with fail
            go_meet
            case rel => exact ⟨by rw [decide_eq_true ⟨h1, h2⟩], rfl⟩
          · have i2 : ¬ (k : Int) < ps.length := by omega
            go_wp2_with fail
            go_meet
            case rel => exact ⟨by rw [decide_eq_false (fun h => h2 h.2)], rfl⟩
        · have i1 : ¬ (k : Int) < cw := by omega
          go_wp2_with fail
          go_meet
          case rel => exact ⟨by rw [decide_eq_false (fun h => h1 h.1)], rfl⟩
      case rest =>
        obtain ⟨rfl, rfl⟩ := hcut
        by_cases hgo : k < cw ∧ k < ps.length
        · rw [decide_eq_true hgo]
          obtain ⟨h1, h2⟩ := hgo
          have i1 : (k : Int) < cw := by omega
          have i2 : (k : Int) < ps.length := by omega
          obtain ⟨x, hx⟩ : ∃ x, ps[k]? = some x := ⟨_, List.getElem?_eq_getElem h2⟩
          obtain ⟨bx, pg, po, rfl, ex⟩ := PS k x hx
          have hpg : pg < W.heap.size := World.block_lt_of_cell? _ _ ex
          have hpne : pg ≠ gb := by omega
          have ex := Field.bkeep m.out.b ex
          have hpi := fun w => ref_pin_any w c k ⟨by omega, a1⟩
          obtain ⟨j, hj⟩ : ∃ j, j = 3 + k := ⟨_, rfl⟩
          rw [← hj] at hpi
          have m6 : ∀ w', Below wr.heap.size wr w' → MdAt W c _ gb cb w' pr zs := fun w' h => m.out.below h
          have M6 := Lib.hid m6
          have CR := m.out.cr
          have i3 : (j : Int) < n := by omega
          have i4 : (0 : Int) ≤ (j : Int) := by omega
          have hx1 : wrap64 x = x := by unfold wrap64; omega
          have hx2 : IntKind.i64.wrap x = x := by rw [IntKind.wrap_i64]; omega
          have hlp : (Tk.cells pr zs).length = n := by unfold Tk.cells; have := m.out.l.pl; have := m.out.l.sl; simp; omega
          have HLP := Lib.hid hlp
          have HJ := Lib.hid hj
          clear m m6 hlp PS hx hj
          go_upto_region 9 with (fail)
          refine wp_region_held_drew (S := fun w' => RowAt w' cb c.cells 25 ∧ w'.cell? ⟨W.heap.size, 7, none⟩ = some (.slice (some ⟨pg, po, none⟩) ps.length pc) ∧ w'.cell? ⟨pg, po + k, none⟩ = some (.int .u8 x)) (by kernel_rfl) (by exact ⟨CR, g7, ex⟩) (fun hHeld => ?_)
          refine tKg 0 46 hHeld ?_
          try simp only [Act.put, sA, sZ, sS]
          refine tKg 2 48 hHeld ?_
          try simp only [Act.put, sA, sZ, sS]
          refine tKg 4 50 hHeld ?_
          try simp only [Act.put, sA, sZ, sS]
          refine tKg 5 51 hHeld ?_
          try simp only [Act.put, sA, sZ, sS]
          refine tKg 6 52 hHeld ?_
          try simp only [Act.put, sA, sZ, sS]
          refine tKg 7 53 hHeld ?_
          try simp only [Act.put, sA, sZ, sS]
          refine tKg 8 54 hHeld ?_
          try simp only [Act.put, sA, sZ, sS]
          refine tKg (v := .int .i64 x) 9 55 hHeld ?_
          try simp only [Act.put, sA, sZ, sS]
          refine rRow 1 47 hHeld.1 25 (.tmp 4) Tryz.underlying25 hHeld ?_
          try simp only [Act.put, sA, sZ, sS]
          refine rKc (i := 3) 42 #[.tmp 47, .tmp 48] #[25, 3] (some 49) none #[c.val, .int .i64 k] (enters_of Tryz.func42 (by kernel_rfl) rfl) ?_
          refine (hpi _).mono ?_
          rintro e w7 ⟨rfl, hb7⟩
          have hb7 := (Below.refl wr.heap.size wr).drew.trans hb7
          have m7 := M6.out w7 hb7
          have HX7 := Field.bkeep hb7 ex
          have HG7 := Field.bkeep hb7 g7
          refine ⟨_, rfl, ⟨m7.cr, HG7, HX7⟩, fun hHeld => ?_⟩
          try simp only [Act.put, sA, sZ, sS]
          refine tKg 10 56 hHeld ?_
          try simp only [Act.put, sA, sZ, sS]
          obtain ⟨v7, hv7⟩ : ∃ v, w7.cell? ⟨gb, j, none⟩ = some (.int .i64 v) := ⟨_, m7.w.get (List.getElem?_eq_getElem (by have := HJ.out; rw [HLP.out]; omega))⟩
          have hz7 : w7.frozen? ⟨gb, j, none⟩ = false := RowAt.frozen m7.w j
          have m8 := m7.put j x (HJ.out ▸ m7.p.setPin (i := k) (by omega) (x := x) (by omega)) (m7.l.setPre j x) (Tk.set_pre m7.l (i := j) (by have := HJ.out; omega) _)
          have hS8 := And.intro m8.cr (And.intro (RowAt.cell m8.g 7) ((World.cell?_setCell_far w7 ⟨gb, j, none⟩ ⟨pg, po + k, none⟩ (.int .i64 x) (fun e => hpne e.symm)).trans HX7))
          refine ready1 (i := 11) (by kernel_rfl) (step_store_cell 3 (.tmp 56) (.tmp 55) (by kernel_rfl) gb j (.int .i64 x) (by kernel_rfl) (by kernel_rfl) (fun _ => st_intw hv7 hz7) hS8 (fun _ => ?_))
          try simp only [Act.put, sA, sZ, sS]
          refine wpAnyH_done (by kernel_rfl) ?_ _
          have M8 := Lib.hid m8
          clear m8 m7 hS8 hHeld hb7 hv7 hz7 HX7 HG7 CR g7 ex
          go_wp2_with fail
          go_roundw
          case rel => exact ⟨k + 1, pr.set j x, by omega, by go_num, M8⟩
          case measure => simp [intOf]; omega
        · rw [decide_eq_false hgo]
          clear hgo
          go_upto_region 10 with (fail)
          clear c0 g7 hk
          have MM := Lib.hid m.out
          clear m PS
          go_wp2_with fail
          go_loopw [7] (fun i wr => ∃ (k : Nat) (xs : List S), k ≤ cs ∧ i = .int .i64 k ∧ RowKit.Hid (MdAt W c #[.int .u8 b0', .int .u8 b1', .int .u8 b2', .int .u8 b3', .int .u8 b4', .slice sa ss.length sc, .slice fa fs.length fc, .slice pa ps.length pc] gb cb wr pr xs)) (fun i _ => cs - (intOf i).toNat)
          case atStart => exact ⟨0, zs, by omega, rfl, MM⟩
          case round =>
            obtain ⟨k, xs, hk, rfl, m⟩ := hrel
            clear MM
            have c1 := RowAt.cell m.out.cr 1
            have g5 := RowAt.cell m.out.g 5
            simp only [Conf.Cf.cells, hcs] at c1
            simp at c1 g5
            go_upto_region 11 with (fail)
            go_cut [67] from 57 to 80 (fun s wx => s = .bool (decide (k < cs ∧ k < ss.length)) ∧ wr = wx)
            case first =>
              by_cases h3 : k < cs
              · have i5 : (k : Int) < cs := by omega
                by_cases h4 : k < ss.length
                · have i6 : (k : Int) < ss.length := by omega
                  go_wp2_with fail
                  go_meet
                  case rel => exact ⟨by rw [decide_eq_true ⟨h3, h4⟩], rfl⟩
                · have i6 : ¬ (k : Int) < ss.length := by omega
                  go_wp2_with fail
                  go_meet
                  case rel => exact ⟨by rw [decide_eq_false (fun h => h4 h.2)], rfl⟩
              · have i5 : ¬ (k : Int) < cs := by omega
                go_wp2_with fail
                go_meet
                case rel => exact ⟨by rw [decide_eq_false (fun h => h3 h.1)], rfl⟩
            case rest =>
              obtain ⟨rfl, rfl⟩ := hcut
              by_cases hgo : k < cs ∧ k < ss.length
              · rw [decide_eq_true hgo]
                obtain ⟨h3, h4⟩ := hgo
                have i5 : (k : Int) < cs := by omega
                have i6 : (k : Int) < ss.length := by omega
                obtain ⟨s, hx⟩ : ∃ s, ss[k]? = some s := ⟨_, List.getElem?_eq_getElem h4⟩
                obtain ⟨sg, so, rfl, ex⟩ := SS k s hx
                have hwd := fun w => ref_word_any w s
                rw [docW_word] at hwd
                have hdr := docS_right s
                generalize docS s = d at *
                obtain ⟨st, ow, sm, br, ma, us, ge, ep, ve⟩ := s
                have e0 := ex 0 _ rfl
                have e1 := ex 1 _ rfl
                have e2 := ex 2 _ rfl
                have e3 := ex 3 _ rfl
                have e4 := ex 4 _ rfl
                have e5 := ex 5 _ rfl
                have e6 := ex 6 _ rfl
                have e7 := ex 7 _ rfl
                have e8 := ex 8 _ rfl
                have hsg : sg < W.heap.size := World.block_lt_of_cell? _ _ e0
                have hsne : sg ≠ gb := by omega
                replace e0 := Field.bkeep m.out.b e0
                replace e1 := Field.bkeep m.out.b e1
                replace e2 := Field.bkeep m.out.b e2
                replace e3 := Field.bkeep m.out.b e3
                replace e4 := Field.bkeep m.out.b e4
                replace e5 := Field.bkeep m.out.b e5
                replace e6 := Field.bkeep m.out.b e6
                replace e7 := Field.bkeep m.out.b e7
                replace e8 := Field.bkeep m.out.b e8
                simp only [S.val, S.cells, Nat.add_zero] at hwd e0 e1 e2 e3 e4 e5 e6 e7 e8
                have hsl := fun w => ref_slot_any w c k ⟨by omega, a1⟩ ⟨by omega, by omega⟩
                obtain ⟨j, hj⟩ : ∃ j, j = Tk.sc c k := ⟨_, rfl⟩
                have hjc : 3 + 2 * c.workers + (k : Int) = (j : Int) := by rw [hj]; unfold Tk.sc; omega
                simp only [hjc] at hsl
                have m6 : ∀ w', Below wr.heap.size wr w' → MdAt W c _ gb cb w' pr xs := fun w' h => m.out.below h
                have M6 := Lib.hid m6
                have CR := m.out.cr
                have i7 : (j : Int) < n := by omega
                have i8 : (0 : Int) ≤ (j : Int) := by omega
                have hlp : (Tk.cells pr xs).length = n := by unfold Tk.cells; have := m.out.l.pl; have := m.out.l.sl; simp; omega
                have HLP := Lib.hid hlp
                have HJ := Lib.hid hj
                have HD := Lib.hid hdr
                clear m m6 hlp SS hx hj hjc ex hdr
                go_upto_region 13 with (fail)
                refine wp_region_held_drew (S := fun w' => RowAt w' cb c.cells 25 ∧ w'.cell? ⟨W.heap.size, 5, none⟩ = some (.slice (some ⟨sg, so, none⟩) ss.length sc) ∧ w'.cell? ⟨sg, so + k * 9, none⟩ = some (.int .i64 st) ∧ w'.cell? ⟨sg, so + k * 9 + 1, none⟩ = some (.int .i64 ow) ∧ w'.cell? ⟨sg, so + k * 9 + 2, none⟩ = some (.int .i64 sm) ∧ w'.cell? ⟨sg, so + k * 9 + 3, none⟩ = some (.bool br) ∧ w'.cell? ⟨sg, so + k * 9 + 4, none⟩ = some (.bool ma) ∧ w'.cell? ⟨sg, so + k * 9 + 5, none⟩ = some (.int .i64 us) ∧ w'.cell? ⟨sg, so + k * 9 + 6, none⟩ = some (.int .i64 ge) ∧ w'.cell? ⟨sg, so + k * 9 + 7, none⟩ = some (.int .i64 ep) ∧ w'.cell? ⟨sg, so + k * 9 + 8, none⟩ = some (.int .i64 ve)) (by kernel_rfl) (by exact ⟨CR, g5, e0, e1, e2, e3, e4, e5, e6, e7, e8⟩) (fun hHeld => ?_)
                refine tKg 0 70 hHeld ?_
                try simp only [Act.put, sA, sZ, sS]
                refine tKg 2 72 hHeld ?_
                try simp only [Act.put, sA, sZ, sS]
                refine tKg 4 74 hHeld ?_
                try simp only [Act.put, sA, sZ, sS]
                refine tKg 5 75 hHeld ?_
                try simp only [Act.put, sA, sZ, sS]
                refine tKg 6 76 hHeld ?_
                try simp only [Act.put, sA, sZ, sS]
                refine tKg 7 77 hHeld ?_
                try simp only [Act.put, sA, sZ, sS]
                refine tKg 8 78 hHeld ?_
                try simp only [Act.put, sA, sZ, sS]
                refine rRow 1 71 hHeld.1 25 (.tmp 4) Tryz.underlying25 hHeld ?_
                try simp only [Act.put, sA, sZ, sS]
                have fin : ∀ w7 w8, Below wr.heap.size wr w7 → Below w7.heap.size w7 w8 → MdAt W c _ gb cb w8 pr xs := fun w7 w8 h h2 => M6.out w8 (h.trans (h2.mono h.size))
                have keep : ∀ w', Below wr.heap.size wr w' → (RowAt w' cb c.cells 25 ∧ w'.cell? ⟨W.heap.size, 5, none⟩ = some (.slice (some ⟨sg, so, none⟩) ss.length sc) ∧ w'.cell? ⟨sg, so + k * 9, none⟩ = some (.int .i64 st) ∧ w'.cell? ⟨sg, so + k * 9 + 1, none⟩ = some (.int .i64 ow) ∧ w'.cell? ⟨sg, so + k * 9 + 2, none⟩ = some (.int .i64 sm) ∧ w'.cell? ⟨sg, so + k * 9 + 3, none⟩ = some (.bool br) ∧ w'.cell? ⟨sg, so + k * 9 + 4, none⟩ = some (.bool ma) ∧ w'.cell? ⟨sg, so + k * 9 + 5, none⟩ = some (.int .i64 us) ∧ w'.cell? ⟨sg, so + k * 9 + 6, none⟩ = some (.int .i64 ge) ∧ w'.cell? ⟨sg, so + k * 9 + 7, none⟩ = some (.int .i64 ep) ∧ w'.cell? ⟨sg, so + k * 9 + 8, none⟩ = some (.int .i64 ve)) := fun w' h => ⟨(M6.out w' h).cr, Field.bkeep h g5, Field.bkeep h e0, Field.bkeep h e1, Field.bkeep h e2, Field.bkeep h e3, Field.bkeep h e4, Field.bkeep h e5, Field.bkeep h e6, Field.bkeep h e7, Field.bkeep h e8⟩
                refine rKc (i := 3) 12 #[.tmp 71, .tmp 72] #[25, 3] (some 73) none #[c.val, .int .i64 k] (enters_of Tryz.func12 (by kernel_rfl) rfl) ?_
                refine (hsl _).mono ?_
                rintro e w7 ⟨rfl, hb7⟩
                have hb7 := (Below.refl wr.heap.size wr).drew.trans hb7
                refine ⟨_, rfl, keep _ hb7, fun hHeld => ?_⟩
                try simp only [Act.put, sA, sZ, sS]
                refine rKc (i := 9) 11 #[.tmp 78] #[30] (some 79) none #[S.val ⟨st, ow, sm, br, ma, us, ge, ep, ve⟩] (enters_of Tryz.func11 (by kernel_rfl) rfl) ?_
                refine (hwd _).mono ?_
                rintro e w8 ⟨rfl, hb8⟩
                have hb8 := hb7.trans (hb8.mono hb7.size)
                refine ⟨_, rfl, keep _ hb8, fun hHeld => ?_⟩
                try simp only [Act.put, sA, sZ, sS]
                refine tKg 10 80 hHeld ?_
                try simp only [Act.put, sA, sZ, sS]
                have m7 := M6.out w8 hb8
                obtain ⟨v7, hv7⟩ : ∃ v, w8.cell? ⟨gb, j, none⟩ = some (.int .i64 v) := ⟨_, m7.w.get (List.getElem?_eq_getElem (by rw [HLP.out]; omega))⟩
                have hz7 : w8.frozen? ⟨gb, j, none⟩ = false := RowAt.frozen m7.w j
                have m8 := m7.put j d.word m7.p (m7.l.set HD.out) (by rw [HJ.out]; exact Tk.set_slot m7.l d)
                have far : ∀ o, (w8.setCell ⟨gb, j, none⟩ (.int .i64 d.word)).cell? ⟨sg, o, none⟩ = w8.cell? ⟨sg, o, none⟩ := fun o => World.cell?_setCell_far w8 ⟨gb, j, none⟩ ⟨sg, o, none⟩ _ (fun e => hsne e.symm)
                have hk9 : (w8.setCell ⟨gb, j, none⟩ (.int .i64 d.word)).cell? ⟨sg, so + k * 9, none⟩ = some (.int .i64 st) ∧ (w8.setCell ⟨gb, j, none⟩ (.int .i64 d.word)).cell? ⟨sg, so + k * 9 + 1, none⟩ = some (.int .i64 ow) ∧ (w8.setCell ⟨gb, j, none⟩ (.int .i64 d.word)).cell? ⟨sg, so + k * 9 + 2, none⟩ = some (.int .i64 sm) ∧ (w8.setCell ⟨gb, j, none⟩ (.int .i64 d.word)).cell? ⟨sg, so + k * 9 + 3, none⟩ = some (.bool br) ∧ (w8.setCell ⟨gb, j, none⟩ (.int .i64 d.word)).cell? ⟨sg, so + k * 9 + 4, none⟩ = some (.bool ma) ∧ (w8.setCell ⟨gb, j, none⟩ (.int .i64 d.word)).cell? ⟨sg, so + k * 9 + 5, none⟩ = some (.int .i64 us) ∧ (w8.setCell ⟨gb, j, none⟩ (.int .i64 d.word)).cell? ⟨sg, so + k * 9 + 6, none⟩ = some (.int .i64 ge) ∧ (w8.setCell ⟨gb, j, none⟩ (.int .i64 d.word)).cell? ⟨sg, so + k * 9 + 7, none⟩ = some (.int .i64 ep) ∧ (w8.setCell ⟨gb, j, none⟩ (.int .i64 d.word)).cell? ⟨sg, so + k * 9 + 8, none⟩ = some (.int .i64 ve) := by simp only [far]; exact (keep _ hb8).2.2
                have hS8 := And.intro m8.cr (And.intro (RowAt.cell m8.g 5) hk9)
                refine ready1 (i := 11) (by kernel_rfl) (step_store_cell 3 (.tmp 80) (.tmp 79) (by kernel_rfl) gb j (.int .i64 d.word) (by kernel_rfl) (by kernel_rfl) (fun _ => st_intw hv7 hz7) hS8 (fun _ => ?_))
                try simp only [Act.put, sA, sZ, sS]
                refine wpAnyH_done (by kernel_rfl) ?_ _
                have M8 := Lib.hid m8
                clear m8 m7 hS8 hk9 hHeld hb7 hb8 hv7 hz7 CR g5 keep far e0 e1 e2 e3 e4 e5 e6 e7 e8 fin
                go_wp2_with fail
                go_roundw
                case rel => exact ⟨k + 1, _, by omega, by go_num, M8⟩
                case measure => simp [intOf]; omega
              · rw [decide_eq_false hgo]
                clear hgo c1 g5 hk
                go_upto_region 14 with (fail)
                refine wp_region_lit ?_
                refine grow m.out.cr 25 (.tmp 4) Tryz.underlying25 ?_
                refine gl (.slice (some ⟨gb, 0, none⟩) n n) ?_
                try simp only [Act.put, sA, sZ, sS]
                refine gSt m.out.r c.cells 25 (.tmp 2) (.tmp 81) ?_
                refine gl (.slice (some ⟨gb, 0, none⟩) n n) ?_
                try simp only [Act.put, sA, sZ, sS]
                have hr9 := m.out.r.set c.cells
                have hB9 := bSetRow m.out.b (Nat.le_succ W.heap.size) c.cells
                have hw9 : WRow (wr.setRow (W.heap.size + 1) c.cells) gb (Tk.cells pr xs) := (setRow_other _ _ _ _ (by have := m.out.ng; omega)).trans m.out.w
                have hlp : (Tk.cells pr xs).length = n := by unfold Tk.cells; have := m.out.l.pl; have := m.out.l.sl; simp; omega
                go_wp2_with fail
                refine bR2 (W.heap.size + 1) hr9 Tryz.underlying25 ?_
                exact ⟨gb, pr, xs, by rw [hlp]; rfl, hw9, m.out.l, m.out.p, by omega, hB9⟩
end Go.Proofs.YtefpoidnklflnaaGreatDoor.Cl
