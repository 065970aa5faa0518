/- The statement TidyTwice holds, for every input: the call answers true and leaves what it was handed as it was, where the package's table slot.fields is laid as the program's text lays it (the tied card). -/
import Derived.Test.YteadpgiffpfmnaaGreatDoorQ17
import Derived.Test.YteadpgiffpfmnaaGreatDoorQ1
import Derived.Test.YteadpgiffpfmnaaGreatDoorQ11
import Derived.Test.YteadpgiffpfmnaaGreatDoorQ12
import Derived.Test.YteadpgiffpfmnaaGreatDoorQ15
import Derived.Test.YteadpgiffpfmnaaGreatDoorQ2
import Derived.Test.YteadpgiffpfmnaaGreatDoorRows
import Derived.Test.YteadpgiffpfmnaaGreatDoorTie
import Derived.Test.YteadpgiffpfmnaaGreatDoorCards
import Derived.WalkKit
import Derived.ProofKit
import Derived.OpenShut
import Derived.ShutString
import Derived.ChangeOld
import Derived.Below
import Derived.LaidMore
import Derived.SevenTiedAt

namespace Go.Proofs.YteadpgiffpfmnaaGreatDoor.Cl
set_option linter.unusedVariables false
set_option linter.unusedSimpArgs false
open Go.RowKit Hp Slot RowL Life

theorem Fin.bdp {c : Conf.Cf} {k : Nat} {pre : List Int} {ss : List S} {L : List Int} {pre' : List Int} {ss' : List S} {L' : List Int} (h : Fin c k pre ss L pre' ss' L') (hp : Tk.Pool c pre ss) (hq : PreY c pre L) (hr : c.right = true) : ∀ i, Tk.rd pre' i ≤ 4294967296 := by
  obtain ⟨⟨wk0, wk1⟩, sl0, sl1⟩ := right_small hr
  obtain ⟨pre1, pre2, T⟩ := h.t
  have hsl := hp.sl
  have hns : Tk.ns c ≤ 16 := by unfold Tk.ns; omega
  have hE := hq.ep
  have e2 : Tk.rd pre 2 = pre.getD 2 0 := rfl
  have hsw := Ty.sweepAll_len (Tk.rd pre 0) ss (Tk.rd pre 2)
  have h1 : ∀ i, Tk.rd pre1 i ≤ 4294967296 := by
    rw [T.p1]
    exact set_bd _ _ (by omega) (set_bd _ _ (by unfold wrap64; omega) (hq.bd wk1))
  have h2 : ∀ i, Tk.rd pre2 i ≤ 4294967296 := by
    rcases T.k with ⟨-, -, e, -⟩ | ⟨-, K⟩
    · rw [e]; exact h1
    · exact Kept_bd K h1 (fun y hy => by have := hq.lx y hy; omega) hq.ll (by omega) (by rw [List.length_map]; omega)
  rw [T.p']
  exact set_bd _ _ (by omega) h2
theorem Fin.memOk {c : Conf.Cf} {k : Nat} {pre : List Int} {ss : List S} {L : List Int} {pre' : List Int} {ss' : List S} {L' : List Int} (h : Fin c k pre ss L pre' ss' L') (hp : Tk.Pool c pre ss) (hq : PreY c pre L) (hr : c.right = true) : Ty.MemOk c (Tk.cells pre' ss') := by
  obtain ⟨⟨wk0, wk1⟩, sl0, sl1⟩ := right_small hr
  have hb := h.bdp hp hq hr
  refine ⟨fun o ho => ?_, ?_, ?_⟩
  · rw [Tk.rd_pre h.p (by unfold Ty.pc; omega)]
    have := hb (Ty.pc o)
    unfold Tk.rd at this
    omega
  · rw [Tk.rd_pre h.p (by omega)]
    have := hb 1
    unfold Tk.rd at this
    omega
  · rw [Tk.rd_pre h.p (by omega)]
    have hq := h.q
    unfold Tk.rd at hq
    rw [hq]
    exact Ty.lineOk_lw h.x wk1
theorem Fin.twice {c : Conf.Cf} {k k2 : Nat} {pre : List Int} {ss : List S} {L : List Int} {pre' : List Int} {ss' : List S} {L' : List Int} (h : Fin c k pre ss L pre' ss' L') (hp : Tk.Pool c pre ss) (hq : PreY c pre L) (hr : c.right = true) (hk : k < c.workers.toNat) (hk2 : k2 < c.workers.toNat) (hz : ∀ j, 3 ≤ j → pre.getD j 0 = 0) :
    ∃ t', Ty.it 2000 (Ty.Ty.new c k2, Tk.cells pre' ss') = (t', Tk.cells pre' ss') ∧ t'.st = 17 ∧ ∀ s ∈ ss', s.state ≠ 6 := by
  obtain ⟨⟨wk0, wk1⟩, sl0, sl1⟩ := right_small hr
  have hns : 1 ≤ Tk.ns c ∧ Tk.ns c ≤ 16 := by unfold Tk.ns; omega
  obtain ⟨pre1, pre2, T⟩ := h.t
  have hpt := T.preT hp.pl hk
  have hTD := T.tidy hp.pl hk
  have hz' : ∀ o, o < c.workers.toNat → Tk.rd pre' (3 + o) = 0 := by
    intro o ho
    by_cases e : o = k
    · subst e; exact hpt.2.2.2.1
    · rw [(hpt.2.2.2.2 o ho e).1]; exact hz _ (by omega)
  have hT2 := hTD.other hz' k2
  have hlo := fun s (hs : s ∈ ss') => Ty.no_limbo hTD hz' hs
  have hsl := h.p.sl
  have hsl0 := hp.sl
  have hsw := Ty.sweepAll_len (Tk.rd pre 0) ss (Tk.rd pre 2)
  have he := hq.ep
  have hrd : ∀ i, Tk.rd pre i = pre.getD i 0 := fun i => rfl
  have hr2 := hrd 2
  have hE2 := hpt.2.2.1
  obtain ⟨n, L'', pre'', ss'', pre3, pre4, t', hn, hi, h17, P', q', x', T'⟩ := Ty.alone_all (w := k2) (cl := Tk.rd pre 0) (E := Tk.rd pre' 2) h.p hns.1 hpt.2.1 rfl (by omega) (by rw [hsl]; omega) hk2 wk1 (L := L') h.q h.x
  obtain ⟨rfl, rfl, rfl⟩ := T'.same h.p.pl hk2 hT2 rfl (hz' k2 hk2)
  have hl' : L''.length ≤ L.length := by
    rcases T.k with ⟨-, h, -, -⟩ | ⟨-, h⟩
    · rw [h]; exact Nat.le_refl _
    · exact Kept_len h
  refine ⟨t', Ty.fin_of hi h17 ?_, h17, fun s hs => hlo s hs⟩
  have hll := hq.ll
  have hm : ∀ m, m ≤ 8 → Ty.most c m ≤ 900 := by
    intro m hm
    unfold Ty.most
    have h1 : c.workers.toNat ≤ 8 := by omega
    have h2 : (c.workers.toNat + 2) * Tk.ns c ≤ 10 * 16 := Nat.mul_le_mul (by omega) hns.2
    have h3 : m * (Tk.ns c + 5) ≤ 8 * 21 := Nat.mul_le_mul hm (by omega)
    omega
  have h1 := hm L''.length (by omega)
  omega
end Go.Proofs.YteadpgiffpfmnaaGreatDoor.Cl

namespace Go.Proofs.YteadpgiffpfmnaaGreatDoor.Cl
set_option linter.unusedVariables false
set_option linter.unusedSimpArgs false
open Go.RowKit Hp Slot RowL Life

/-- A word's digits, up to the first 0, each one less. -/
def rlist : Nat → Int → List Int
  | 0, _ => []
  | n + 1, q => if 0 < q ∧ 0 < q % 16 then (q % 16 - 1) :: rlist n (q / 16) else []
def rl (q : Int) : List Int := rlist 16 q
theorem rlist_len : ∀ (n : Nat) (q : Int), (rlist n q).length ≤ n := by
  intro n
  induction n with
  | zero => intro q; exact Nat.le_refl _
  | succ n ih =>
    intro q
    unfold rlist
    split
    · have := ih (q / 16); simp; omega
    · simp
theorem rlist_bd : ∀ (n : Nat) (q : Int), ∀ x ∈ rlist n q, 0 ≤ x ∧ x ≤ 14 := by
  intro n
  induction n with
  | zero => intro q x hx; simp [rlist] at hx
  | succ n ih =>
    intro q x hx
    unfold rlist at hx
    split at hx
    · rcases List.mem_cons.1 hx with rfl | hx
      · omega
      · exact ih _ x hx
    · simp at hx
theorem rlist_lw : ∀ (L : List Int) (n : Nat), L.length ≤ n → (∀ x ∈ L, 0 ≤ x ∧ x ≤ 14) → rlist n (Ty.lw L) = L := by
  intro L
  induction L with
  | nil =>
    intro n hn h
    cases n with
    | zero => rfl
    | succ n => simp [rlist, Ty.lw]
  | cons x L ih =>
    intro n hn h
    have hx := h x (by simp)
    have h0 : 0 ≤ Ty.lw L := Ty.lw_nonneg fun y hy => (h y (by simp [hy])).1
    cases n with
    | zero => simp at hn
    | succ n =>
      have e1 : Ty.lw (x :: L) % 16 = x + 1 := by simp only [Ty.lw]; omega
      have e2 : Ty.lw (x :: L) / 16 = Ty.lw L := by simp only [Ty.lw]; omega
      have e3 : 0 < Ty.lw (x :: L) := by simp only [Ty.lw]; omega
      unfold rlist
      rw [if_pos ⟨e3, by omega⟩, e1, e2, ih n (by simpa using hn) (fun y hy => h y (by simp [hy]))]
      simp
theorem rl_lw {L : List Int} (hl : L.length ≤ 16) (h : ∀ x ∈ L, 0 ≤ x ∧ x ≤ 14) : rl (Ty.lw L) = L := rlist_lw L 16 hl h
/-- What List leaves. -/
def ListPost (W : World) (l : List Int) (e : Ending) (W' : World) : Prop :=
  ∃ a c, e = .returned (.slice a l.length c) ∧ OwnS W' (.slice a l.length c) l.length 1 (l.map (Value.int .i64)) ∧ (∀ x, Fp (.slice a l.length c) x → W.heap.size ≤ x) ∧ Below W.heap.size W W'
set_option maxRecDepth 100000 in
set_option maxHeartbeats 4000000 in
theorem ref_list_any (W : World) (q : Int) (hq : q ≤ 9223372036854775807) :
    Calls Tryz.prog 17 #[.int .i64 q] W (ListPost W (rl q)) := by
  have h16 : q < 16 ^ (16 - 0) := by omega
  go_enter Tryz.func17, Tryz.ntmps17
  go_wp2_with fail
  go_loopw [3, 0] (fun v y wr => ∃ (k : Nat) (p : Int) (l : List Int), k ≤ 16 ∧ y = .int .i64 p ∧ RowKit.Hid (p < 16 ^ (16 - k) ∧ p ≤ 9223372036854775807) ∧ RowKit.Hid (l ++ rlist (16 - k) p = rl q) ∧ l.length = k ∧ RowKit.Hid (OwnS wr v k 1 (l.map (Value.int .i64))) ∧ RowKit.Hid (∀ x, Fp v x → W.heap.size ≤ x) ∧ RowKit.Hid (Below W.heap.size W wr)) (fun _ y _ => (intOf y).toNat)
  case atStart => exact ⟨0, q, [], by omega, rfl, Lib.hid ⟨h16, hq⟩, Lib.hid rfl, rfl, Lib.hid (ownS_nil _ 1), fun x h => absurd h (fp_nil x), Below.refl _ _⟩
  case round =>
    obtain ⟨k, p, l, hk, rfl, hp, hl, hll, hown, hfp, hB⟩ := hrel
    obtain ⟨a, cp, rfl⟩ := hown.out.form
    by_cases hc : 0 < p ∧ 0 < p % 16
    · obtain ⟨hp0, hp1⟩ := hc
      have hk16 : k < 16 := by
        have h := hp.out.1
        by_cases e : k = 16
        · subst e; simp at h; omega
        · omega
      have hstep : rlist (16 - k) p = (p % 16 - 1) :: rlist (16 - (k + 1)) (p / 16) := by
        rw [show 16 - k = (16 - (k + 1)) + 1 by omega]
        conv => lhs; unfold rlist
        rw [if_pos ⟨hp0, hp1⟩]
      have hlt : p / 16 < 16 ^ (16 - (k + 1)) := by
        have h := hp.out.1
        rw [show 16 - k = (16 - (k + 1)) + 1 by omega, Int.pow_succ] at h
        generalize (16 : Int) ^ (16 - (k + 1)) = z at *
        omega
      obtain ⟨d, hd, hd2⟩ : ∃ d, p.tmod 16 = d ∧ p % 16 = d := ⟨p % 16, Int.tmod_eq_emod_of_nonneg (by omega), rfl⟩
      obtain ⟨p2, hp2, hp3⟩ : ∃ p2, p.tdiv 16 = p2 ∧ p / 16 = p2 := ⟨p / 16, Int.tdiv_eq_ediv_of_nonneg (by omega), rfl⟩
      have hlt2 : p2.toNat < p.toNat := by omega
      have hle := hp.out.2
      have hle2 : p2 ≤ 9223372036854775807 := by omega
      have hw2 : wrap64 p2 = p2 := by unfold wrap64; omega
      have hd3 : d < 16 := by omega
      rw [hd2] at hp1 hstep
      rw [hp3] at hstep hlt
      have HL := Lib.hid (show (l ++ [d - 1]) ++ rlist (16 - (k + 1)) p2 = rl q from by rw [← hl.out, hstep]; simp)
      have HT := Lib.hid (And.intro hlt hle2)
      have hwd : IntKind.i64.wrap (d - 1) = d - 1 := by rw [IntKind.wrap_i64]; omega
      have HO := hown.out
      clear hstep hl hp hd2 hp3 hlt hq h16 hle hle2
      go_upto_region 3 with (fail)
      refine wp_region_lit ?_
      refine gl (.slice a k cp) ?_
      try simp only [Act.put, sA, sZ, sS]
      refine gl (.int .i64 p) ?_
      try simp only [Act.put, sA, sZ, sS]
      refine gl (.int .i64 d) ?_ (by go_simp)
      try simp only [Act.put, sA, sZ, sS]
      refine gl (.int .i64 (d - 1)) ?_ (by go_simp)
      try simp only [Act.put, sA, sZ, sS]
      refine wpList_push rfl (.tmp 14) rfl (d - 1) rfl rfl (.tmp 11) (.tmp 15) rfl (.slice a k cp) k l HO (by omega) rfl rfl ?_
      intro a' c' w9 hown' hfp' hch
      have hb9 : Below W.heap.size wr w9 := hch.below (B := W.heap.size) hB.out.size (fun q hq => hfp.out q hq)
      have HB9 := Lib.hid (hB.out.trans hb9)
      have HO9 := Lib.hid hown'
      have HF9 := Lib.hid (show ∀ x, Fp (.slice a' (k + 1) c') x → W.heap.size ≤ x from fun q hq => (hfp' q hq).elim (hfp.out q) (fun h => Nat.le_trans hB.out.size h))
      clear hb9 hown' HO hch hfp' hB hfp hown
      try simp only [Act.put, sA, sZ, sS]
      try dsimp only
      go_wp2_with fail
      go_roundw
      case rel => exact ⟨k + 1, p2, l ++ [d - 1], by omega, by rw [hw2], HT, HL, by simp [hll], HO9, HF9, HB9⟩
      case measure => simp only [intOf, hw2]; exact hlt2
    · have hend : rlist (16 - k) p = [] := by
        cases hn : 16 - k with
        | zero => rfl
        | succ n => unfold rlist; rw [if_neg hc]
      have hle : l = rl q := by rw [← hl.out, hend, List.append_nil]
      have hP : ListPost W (rl q) (.returned (.slice a k cp)) wr := by
        rw [← hle]
        rw [← hll] at hown hfp ⊢
        exact ⟨a, cp, rfl, hown.out, hfp.out, hB.out⟩
      have HP := Lib.hid hP
      clear hP hle hend hl hp hown hfp hB hq h16
      by_cases hp0 : 0 < p
      · obtain ⟨d, hd, hd2⟩ : ∃ d, p.tmod 16 = d ∧ p % 16 = d := ⟨p % 16, Int.tmod_eq_emod_of_nonneg (by omega), rfl⟩
        have hd0 : ¬ 0 < d := fun h => hc ⟨hp0, by omega⟩
        clear hc hd2
        go_wp2_with fail
        go_ret
        exact HP.out
      · clear hc
        go_wp2_with fail
        go_ret
        exact HP.out
end Go.Proofs.YteadpgiffpfmnaaGreatDoor.Cl

namespace Go.Proofs.YteadpgiffpfmnaaGreatDoor.Cl
set_option linter.unusedVariables false
set_option linter.unusedSimpArgs false
open Go.RowKit Hp Slot RowL Life

theorem below_drewN {B : Nat} {W w : World} (h : Below B W w) (n : Nat) : Below B W (w.drewN n) := ⟨h.os, h.tape, h.output, h.size, h.block⟩
/-- A slot lies here. -/
def SlotHere (w : World) (g off : Nat) (s : S) : Prop := ∀ (j : Nat) (v : Value), s.cells[j]? = some v → w.cell? ⟨g, off + j, none⟩ = some v
theorem SlotHere.below {w w' : World} {g off : Nat} {s : S} (h : SlotHere w g off s) (hb : Below w.heap.size w w') : SlotHere w' g off s := fun j v hv => Field.bkeep hb (h j v hv)
abbrev sv (s : S) : Value := .agg #[.int .i64 s.state, .int .i64 s.own, .int .i64 s.streams, .bool s.broken, .bool s.marked, .int .i64 s.uses, .int .i64 s.gen, .int .i64 s.epoch, .int .i64 s.version]
theorem run_slot {Sx : World → Prop} {a : Act} (x : Operand) (g off : Nat) (y : S) (hx : a.eval x = .pointer (some ⟨g, off, none⟩)) (hg : ∀ w, Sx w → SlotHere w g off y) : ∀ o : Oper, o.op = Op.load 41 x → ∀ w, Sx w → (execOp a.eval o).run Tryz.prog w = .ok (.value (sv y)) w := by
  intro o ho w hw
  have h := hg w hw
  have x0 := h 0 _ rfl
  have x1 := h 1 _ rfl
  have x2 := h 2 _ rfl
  have x3 := h 3 _ rfl
  have x4 := h 4 _ rfl
  have x5 := h 5 _ rfl
  have x6 := h 6 _ rfl
  have x7 := h 7 _ rfl
  have x8 := h 8 _ rfl
  simp only [Nat.add_zero, S.cells] at x0 x1 x2 x3 x4 x5 x6 x7 x8
  clear h hg hw
  unfold execOp
  simp only [ho, hx]
  go_simp
  try exact ⟨rfl, rfl, rfl, rfl, rfl, rfl, rfl, rfl, rfl⟩
  try rfl
theorem run_state {Sx : World → Prop} {a : Act} (x : Operand) (g off : Nat) (y : S) (hx : a.eval x = .pointer (some ⟨g, off, none⟩)) (hg : ∀ w, Sx w → SlotHere w g off y) : ∀ o : Oper, o.op = Op.load 3 x → ∀ w, Sx w → (execOp a.eval o).run Tryz.prog w = .ok (.value (.int .i64 y.state)) w := by
  intro o ho w hw
  have x0 := hg w hw 0 _ rfl
  simp only [Nat.add_zero, S.cells] at x0
  clear hg hw
  unfold execOp
  simp only [ho, hx]
  go_simp
  try exact ⟨rfl, rfl, rfl, rfl, rfl, rfl, rfl, rfl, rfl⟩
  try rfl
theorem run_int {Sx : World → Prop} {a : Act} (x : Operand) (g off : Nat) (v : Int) (hx : a.eval x = .pointer (some ⟨g, off, none⟩)) (hg : ∀ w, Sx w → w.cell? ⟨g, off, none⟩ = some (.int .i64 v)) : ∀ o : Oper, o.op = Op.load 3 x → ∀ w, Sx w → (execOp a.eval o).run Tryz.prog w = .ok (.value (.int .i64 v)) w := by
  intro o ho w hw
  have x0 := hg w hw
  clear hg hw
  unfold execOp
  simp only [ho, hx]
  go_simp
theorem run_bool {Sx : World → Prop} {a : Act} (x : Operand) (g off : Nat) (v : Bool) (hx : a.eval x = .pointer (some ⟨g, off, none⟩)) (hg : ∀ w, Sx w → w.cell? ⟨g, off, none⟩ = some (.bool v)) : ∀ o : Oper, o.op = Op.load 4 x → ∀ w, Sx w → (execOp a.eval o).run Tryz.prog w = .ok (.value (.bool v)) w := by
  intro o ho w hw
  have x0 := hg w hw
  clear hg hw
  unfold execOp
  simp only [ho, hx]
  go_simp
/-- Bools that fill a block. -/
def BRow (W : World) (g : Nat) (l : List Bool) : Prop := RowAt W g ⟨l.map Value.bool⟩ 4
theorem BRow.get {W : World} {g : Nat} {l : List Bool} (h : BRow W g l) {i : Nat} {x : Bool} (hx : l[i]? = some x) : W.cell? ⟨g, i, none⟩ = some (.bool x) := by
  rw [RowAt.cell h i]
  simp [hx]
theorem BRow.set {W : World} {g : Nat} {l : List Bool} (h : BRow W g l) (i : Nat) (x : Bool) : BRow (W.setCell ⟨g, i, none⟩ (.bool x)) g (l.set i x) := by
  have h1 := RowAt.setc h i (.bool x)
  unfold BRow
  have e : (⟨l.map Value.bool⟩ : Array Value).setIfInBounds i (.bool x) = ⟨(l.set i x).map Value.bool⟩ := by
    rw [List.map_set]
    simp
  rw [← e]
  exact h1
set_option maxRecDepth 100000 in
theorem bool_info : ∃ i0, Tryz.prog.info? 4 = some i0 ∧ i0.zero = some (.bool false) ∧ i0.size = 1 ∧ i0.bytes = 1 := by
  have h : (Tryz.prog.info? 4).map (fun i => (i.zero, i.size, i.bytes)) = some (some (.bool false), 1, 1) := by kernel_rfl
  cases hi : Tryz.prog.info? 4 with
  | none => rw [hi] at h; cases h
  | some i =>
    rw [hi] at h
    simp only [Option.map_some, Option.some.injEq, Prod.mk.injEq] at h
    exact ⟨i, rfl, h.1, h.2.1, h.2.2⟩
theorem made_bools (n : Nat) : madeCells #[.bool false] n = ⟨(List.replicate n false).map Value.bool⟩ := by
  apply Array.ext'
  rw [toList_madeCells_one]
  simp
theorem made_rep_bool (n : Nat) : madeCells #[.bool false] n = Array.replicate n (.bool false) := by
  apply Array.ext'
  rw [toList_madeCells_one]
  simp
/-- A list of bools is made. -/
theorem make_bools (w : World) (n : Nat) (hn : n ≤ 4096) : (Instr.makeSlice 46 (.int .i64 n) (.int .i64 n)).run Tryz.prog w = .ok (.slice (some ⟨w.heap.size, 0, none⟩) n n) (w.alloc (.cells (Array.replicate n (.bool false)) 4)) := by
  obtain ⟨i0, hi, hz0, hz1, hz2⟩ := bool_info
  have h := run_makeSlice (P := Tryz.prog) (w := w) 46 4 i0 (.bool false) Tryz.underlying46 hi hz0 .i64 .i64 n n (by omega) (by omega) (by rw [hz1]; simp; omega) (by rw [hz2]; omega) (by omega)
  rw [hz1] at h
  simp only [Int.toNat_natCast, Nat.mul_one] at h
  rw [h, ← made_rep_bool]
  rfl
theorem made_brow (w : World) (n : Nat) : BRow (w.alloc (.cells (Array.replicate n (.bool false)) 4)) w.heap.size (List.replicate n false) := by
  unfold BRow
  rw [← made_bools, made_rep_bool]
  exact RowAt.new w _ _
set_option maxRecDepth 100000 in
theorem slice_from (w : World) (wa : Option Addr) (m wc qn : Nat) (h : qn ≤ m) : (Instr.slice (31 : TypeId) (.slice wa m wc) (some (.int .i64 qn)) none none).run Tryz.prog w = .ok (sliced wa qn m wc 1) w := by
  rw [run_slice_l (P := Tryz.prog) (w := w) 31 wa m wc Tryz.underlying31 .i64 qn (by omega) (by omega)]
  have hs : (sizeOf (Tryz.prog.elem 31)).run Tryz.prog w = .ok 1 w := by kernel_rfl
  rw [hs]
  rfl
theorem run_slice_op {P : Program} {o : Oper} {a : Act} {w : World} (T : TypeId) (x y : Operand) (ho : o.op = .slice T x (some y) none none) {v1 v2 out : Value} (hx : a.eval x = v1) (hy : a.eval y = v2) (hT : P.underlying T = some (.slice (P.elem T)))
    (h : (Instr.slice T v1 (some v2) none none).run P w = .ok out w) : (execOp a.eval o).run P w = .ok (.value out) w := by
  unfold execOp
  simp only [ho, Option.map_some, Option.map_none, hx, hy]
  simp only [Sem.run_bind, run_sliceAt_slice w T _ _ _ _ hT, h]
  rfl
/-- A guarded call of a Go function, in a plain region, where it is wanted. -/
theorem gcallg {P : Program} {ops : Array Oper} {Q : Exit → Act → World → Prop} {rest : List Oper} {o : Oper} {a : Act} {w : World} (F : Nat) (args : Array Operand) (ats : Array TypeId) (vals : Array Value) (hE : ∀ args w, (callFunc F args).run P w = .ok (.enter F args) w)
    (h : Calls P F vals w fun e w' => ∃ v, e = .returned v ∧ wpList P ops Q rest (a.put o.dst v) w')
    (ho : o.op = Op.call { callee := Callee.value (Operand.func F), args := args, argTypes := ats } := by kernel_rfl) (hv : args.map a.eval = vals := by kernel_rfl) (hw : Region.wanted o (yielded ops a.tmps) = true := by kernel_rfl) : wpList P ops Q (o :: rest) a w := by
  unfold wpList
  rw [if_pos hw]
  refine .inl ?_
  have hx : (execOp a.eval o).run P w = .ok (.enter F vals) w := by
    unfold execOp
    simp only [ho, resolve]
    simp [go_sem, hv, hE, Act.eval, invoke, Deferred.ofValue]
  unfold Oper.wp
  rw [hx, Oper.upon_enter]
  refine h.mono ?_
  rintro e w' ⟨v, rfl, hk⟩
  exact hk
/-- What stands behind the first ones of a list. -/
theorem sliced_drop {w : World} {a : Option Addr} {c q : Nat} {l : List Int} (h : SliceAt w (.slice a l.length c) (l.map (Value.int .i64))) (hq : q ≤ l.length) (hc : l.length ≤ c) : SliceAt w (sliced a q l.length c 1) ((l.drop q).map (Value.int .i64)) := by
  obtain ⟨a', c', he, h1, h2⟩ := h
  injection he with e1 e2 e3
  subst e1
  subst e3
  rw [List.length_map] at h1
  unfold sliced
  refine ⟨_, _, by rw [List.length_map, List.length_drop], by rw [List.length_map, List.length_drop]; omega, ?_⟩
  by_cases h0 : l.length = q
  · left; rw [List.drop_of_length_le (by omega)]; rfl
  rcases h2 with h2 | ⟨g, off, rfl, h3⟩
  · left
    have h2 : l = [] := by simpa using h2
    subst h2
    simp
  · right
    rw [if_neg (by omega)]
    refine ⟨g, off + q, by simp [Addr.add], fun j u hu => ?_⟩
    rw [List.map_drop, List.getElem?_drop] at hu
    have := h3 (q + j) u hu
    rw [Nat.add_assoc]
    exact this
set_option maxRecDepth 100000 in
set_option maxHeartbeats 1000000 in
/-- The document's cell of a worker's grant. -/
theorem ref_grant_any (w : World) (c : Conf.Cf) (i : Nat) (hw : 0 ≤ c.workers ∧ c.workers ≤ 8) (hi : (i : Int) < c.workers) : Calls Tryz.prog 19 #[c.val, .int .i64 i] w fun e w' => e = .returned (.int .i64 (3 + c.workers + i)) ∧ Below w.heap.size w w' := by
  obtain ⟨cw, cs, cst, cwa, cu⟩ := c
  dsimp only at hw hi
  go_enter Tryz.func19, Tryz.ntmps19
  simp only [Conf.Cf.val, Conf.Cf.cells]
  have n0 : ¬ ((i : Int) < 0) := by omega
  have n1 : ¬ (cw ≤ (i : Int)) := by omega
  have n2 : decide (cw ≤ (i : Int)) = false := by simpa using n1
  have e2 : wrap64 (3 + cw + (i : Int)) = 3 + cw + i := by unfold wrap64; omega
  go_wp2_with fail
  go_ret
  exact ⟨by first | rfl | (simp <;> omega), (Below.refl _ _).alloc (Nat.le_refl _) _⟩
end Go.Proofs.YteadpgiffpfmnaaGreatDoor.Cl

namespace Go.Proofs.YteadpgiffpfmnaaGreatDoor.Mod
set_option linter.unusedVariables false
set_option linter.unusedSimpArgs false
open Go.RowKit Hp Slot RowL Life Cl

/-- The given without pins. -/
def noPins (g : Gv) : Gv := { g with pa := none, pc := 0, ps := [] }
theorem _root_.Go.Proofs.YteadpgiffpfmnaaGreatDoor.Cl.GvAt.noPins {W : World} {g : Gv} (h : GvAt W g) : GvAt W (Mod.noPins g) := ⟨h.b0, h.b1, h.b2, h.b3, h.b4, h.ss, h.fs, fun k x hx => by simp [Mod.noPins] at hx⟩
set_option maxRecDepth 100000 in
set_option maxHeartbeats 2000000 in
theorem tidyTwice_walk (W : World) (hL : Laid W) (g : Gv) (hgv : GvAt W g) (a0 : Option Addr) (len cap b0 off : Nat) (l : List Int) (hl : Base.IntsAt .u8 W a0 len cap b0 off l) (who : Int) (hwho : 0 ≤ who ∧ who < 256) (who2 : Int) (hwho2 : 0 ≤ who2 ∧ who2 < 256) :
    Calls Tryz.prog 6 #[g.val, .slice a0 len cap, .int .u8 who, .int .u8 who2] W fun e W' => e = .returned (.bool true) ∧ Below W.heap.size W W' := by
  have haw := fun w hL => yawake_any w hL
  have hcr := confOf_right g.b0 g.b1 g.b2 g.b3 g.b4
  have hwt := fun w h (h8 : len ≤ 8) hl => waits_any (a0 := a0) (len := len) (cap := cap) (b0 := b0) (off := off) (l := l) w (noPins g) h hl h8
  rw [show confOf (noPins g).b0 (noPins g).b1 (noPins g).b2 (noPins g).b3 (noPins g).b4 = confOf g.b0 g.b1 g.b2 g.b3 g.b4 from rfl] at hwt
  generalize confOf g.b0 g.b1 g.b2 g.b3 g.b4 = c at *
  have hA : Below W.heap.size W (W.alloc (.cells g.cells 27)) := (Below.refl _ _).alloc (Nat.le_refl _) _
  have hg : RowAt (W.alloc (.cells g.cells 27)) W.heap.size g.cells 27 := heap_alloc_new W _
  have hG := hgv.below hA
  have hL0 := hL.stable (hA.block 0 (hL.lt (by decide)))
  have hW0 : 0 < W.heap.size := hL.lt (by decide)
  go_enter Tryz.func6, Tryz.ntmps6
  go_upto_region 1 with (fail)
  generalize (W.alloc (.cells g.cells 27)) = w0 at *
  go_wp2_with fail
  refine (haw _ hL0).mono ?_
  rintro e w1 ⟨rfl, hb1⟩
  have hB1 := hA.trans (hb1.mono hA.size)
  have hg1 := RowAt.below hg hb1
  have hG1 := hG.below hb1
  have hgv0 := hgv
  clear haw hb1 hA hg hG hL0 hgv
  by_cases h8 : len ≤ 8
  rotate_left
  · have h8i : (8 : Int) < (len : Int) := by omega
    have HB := Lib.hid hB1
    clear hwt hG1 hg1 hB1 hgv0
    go_wp2_with fail
    go_ret
    exact ⟨rfl, HB.out⟩
  have h8i : ¬ (8 : Int) < (len : Int) := by omega
  have q7 := RowAt.cell hg1 7
  have z7 := RowAt.frozen hg1 7
  have hgs : RowAt (w1.setCell ⟨W.heap.size, 7, none⟩ (.slice none 0 0)) W.heap.size (noPins g).cells 27 := RowAt.setc hg1 7 (.slice none 0 0)
  have hB2' := hB1.setCell (p := ⟨W.heap.size, 7, none⟩) (Nat.le_refl _) (.slice none 0 0)
  have hl2 := hl.later hB2' (Nat.le_refl _)
  have hG2 := (hgv0.below hB2').noPins
  have HQ := Lib.hid (And.intro hG2 (And.intro hgs (And.intro hB2' hl2)))
  clear hG1 hB1 hG2 hgs hB2' hl2
  have q7' : w1.cell? ⟨W.heap.size, 7, none⟩ = some (.slice g.pa g.ps.length g.pc) := q7
  clear q7 hg1
  go_upto_region 5 with (fail)
  obtain ⟨hG2, hg2, hB1, hl1⟩ := HQ.out
  generalize (w1.setCell ⟨W.heap.size, 7, none⟩ (.slice none 0 0)) = w1' at *
  clear HQ q7' z7
  refine wp_region_lit ?_
  refine grow hg2 27 (.tmp 4) Tryz.underlying27 ?_
  try simp only [Act.put, sA, sZ, sS]
  refine gl (.slice a0 len cap) ?_
  try simp only [Act.put, sA, sZ, sS]
  refine gcall 10 #[.tmp 26, .tmp 27] #[27, 25] #[(noPins g).val, .slice a0 len cap] (enters_of Tryz.func10 (by kernel_rfl) rfl) ?_
  refine (hwt _ hG2 h8 hl1).mono ?_
  rintro e w2 ⟨gb, pre, ss, LL, rfl, hw2, hp, hq, hgb, hb2, hz⟩
  replace hz := hz rfl
  refine ⟨_, rfl, ?_⟩
  have hB2 := hB1.trans (hb2.mono hB1.size)
  dsimp only
  refine gl (.tuple #[c.val, .slice (some ⟨gb, 0, none⟩) (Tk.cells pre ss).length (Tk.cells pre ss).length]) ?_
  refine gl c.val ?_
  refine gl (.slice (some ⟨gb, 0, none⟩) (Tk.cells pre ss).length (Tk.cells pre ss).length) ?_
  refine gbox (ob := .cells zero5 30) (Z := zero5) (cs := c.cells) (t := 30) 30 (.tmp 10) (.tmp 29) rfl ?_
  refine gl (.slice (some ⟨gb, 0, none⟩) (Tk.cells pre ss).length (Tk.cells pre ss).length) ?_
  try simp only [Act.put, sA, sZ, sS]
  rw [setRow_new]
  have M4 : LwAt W c w2.heap.size gb (Tk.cells pre ss) (w2.alloc (.cells c.cells 30)) := ⟨hB2.alloc hB2.size _, heap_alloc_new w2 _, RowAt.below hw2 ((Below.refl _ _).alloc (Nat.le_refl _) _), ⟨by have := hB1.size; omega, RowAt.lt hw2, hW0⟩⟩
  generalize (w2.alloc (.cells c.cells 30)) = w4 at *
  generalize w2.heap.size = cb at *
  have hlen : (Tk.cells pre ss).length = Tk.sc c (Tk.ns c) := by unfold Tk.cells Tk.sc; have := hp.pl; have := hp.sl; simp; omega
  obtain ⟨⟨wk0, wk1⟩, sl0, sl1⟩ := right_small hcr
  have hn6 : 6 ≤ (Tk.cells pre ss).length := by rw [hlen]; unfold Tk.sc Tk.ns; omega
  clear hwt hG2 hg2 hw2 hB1 hB2 hb2 hgb hl1 h8i
  obtain ⟨i, hi, hilt⟩ : ∃ i : Nat, who.tmod c.workers = (i : Int) ∧ (i : Int) < c.workers := ⟨(who % c.workers).toNat, by rw [Int.tmod_eq_emod_of_nonneg hwho.1]; have := Int.emod_nonneg who (show c.workers ≠ 0 by omega); omega, by have := Int.emod_nonneg who (show c.workers ≠ 0 by omega); have := Int.emod_lt_of_pos who (show 0 < c.workers by omega); omega⟩
  obtain ⟨i2, hi2, hi2lt⟩ : ∃ i : Nat, who2.tmod c.workers = (i : Int) ∧ (i : Int) < c.workers := ⟨(who2 % c.workers).toNat, by rw [Int.tmod_eq_emod_of_nonneg hwho2.1]; have := Int.emod_nonneg who2 (show c.workers ≠ 0 by omega); omega, by have := Int.emod_nonneg who2 (show c.workers ≠ 0 by omega); have := Int.emod_lt_of_pos who2 (show 0 < c.workers by omega); omega⟩
  have hne : ¬ c.workers = 0 := by omega
  have hnb : (c.workers == 0) = false := by simpa using hne
  have x0 := hwho.1
  have x1 := hwho.2
  have y0 := hwho2.1
  have y1 := hwho2.2
  have hwr : IntKind.i64.wrap who = who := by rw [IntKind.wrap_i64]; omega
  have hwr2 : IntKind.i64.wrap who2 = who2 := by rw [IntKind.wrap_i64]; omega
  obtain ⟨pre', ss', L', t', hrun, h17, hF⟩ := fin_run (k := i) hp hq hcr (by omega)
  have hok : ∀ i : Nat, (i : Int) < c.workers → Ty.TyOk (Ty.Ty.new c i) (Tk.cells pre ss).length := fun i h => Ty.TyOk.new ⟨by omega, by omega⟩ (by unfold Tk.ns; omega) h (by rw [hlen]; rfl)
  have hme : Ty.MemOk c (Tk.cells pre ss) := memOk_of hp hq wk1
  have hme' := hF.memOk hp hq hcr
  obtain ⟨t2', hrun2, h172, hnl⟩ := hF.twice (k2 := i2) hp hq hcr (by omega) (by omega) hz
  have HF := Lib.hid hF
  clear hF hz
  have hl9 : (Tk.cells pre' ss').length = (Tk.cells pre ss).length := by have h1 := HF.out.p.pl; have h2 := HF.out.p.sl; rw [hlen]; unfold Tk.cells Tk.sc; simp; omega
  have HNL := Lib.hid hnl
  clear hnl
  go_upto_region 6 with (fail)
  have hld := laid_any w4 c hcr gb 0 (Tk.cells pre ss).length (Tk.cells pre ss) hlen M4.ints
  refine wp_region_lit ?_
  refine grow M4.cr 30 (.tmp 10) Tryz.underlying30 ?_
  refine gl (.slice (some ⟨gb, 0, none⟩) (Tk.cells pre ss).length (Tk.cells pre ss).length) ?_
  try simp only [Act.put, sA, sZ, sS]
  refine gcall 11 #[.tmp 31, .tmp 32] #[30, 31] #[c.val, .slice (some ⟨gb, 0, none⟩) (Tk.cells pre ss).length (Tk.cells pre ss).length] (enters_of Tryz.func11 (by kernel_rfl) rfl) ?_
  refine hld.mono ?_
  rintro e w5 ⟨mb, wb, rfl, hM5, hm1, hm2, hb5⟩
  refine ⟨_, rfl, ?_⟩
  have M5 := M4.below hb5
  have hmb : cb + 1 ≤ mb := Nat.le_trans M4.lt hm1
  have hwb : cb + 1 ≤ wb := Nat.le_trans M4.lt hm2
  have hL5 : Laid w5 := hL.stable (M5.b.block 0 (hL.lt (by decide)))
  clear hld hm1 hm2 hb5 M4 hl
  dsimp only
  have hmb0 : 0 ≠ mb := by omega
  have hwb0 : 0 ≠ wb := by omega
  have c0 := RowAt.cell M5.cr 0
  have c0 : w5.cell? ⟨cb, 0, none⟩ = some (.int .i64 c.workers) := c0
  go_upto_region 9 with (fail)
  have hD5 : Below w5.heap.size w5 w5.drew := (Below.refl _ _).drew
  have MD5 := M5.below hD5
  have hal := yalone_any (hM5.below hD5) (hL5.stable (hD5.block 0 (hL5.lt (by decide)))) hmb0 hwb0 ⟨by omega, by rw [hlen]; unfold Tk.sc Tk.ns; omega⟩ c i (hok i hilt) hme
  rw [hrun] at hal
  clear hrun hme
  have c1 : w5.drew.cell? ⟨cb, 0, none⟩ = some (.int .i64 c.workers) := (hD5.cell (by have := M5.lt; show cb < _; omega)).trans c0
  refine wp_region_held_drew (S := (fun w' => w'.cell? ⟨cb, 0, none⟩ = some (.int .i64 c.workers) ∧ RowAt w' cb c.cells 30)) (by kernel_rfl) (by exact ⟨c1, MD5.cr⟩) (fun hHeld => ?_)
  refine tKg 0 36 hHeld ?_
  try simp only [Act.put, sA, sZ, sS]
  refine tKw (gd := none) 1 37 (.load 30 (.tmp 10)) (.agg c.cells) (run_load_row 30 (.tmp 10) cb 30 c.cells _ (by kernel_rfl) Tryz.underlying30 rfl (by kernel_rfl) (fun w h => h.2)) hHeld ?_
  try simp only [Act.put, sA, sZ, sS]
  refine tKg 2 38 hHeld ?_
  try simp only [Act.put, sA, sZ, sS]
  refine tKg 3 39 hHeld ?_
  try simp only [Act.put, sA, sZ, sS]
  refine tKg 4 40 hHeld ?_
  try simp only [Act.put, sA, sZ, sS]
  refine tKg 5 41 hHeld ?_
  try simp only [Act.put, sA, sZ, sS]
  refine tKg 6 42 hHeld ?_
  try simp only [Act.put, sA, sZ, sS]
  refine rKc (i := 7) 12 #[.tmp 36, .tmp 37, .tmp 42] #[34, 30, 3] (some 43) none #[.pointer (some ⟨mb, 0, none⟩), c.val, .int .i64 i] (enters_of Tryz.func12 (by kernel_rfl) rfl) ?_
  refine (hal).mono ?_
  rintro e w7 ⟨rfl, tc, hM7, ht7, hC7⟩
  have M7 := MD5.keep (hC7.below (B := cb + 1) MD5.lt (fun q e => by rcases e with rfl | rfl <;> assumption))
  have hc7 : w7.cell? ⟨cb, 0, none⟩ = some (.int .i64 c.workers) := RowAt.cell M7.cr 0
  rw [decide_eq_true h17]
  dsimp only at hM7
  refine ⟨_, rfl, ⟨hc7, M7.cr⟩, fun hHeld => ?_⟩
  try simp only [Act.put, sA, sZ, sS]
  refine tKg 8 13 hHeld ?_
  try simp only [Act.put, sA, sZ, sS]
  refine wpAnyH_done (by kernel_rfl) ?_ _
  have hL7 : Laid w7 := hL.stable (M7.b.block 0 (hL.lt (by decide)))
  clear hHeld hal hM5 hL5 M5 MD5 hD5 c0 c1 hC7 h17 hi
  have hwo := words_any hM7
  have HM7 := Lib.hid M7
  have HC7 := Lib.hid hM7
  clear M7 hM7 hc7
  go_wp2_with fail
  refine hwo.mono ?_
  rintro e w9 ⟨na, ncap, rfl, hown, hfp, hb9⟩
  have hM9 := HC7.out.below hb9
  have M9 := HM7.out.below hb9
  have hL9 := hL7.stable (hb9.block 0 (hL7.lt (by decide)))
  rw [hl9, hlen] at hown ⊢
  obtain ⟨ng, no, rfl, hng, hni, hnz⟩ := own_ints hown (by omega)
  have hnge : w7.heap.size ≤ ng := hfp ng ((fp_some _ _ _ _).2 rfl)
  have hmlt := HC7.out.lt
  have hngm : ¬ cfp mb wb ng := fun h => by rcases h with h | h <;> omega
  have c0 : w9.cell? ⟨cb, 0, none⟩ = some (.int .i64 c.workers) := RowAt.cell M9.cr 0
  clear hwo hown hfp hb9 HM7 HC7 hL7 hnz hmlt hnge
  go_upto_region 11 with (fail)
  have hD9 : Below w9.heap.size w9 w9.drew := (Below.refl _ _).drew
  have MD9 := M9.below hD9
  have hal := yalone_any (hM9.below hD9) (hL9.stable (hD9.block 0 (hL9.lt (by decide)))) hmb0 hwb0 ⟨by omega, by rw [hlen] at ht7; unfold Tk.sc Tk.ns at ht7; omega⟩ c i2 (by rw [hl9]; exact hok i2 hi2lt) hme'
  rw [hrun2] at hal
  clear hrun2 hme' hok
  have c1 : w9.drew.cell? ⟨cb, 0, none⟩ = some (.int .i64 c.workers) := (hD9.cell (by have := M9.lt; show cb < _; omega)).trans c0
  refine wp_region_held_drew (S := (fun w' => w'.cell? ⟨cb, 0, none⟩ = some (.int .i64 c.workers) ∧ RowAt w' cb c.cells 30)) (by kernel_rfl) (by exact ⟨c1, MD9.cr⟩) (fun hHeld => ?_)
  refine tKg 0 46 hHeld ?_
  try simp only [Act.put, sA, sZ, sS]
  refine tKw (gd := none) 1 47 (.load 30 (.tmp 10)) (.agg c.cells) (run_load_row 30 (.tmp 10) cb 30 c.cells _ (by kernel_rfl) Tryz.underlying30 rfl (by kernel_rfl) (fun w h => h.2)) hHeld ?_
  try simp only [Act.put, sA, sZ, sS]
  refine tKg 2 48 hHeld ?_
  try simp only [Act.put, sA, sZ, sS]
  refine tKg 3 49 hHeld ?_
  try simp only [Act.put, sA, sZ, sS]
  refine tKg 4 50 hHeld ?_
  try simp only [Act.put, sA, sZ, sS]
  refine tKg 5 51 hHeld ?_
  try simp only [Act.put, sA, sZ, sS]
  refine tKg 6 52 hHeld ?_
  try simp only [Act.put, sA, sZ, sS]
  refine rKc (i := 7) 12 #[.tmp 46, .tmp 47, .tmp 52] #[34, 30, 3] (some 53) none #[.pointer (some ⟨mb, 0, none⟩), c.val, .int .i64 i2] (enters_of Tryz.func12 (by kernel_rfl) rfl) ?_
  refine (hal).mono ?_
  rintro e w11 ⟨rfl, tc2, hM7, ht72, hC7⟩
  have M7 := MD9.keep (hC7.below (B := cb + 1) MD9.lt (fun q e => by rcases e with rfl | rfl <;> assumption))
  have hc7 : w11.cell? ⟨cb, 0, none⟩ = some (.int .i64 c.workers) := RowAt.cell M7.cr 0
  rw [decide_eq_true h172]
  dsimp only at hM7
  have hni2 : IntsB w11 ng no (Tk.cells pre' ss') := fun k x hx => (hC7.cell (p := ⟨ng, no + k, none⟩) hng hngm).trans ((hni.keep hD9 hng) k x hx)
  have hng2 : ng < w11.heap.size := Nat.lt_of_lt_of_le hng (Nat.le_trans hD9.size hC7.size)
  refine ⟨_, rfl, ⟨hc7, M7.cr⟩, fun hHeld => ?_⟩
  try simp only [Act.put, sA, sZ, sS]
  refine tKg 8 15 hHeld ?_
  try simp only [Act.put, sA, sZ, sS]
  refine wpAnyH_done (by kernel_rfl) ?_ _
  clear hHeld hal hM9 hL9 M9 MD9 hD9 c0 c1 hC7 h172 hi2 hni hng hngm hnb hne x0 x1 y0 y1 hwr hwr2 ht7 ht72 hmb0 hwb0
  have hns : Tk.ns c ≤ 16 := by unfold Tk.ns; omega
  have hsl' : ss'.length = Tk.ns c := HF.out.p.sl
  have hwd : ∀ (q : Nat) s, ss'[q]? = some s → (Tk.cells pre' ss')[Tk.sc c q]? = some s.word ∧ s.right = true ∧ s.state ≠ 6 := fun q s h => by have h1 := (List.getElem?_eq_some_iff.1 h).1; exact ⟨by rw [rd_here (by rw [hl9, hlen]; unfold Tk.sc; omega), Tk.rd_slot HF.out.p h], HF.out.p.ok s (List.mem_of_getElem? h), HNL.out s (List.mem_of_getElem? h)⟩
  have hslot := fun w (q : Nat) (h : q < Tk.ns c) => ref_slot_any w c q ⟨by omega, wk1⟩ ⟨by unfold Tk.ns at h; omega, by omega⟩
  have hjs : ∀ q : Nat, q < Tk.ns c → Tk.sc c q < Tk.sc c (Tk.ns c) ∧ 3 + 2 * c.workers + (q : Int) = (Tk.sc c q : Nat) := fun q h => by unfold Tk.sc; omega
  have hnq : ((Tk.ns c : Nat) : Int) = c.slots := by unfold Tk.ns; omega
  have HN := Lib.hid hni2
  have HM := Lib.hid M7
  have HC := Lib.hid hM7
  have HW := Lib.hid hwd
  have HSL := Lib.hid hslot
  have HS := Lib.hid hsl'
  clear hni2 M7 hM7 hwd hslot hsl' hc7
  go_wp2_with fail
  go_loopw [16] (fun i wr => ∃ q : Nat, q ≤ Tk.ns c ∧ i = .int .i64 q ∧ RowKit.Hid (Below w11.heap.size w11 wr)) (fun i _ => Tk.ns c - (intOf i).toNat)
  case atStart => exact ⟨0, by omega, rfl, Below.refl _ _⟩
  case round =>
    obtain ⟨q, hq, rfl, hB⟩ := hrel
    have hMr := HM.out.below hB.out
    have c1 : wr.cell? ⟨cb, 1, none⟩ = some (.int .i64 c.slots) := RowAt.cell hMr.cr 1
    by_cases hlt : q < Tk.ns c
    · obtain ⟨s, hs⟩ : ∃ s, ss'[q]? = some s := ⟨_, List.getElem?_eq_getElem (by rw [HS.out]; exact hlt)⟩
      obtain ⟨hxn, hrt, h6⟩ := HW.out q s hs
      have hdw := Slot.dec_word hrt
      have hwb2 : s.word < 9223372036854775808 := by have := word_bd hrt; omega
      obtain ⟨hj1, hj2⟩ := hjs q hlt
      have hsl := HSL.out wr q hlt
      rw [hj2] at hsl
      have hrd := fun w => ref_decode_any w s.word hwb2
      rw [hdw] at hrd
      have gn := HN.out _ _ hxn
      generalize s.word = xw at *
      generalize Tk.sc c q = j at *
      have k0 : (0 : Int) ≤ (q : Int) := by omega
      have k1 : (q : Int) < c.slots := by omega
      have j0 : (0 : Int) ≤ (j : Int) := by omega
      have j1 : (j : Int) < (Tk.sc c (Tk.ns c) : Int) := by omega
      obtain ⟨st, ow, sm, br, ma, us, ge, ep, ve⟩ := s
      simp only [Option.getD_some, Option.isSome_some] at hrd
      have h6b : (st == 6) = false := by simpa using h6
      have HCr := Lib.hid hMr.cr
      clear hs hxn hrt hdw hwb2 hj1 hj2 hMr h6
      go_upto_region 15 with (fail)
      refine wp_region_lit ?_
      refine gl (.slice (some ⟨ng, no, none⟩) (Tk.sc c (Tk.ns c)) ncap) ?_
      try simp only [Act.put, sA, sZ, sS]
      refine grow HCr.out 30 (.tmp 10) Tryz.underlying30 ?_
      try simp only [Act.put, sA, sZ, sS]
      refine gl (.int .i64 q) ?_
      try simp only [Act.put, sA, sZ, sS]
      refine gcall 20 #[.tmp 62, .tmp 63] #[30, 3] #[c.val, .int .i64 q] (enters_of Tryz.func20 (by kernel_rfl) rfl) ?_
      refine hsl.mono ?_
      rintro e w12 ⟨rfl, hb12⟩
      refine ⟨_, rfl, ?_⟩
      have hB12 := hB.out.trans (hb12.mono hB.out.size)
      have gn := Field.bkeep hB12 gn
      clear hsl hb12 c1
      dsimp only
      refine gl (.pointer (some ⟨ng, no + j, none⟩)) ?_ (hr := by go_simp)
      try simp only [Act.put, sA, sZ, sS]
      refine gl (.int .i64 xw) ?_ (hr := by go_simp)
      try simp only [Act.put, sA, sZ, sS]
      refine gcall 22 #[.tmp 66] #[3] #[.int .i64 xw] (enters_of Tryz.func22 (by kernel_rfl) rfl) ?_
      refine (hrd _).mono ?_
      rintro e w13 ⟨rfl, hb13⟩
      refine ⟨_, rfl, ?_⟩
      have hB13 := hB12.trans (hb13.mono hB12.size)
      clear hb13 hrd gn
      dsimp only
      refine gl (.tuple #[S.val ⟨st, ow, sm, br, ma, us, ge, ep, ve⟩, .bool true]) ?_
      try simp only [Act.put, sA, sZ, sS]
      refine gl (S.val ⟨st, ow, sm, br, ma, us, ge, ep, ve⟩) ?_
      try simp only [Act.put, sA, sZ, sS]
      refine gl (.bool true) ?_
      try simp only [Act.put, sA, sZ, sS]
      refine gbox (ob := .cells zero9 41) (Z := zero9) (cs := S.cells ⟨st, ow, sm, br, ma, us, ge, ep, ve⟩) (t := 41) 41 (.tmp 17) (.tmp 68) rfl ?_
      try simp only [Act.put, sA, sZ, sS]
      rw [setRow_new]
      refine gl (.bool true) ?_
      try simp only [Act.put, sA, sZ, sS]
      have hB14 : Below w11.heap.size w11 (w13.alloc (.cells (S.cells ⟨st, ow, sm, br, ma, us, ge, ep, ve⟩) 41)) := hB13.alloc hB13.size _
      have hs14 : RowAt (w13.alloc (.cells (S.cells ⟨st, ow, sm, br, ma, us, ge, ep, ve⟩) 41)) w13.heap.size (S.cells ⟨st, ow, sm, br, ma, us, ge, ep, ve⟩) 41 := RowAt.new _ _ _
      generalize (w13.alloc (.cells (S.cells ⟨st, ow, sm, br, ma, us, ge, ep, ve⟩) 41)) = w14 at *
      generalize w13.heap.size = sb at *
      have s0 : w14.cell? ⟨sb, 0, none⟩ = some (.int .i64 st) := RowAt.cell hs14 0
      have HB14 := Lib.hid hB14
      clear hs14 hB14 hB13 hB12 hB
      go_wp2_with fail
      go_roundw
      case rel => exact ⟨q + 1, by omega, by go_num, HB14⟩
      case measure => simp [intOf]; omega
    · have k1 : ¬ (q : Int) < c.slots := by omega
      have hwo := words_any (HC.out.below hB.out)
      have hBd := HM.out.b.trans (hB.out.mono HM.out.b.size)
      have hn2 := HN.out.keep hB.out hng2
      have HBd := Lib.hid hBd
      have HN2 := Lib.hid hn2
      have hszz := hB.out.size
      clear hMr hlt hBd hn2
      go_wp2_with fail
      refine hwo.mono ?_
      rintro e w15 ⟨fa, fcap, rfl, hown, hfp, hb15⟩
      have hn3 := HN2.out.keep hb15 (Nat.lt_of_lt_of_le hng2 hszz)
      have hin := Ref01.ints_any w15 (.slice fa (Tk.cells pre' ss').length fcap) (.slice (some ⟨ng, no, none⟩) (Tk.sc c (Tk.ns c)) ncap) (Tk.cells pre' ss') (Tk.cells pre' ss') (own_slice hown (by rw [hl9, hlen]; unfold Tk.sc; omega)) (by have h := hn3.at (c := ncap) (by rw [hl9, hlen]; unfold maxLen Tk.sc; omega); rw [hl9, hlen] at h; exact h)
      have HBE := Lib.hid (HBd.out.trans (hb15.mono HBd.out.size))
      rw [decide_eq_true rfl] at hin
      rw [hl9, hlen] at hin ⊢
      clear hown hfp hn3 hb15 hwo HBd HN2 HF HW HC HN HNL HS HSL HM hjs hl9 hlen hszz hB hng2
      generalize Tk.sc c (Tk.ns c) = nn at *
      go_wp2_with fail
      refine hin.mono ?_
      rintro e w16 ⟨rfl, n, rfl⟩
      clear hin
      go_wp2_with fail
      go_ret
      exact ⟨Base.ret_bool (by simp), below_drewN HBE.out n⟩
end Go.Proofs.YteadpgiffpfmnaaGreatDoor.Mod

namespace Go.Proofs.YteadpgiffpfmnaaGreatDoor.tidyTwice
open Go.ChangeShapes Go.WideShapes Go.ChangeAt Go.RowKit
set_option linter.unusedVariables false
set_option linter.unusedSimpArgs false

theorem own : ownKnob Tryz.prog.godebug = none := by kernel_rfl
theorem laidOut : laidOutB Tryz.prog = true := by kernel_rfl

set_option maxRecDepth 100000 in
theorem lifted (os : Os) (started : os.Started) (H : Type) (enc : TypeId × Value → H) :
    ReturnsInHanded {} Tryz.checked os 6 .any (fun w args => (Rows.tidyTwiceSpec.pre enc Tryz.prog Tryz.f6 [] false w args ∧ laidMetH Tryz.prog Mod.lst w) ∧ sizedMet enc Tryz.prog Tryz.f6 (OpenSpec.ofChange Rows.tidyTwiceSpec) false w args) (Rows.tidyTwiceSpec.post enc Tryz.prog Tryz.f6 false true false false) := by
  refine returnsInHanded_of_change_and (C := Tryz.checked) (X := fun w _ => laidMetH Tryz.prog Mod.lst w) (fun _ _ _ hh h => h.of_heap hh) own started (by kernel_rfl) Tryz.func6
    (ChangeSpec.witness_shaped (enc := enc) (C := Tryz.checked) (os := os) (X := fun w _ => laidMetH Tryz.prog Mod.lst w) false (World.doorLaid Tryz.prog 23 os) #[.agg #[.int .u8 0, .int .u8 0, .int .u8 0, .int .u8 0, .int .u8 0, .slice none 0 0, .slice none 0 0, .slice none 0 0], .slice none 0 0, .int .u8 0, .int .u8 0] 8 rfl (World.shaped_of_RefB (by kernel_rfl) (by kernel_rfl)) (by kernel_rfl) (by kernel_rfl) (by kernel_rfl) (Mod.door_met os _)) ?_
  intro W base args ds gs before hval0 hW _ _ hL _
  have hval : ∀ (j : Nat) t v, Tryz.f6.params[j]? = some t → args[j]? = some v → Value.okWide Tryz.prog W .any base t v := hval0
  have hW' := hW
  obtain ⟨p, q, hA0, hV, rfl, hfz, hnd⟩ := hW
  have hA : DataW.TrodAll enc Tryz.prog W 0 (fun _ => true) true Tryz.f6.params.toList args.toList ds p := hA0
  rw [Tryz.params6] at hA hval
  obtain ⟨v0, vs0, d0, ds0, p0, q0, hargs, rfl, rfl, h0, r0⟩ := trodAll_cons hA
  obtain ⟨v1, vs1, d1, ds1, p1, q1, rfl, rfl, rfl, h1, r1⟩ := trodAll_cons r0
  obtain ⟨v2, vs2, d2, ds2, p2, q2, rfl, rfl, rfl, h2, r2⟩ := trodAll_cons r1
  obtain ⟨v3, vs3, d3, ds3, p3, q3, rfl, rfl, rfl, h3, r3⟩ := trodAll_cons r2
  obtain ⟨rfl, rfl, rfl⟩ := trodAll_nil r3
  obtain rfl : args = #[v0, v1, v2, v3] := by cases args; simp_all
  obtain ⟨rfl, rfl⟩ := trodVars_none hV
  have k0 := h0
  have lt0 : ∀ x ∈ p0, x.block < W.heap.size := by obtain ⟨m, hm⟩ := k0; exact DataW.trod_lt m _ _ _ hm
  obtain ⟨g0, rfl, w0⟩ := Mod.open_gv (hval 0 27 v0 rfl rfl) h0
  have k1 := h1
  have lt1 : ∀ x ∈ p1, x.block < W.heap.size := by obtain ⟨m, hm⟩ := k1; exact DataW.trod_lt m _ _ _ hm
  obtain ⟨a1, len1, cap1, rfl⟩ := okWide_slice Tryz.underlying25 (hval 1 25 v1 rfl rfl)
  obtain ⟨b1, off1, l1, w1⟩ : ∃ b off l, Base.IntsAt .u8 W a1 len1 cap1 b off l := by
    obtain ⟨fuel, hf⟩ := h1
    rcases open_ints Tryz.underlying25 Tryz.underlying5 (by kernel_rfl) hf with ⟨hcs, _⟩ | ⟨x, l, c, zs, hcs, _, hl, hm, hz, _, hcell, hwz⟩
    · simp [Value.cells] at hcs
      obtain ⟨rfl, rfl, rfl⟩ := hcs
      exact ⟨0, 0, [], Base.intsAt_nil _ _⟩
    · simp [Value.cells] at hcs
      obtain ⟨rfl, rfl, rfl⟩ := hcs
      obtain ⟨b, off, h⟩ := Base.intsAt_some hl hm (by simpa using hz) hcell hwz
      exact ⟨b, off, _, h⟩
  obtain ⟨a2, rfl, rfl, rfl, w2⟩ := open_int Tryz.underlying5 (hval 2 5 v2 rfl rfl) h2
  obtain ⟨a3, rfl, rfl, rfl, w3⟩ := open_int Tryz.underlying5 (hval 3 5 v3 rfl rfl) h3
  have hLd := Mod.of_laid hL
  clear hA0 hval0
  refine (Mod.tidyTwice_walk W hLd g0 w0 _ _ _ _ _ _ w1 _ (Mod.u8_bd w2) _ (Mod.u8_bd w3)).mono fun e W' ⟨he, bel⟩ => ?_
  subst he
  exact ⟨_, rfl, _, _, _, [], _, [], hW', trodAll_mk1 (shut_bool Tryz.underlying4 _), (trodAll_cons_mk (Below.trod laidOut (by kernel_rfl) (of_decide_eq_true (by kernel_rfl)) k0 bel lt0) (trodAll_cons_mk (Below.trod laidOut (by kernel_rfl) (of_decide_eq_true (by kernel_rfl)) k1 bel lt1) (trodAll_cons_mk (shut_int Tryz.underlying5 w2) (trodAll_cons_mk (shut_int Tryz.underlying5 w3) trodAll_mk0)))), rfl, bel.frame _, fun h => by cases h⟩

theorem over : Rows.tidyTwiceRow.holds Tryz.pinned (OpenSpec.ofChange Rows.tidyTwiceSpec) :=
  OpenClaim.holds_of_wide 6 Tryz.f6 rfl rfl rfl rfl rfl rfl rfl ⟨rfl, rfl, rfl, rfl, rfl⟩ rfl rfl rfl rfl rfl (by kernel_rfl) Tryz.func6 (by kernel_rfl)
    (of_decide_eq_true (by kernel_rfl)) (by unfold Func.isWrapper; first | (rw [if_pos (by decide +kernel)]; kernel_rfl) | (rw [if_neg (by decide +kernel)]; exact ⟨rfl, rfl⟩))
    (fun os started H enc _ => lifted os started H enc)

theorem proved : Rows.TidyTwiceCardSaid :=
  Claim7.holds_tied_plain_at .later [] [.data] true (true, "cd55222638d17cc50f25ad6c8bf105d0d96fe0f485c41963596c810bfd790a53") false
    over (fun _ h => by cases h) (by kernel_rfl) (fun _ h => by cases h) tidyTwice_row_tie rfl ⟨rfl, rfl⟩ (by kernel_rfl) rfl
    (fun f fn hf hfn => by
      obtain rfl : f = 6 := Option.some.inj ((show Tryz.prog.funcNamed "coachhouse/coachhouselaw20.TidyTwice" = some 6 by kernel_rfl).symm.trans hf) |>.symm
      obtain rfl : fn = Tryz.f6 := (Option.some.inj (Tryz.func6.symm.trans hfn)).symm
      exact ⟨by kernel_rfl, fun j t ht => by
        rw [Tryz.params6] at ht
        have hm : t ∈ [27, 25, 5, 5] := by simpa using Array.mem_of_getElem? ht
        have hall : ([27, 25, 5, 5].all fun u => !Tryz.prog.wantsStandIn u) = true := by kernel_rfl
        exact (show Tryz.prog.wantsStandIn t = false by simpa using List.all_eq_true.1 hall t hm)⟩)
    (by kernel_rfl)
#print axioms proved
end Go.Proofs.YteadpgiffpfmnaaGreatDoor.tidyTwice

