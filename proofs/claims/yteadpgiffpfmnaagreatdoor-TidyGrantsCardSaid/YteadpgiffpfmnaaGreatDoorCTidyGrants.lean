/- The statement TidyGrants holds, for every input: the call answers true and leaves what it was handed as it was, where the package's table slot.fields is laid as the program's text lays it (the tied card). -/
import Derived.Test.YteadpgiffpfmnaaGreatDoorQ18
import Derived.Test.YteadpgiffpfmnaaGreatDoorQ1
import Derived.Test.YteadpgiffpfmnaaGreatDoorQ11
import Derived.Test.YteadpgiffpfmnaaGreatDoorQ12
import Derived.Test.YteadpgiffpfmnaaGreatDoorQ15
import Derived.Test.YteadpgiffpfmnaaGreatDoorQ2
import Derived.Test.YteadpgiffpfmnaaGreatDoorRows
import Derived.Test.YteadpgiffpfmnaaGreatDoorTie
import Derived.Test.YteadpgiffpfmnaaGreatDoorCards
import Derived.WalkKit
import Derived.ProofKit
import Derived.OpenShut
import Derived.ShutString
import Derived.ChangeOld
import Derived.Below
import Derived.LaidMore
import Derived.SevenTiedAt

namespace Go.Proofs.YteadpgiffpfmnaaGreatDoor.Cl
set_option linter.unusedVariables false
set_option linter.unusedSimpArgs false
open Go.RowKit Hp Slot RowL Life

/-- A word's digits, up to the first 0, each one less. -/
def rlist : Nat → Int → List Int
  | 0, _ => []
  | n + 1, q => if 0 < q ∧ 0 < q % 16 then (q % 16 - 1) :: rlist n (q / 16) else []
def rl (q : Int) : List Int := rlist 16 q
theorem rlist_len : ∀ (n : Nat) (q : Int), (rlist n q).length ≤ n := by
  intro n
  induction n with
  | zero => intro q; exact Nat.le_refl _
  | succ n ih =>
    intro q
    unfold rlist
    split
    · have := ih (q / 16); simp; omega
    · simp
theorem rlist_bd : ∀ (n : Nat) (q : Int), ∀ x ∈ rlist n q, 0 ≤ x ∧ x ≤ 14 := by
  intro n
  induction n with
  | zero => intro q x hx; simp [rlist] at hx
  | succ n ih =>
    intro q x hx
    unfold rlist at hx
    split at hx
    · rcases List.mem_cons.1 hx with rfl | hx
      · omega
      · exact ih _ x hx
    · simp at hx
theorem rlist_lw : ∀ (L : List Int) (n : Nat), L.length ≤ n → (∀ x ∈ L, 0 ≤ x ∧ x ≤ 14) → rlist n (Ty.lw L) = L := by
  intro L
  induction L with
  | nil =>
    intro n hn h
    cases n with
    | zero => rfl
    | succ n => simp [rlist, Ty.lw]
  | cons x L ih =>
    intro n hn h
    have hx := h x (by simp)
    have h0 : 0 ≤ Ty.lw L := Ty.lw_nonneg fun y hy => (h y (by simp [hy])).1
    cases n with
    | zero => simp at hn
    | succ n =>
      have e1 : Ty.lw (x :: L) % 16 = x + 1 := by simp only [Ty.lw]; omega
      have e2 : Ty.lw (x :: L) / 16 = Ty.lw L := by simp only [Ty.lw]; omega
      have e3 : 0 < Ty.lw (x :: L) := by simp only [Ty.lw]; omega
      unfold rlist
      rw [if_pos ⟨e3, by omega⟩, e1, e2, ih n (by simpa using hn) (fun y hy => h y (by simp [hy]))]
      simp
theorem rl_lw {L : List Int} (hl : L.length ≤ 16) (h : ∀ x ∈ L, 0 ≤ x ∧ x ≤ 14) : rl (Ty.lw L) = L := rlist_lw L 16 hl h
/-- What List leaves. -/
def ListPost (W : World) (l : List Int) (e : Ending) (W' : World) : Prop :=
  ∃ a c, e = .returned (.slice a l.length c) ∧ OwnS W' (.slice a l.length c) l.length 1 (l.map (Value.int .i64)) ∧ (∀ x, Fp (.slice a l.length c) x → W.heap.size ≤ x) ∧ Below W.heap.size W W'
set_option maxRecDepth 100000 in
set_option maxHeartbeats 4000000 in
theorem ref_list_any (W : World) (q : Int) (hq : q ≤ 9223372036854775807) :
    Calls Tryz.prog 17 #[.int .i64 q] W (ListPost W (rl q)) := by
  have h16 : q < 16 ^ (16 - 0) := by omega
  go_enter Tryz.func17, Tryz.ntmps17
  go_wp2_with fail
  go_loopw [3, 0] (fun v y wr => ∃ (k : Nat) (p : Int) (l : List Int), k ≤ 16 ∧ y = .int .i64 p ∧ RowKit.Hid (p < 16 ^ (16 - k) ∧ p ≤ 9223372036854775807) ∧ RowKit.Hid (l ++ rlist (16 - k) p = rl q) ∧ l.length = k ∧ RowKit.Hid (OwnS wr v k 1 (l.map (Value.int .i64))) ∧ RowKit.Hid (∀ x, Fp v x → W.heap.size ≤ x) ∧ RowKit.Hid (Below W.heap.size W wr)) (fun _ y _ => (intOf y).toNat)
  case atStart => exact ⟨0, q, [], by omega, rfl, Lib.hid ⟨h16, hq⟩, Lib.hid rfl, rfl, Lib.hid (ownS_nil _ 1), fun x h => absurd h (fp_nil x), Below.refl _ _⟩
  case round =>
    obtain ⟨k, p, l, hk, rfl, hp, hl, hll, hown, hfp, hB⟩ := hrel
    obtain ⟨a, cp, rfl⟩ := hown.out.form
    by_cases hc : 0 < p ∧ 0 < p % 16
    · obtain ⟨hp0, hp1⟩ := hc
      have hk16 : k < 16 := by
        have h := hp.out.1
        by_cases e : k = 16
        · subst e; simp at h; omega
        · omega
      have hstep : rlist (16 - k) p = (p % 16 - 1) :: rlist (16 - (k + 1)) (p / 16) := by
        rw [show 16 - k = (16 - (k + 1)) + 1 by omega]
        conv => lhs; unfold rlist
        rw [if_pos ⟨hp0, hp1⟩]
      have hlt : p / 16 < 16 ^ (16 - (k + 1)) := by
        have h := hp.out.1
        rw [show 16 - k = (16 - (k + 1)) + 1 by omega, Int.pow_succ] at h
        generalize (16 : Int) ^ (16 - (k + 1)) = z at *
        omega
      obtain ⟨d, hd, hd2⟩ : ∃ d, p.tmod 16 = d ∧ p % 16 = d := ⟨p % 16, Int.tmod_eq_emod_of_nonneg (by omega), rfl⟩
      obtain ⟨p2, hp2, hp3⟩ : ∃ p2, p.tdiv 16 = p2 ∧ p / 16 = p2 := ⟨p / 16, Int.tdiv_eq_ediv_of_nonneg (by omega), rfl⟩
      have hlt2 : p2.toNat < p.toNat := by omega
      have hle := hp.out.2
      have hle2 : p2 ≤ 9223372036854775807 := by omega
      have hw2 : wrap64 p2 = p2 := by unfold wrap64; omega
      have hd3 : d < 16 := by omega
      rw [hd2] at hp1 hstep
      rw [hp3] at hstep hlt
      have HL := Lib.hid (show (l ++ [d - 1]) ++ rlist (16 - (k + 1)) p2 = rl q from by rw [← hl.out, hstep]; simp)
      have HT := Lib.hid (And.intro hlt hle2)
      have hwd : IntKind.i64.wrap (d - 1) = d - 1 := by rw [IntKind.wrap_i64]; omega
      have HO := hown.out
      clear hstep hl hp hd2 hp3 hlt hq h16 hle hle2
      go_upto_region 3 with (fail)
      refine wp_region_lit ?_
      refine gl (.slice a k cp) ?_
      try simp only [Act.put, sA, sZ, sS]
      refine gl (.int .i64 p) ?_
      try simp only [Act.put, sA, sZ, sS]
      refine gl (.int .i64 d) ?_ (by go_simp)
      try simp only [Act.put, sA, sZ, sS]
      refine gl (.int .i64 (d - 1)) ?_ (by go_simp)
      try simp only [Act.put, sA, sZ, sS]
      refine wpList_push rfl (.tmp 14) rfl (d - 1) rfl rfl (.tmp 11) (.tmp 15) rfl (.slice a k cp) k l HO (by omega) rfl rfl ?_
      intro a' c' w9 hown' hfp' hch
      have hb9 : Below W.heap.size wr w9 := hch.below (B := W.heap.size) hB.out.size (fun q hq => hfp.out q hq)
      have HB9 := Lib.hid (hB.out.trans hb9)
      have HO9 := Lib.hid hown'
      have HF9 := Lib.hid (show ∀ x, Fp (.slice a' (k + 1) c') x → W.heap.size ≤ x from fun q hq => (hfp' q hq).elim (hfp.out q) (fun h => Nat.le_trans hB.out.size h))
      clear hb9 hown' HO hch hfp' hB hfp hown
      try simp only [Act.put, sA, sZ, sS]
      try dsimp only
      go_wp2_with fail
      go_roundw
      case rel => exact ⟨k + 1, p2, l ++ [d - 1], by omega, by rw [hw2], HT, HL, by simp [hll], HO9, HF9, HB9⟩
      case measure => simp only [intOf, hw2]; exact hlt2
    · have hend : rlist (16 - k) p = [] := by
        cases hn : 16 - k with
        | zero => rfl
        | succ n => unfold rlist; rw [if_neg hc]
      have hle : l = rl q := by rw [← hl.out, hend, List.append_nil]
      have hP : ListPost W (rl q) (.returned (.slice a k cp)) wr := by
        rw [← hle]
        rw [← hll] at hown hfp ⊢
        exact ⟨a, cp, rfl, hown.out, hfp.out, hB.out⟩
      have HP := Lib.hid hP
      clear hP hle hend hl hp hown hfp hB hq h16
      by_cases hp0 : 0 < p
      · obtain ⟨d, hd, hd2⟩ : ∃ d, p.tmod 16 = d ∧ p % 16 = d := ⟨p % 16, Int.tmod_eq_emod_of_nonneg (by omega), rfl⟩
        have hd0 : ¬ 0 < d := fun h => hc ⟨hp0, by omega⟩
        clear hc hd2
        go_wp2_with fail
        go_ret
        exact HP.out
      · clear hc
        go_wp2_with fail
        go_ret
        exact HP.out
end Go.Proofs.YteadpgiffpfmnaaGreatDoor.Cl

namespace Go.Proofs.YteadpgiffpfmnaaGreatDoor.Cl
set_option linter.unusedVariables false
set_option linter.unusedSimpArgs false
open Go.RowKit Hp Slot RowL Life

theorem below_drewN {B : Nat} {W w : World} (h : Below B W w) (n : Nat) : Below B W (w.drewN n) := ⟨h.os, h.tape, h.output, h.size, h.block⟩
/-- A slot lies here. -/
def SlotHere (w : World) (g off : Nat) (s : S) : Prop := ∀ (j : Nat) (v : Value), s.cells[j]? = some v → w.cell? ⟨g, off + j, none⟩ = some v
theorem SlotHere.below {w w' : World} {g off : Nat} {s : S} (h : SlotHere w g off s) (hb : Below w.heap.size w w') : SlotHere w' g off s := fun j v hv => Field.bkeep hb (h j v hv)
abbrev sv (s : S) : Value := .agg #[.int .i64 s.state, .int .i64 s.own, .int .i64 s.streams, .bool s.broken, .bool s.marked, .int .i64 s.uses, .int .i64 s.gen, .int .i64 s.epoch, .int .i64 s.version]
theorem run_slot {Sx : World → Prop} {a : Act} (x : Operand) (g off : Nat) (y : S) (hx : a.eval x = .pointer (some ⟨g, off, none⟩)) (hg : ∀ w, Sx w → SlotHere w g off y) : ∀ o : Oper, o.op = Op.load 41 x → ∀ w, Sx w → (execOp a.eval o).run Tryz.prog w = .ok (.value (sv y)) w := by
  intro o ho w hw
  have h := hg w hw
  have x0 := h 0 _ rfl
  have x1 := h 1 _ rfl
  have x2 := h 2 _ rfl
  have x3 := h 3 _ rfl
  have x4 := h 4 _ rfl
  have x5 := h 5 _ rfl
  have x6 := h 6 _ rfl
  have x7 := h 7 _ rfl
  have x8 := h 8 _ rfl
  simp only [Nat.add_zero, S.cells] at x0 x1 x2 x3 x4 x5 x6 x7 x8
  clear h hg hw
  unfold execOp
  simp only [ho, hx]
  go_simp
  try exact ⟨rfl, rfl, rfl, rfl, rfl, rfl, rfl, rfl, rfl⟩
  try rfl
theorem run_state {Sx : World → Prop} {a : Act} (x : Operand) (g off : Nat) (y : S) (hx : a.eval x = .pointer (some ⟨g, off, none⟩)) (hg : ∀ w, Sx w → SlotHere w g off y) : ∀ o : Oper, o.op = Op.load 3 x → ∀ w, Sx w → (execOp a.eval o).run Tryz.prog w = .ok (.value (.int .i64 y.state)) w := by
  intro o ho w hw
  have x0 := hg w hw 0 _ rfl
  simp only [Nat.add_zero, S.cells] at x0
  clear hg hw
  unfold execOp
  simp only [ho, hx]
  go_simp
  try exact ⟨rfl, rfl, rfl, rfl, rfl, rfl, rfl, rfl, rfl⟩
  try rfl
theorem run_int {Sx : World → Prop} {a : Act} (x : Operand) (g off : Nat) (v : Int) (hx : a.eval x = .pointer (some ⟨g, off, none⟩)) (hg : ∀ w, Sx w → w.cell? ⟨g, off, none⟩ = some (.int .i64 v)) : ∀ o : Oper, o.op = Op.load 3 x → ∀ w, Sx w → (execOp a.eval o).run Tryz.prog w = .ok (.value (.int .i64 v)) w := by
  intro o ho w hw
  have x0 := hg w hw
  clear hg hw
  unfold execOp
  simp only [ho, hx]
  go_simp
theorem run_bool {Sx : World → Prop} {a : Act} (x : Operand) (g off : Nat) (v : Bool) (hx : a.eval x = .pointer (some ⟨g, off, none⟩)) (hg : ∀ w, Sx w → w.cell? ⟨g, off, none⟩ = some (.bool v)) : ∀ o : Oper, o.op = Op.load 4 x → ∀ w, Sx w → (execOp a.eval o).run Tryz.prog w = .ok (.value (.bool v)) w := by
  intro o ho w hw
  have x0 := hg w hw
  clear hg hw
  unfold execOp
  simp only [ho, hx]
  go_simp
/-- Bools that fill a block. -/
def BRow (W : World) (g : Nat) (l : List Bool) : Prop := RowAt W g ⟨l.map Value.bool⟩ 4
theorem BRow.get {W : World} {g : Nat} {l : List Bool} (h : BRow W g l) {i : Nat} {x : Bool} (hx : l[i]? = some x) : W.cell? ⟨g, i, none⟩ = some (.bool x) := by
  rw [RowAt.cell h i]
  simp [hx]
theorem BRow.set {W : World} {g : Nat} {l : List Bool} (h : BRow W g l) (i : Nat) (x : Bool) : BRow (W.setCell ⟨g, i, none⟩ (.bool x)) g (l.set i x) := by
  have h1 := RowAt.setc h i (.bool x)
  unfold BRow
  have e : (⟨l.map Value.bool⟩ : Array Value).setIfInBounds i (.bool x) = ⟨(l.set i x).map Value.bool⟩ := by
    rw [List.map_set]
    simp
  rw [← e]
  exact h1
set_option maxRecDepth 100000 in
theorem bool_info : ∃ i0, Tryz.prog.info? 4 = some i0 ∧ i0.zero = some (.bool false) ∧ i0.size = 1 ∧ i0.bytes = 1 := by
  have h : (Tryz.prog.info? 4).map (fun i => (i.zero, i.size, i.bytes)) = some (some (.bool false), 1, 1) := by kernel_rfl
  cases hi : Tryz.prog.info? 4 with
  | none => rw [hi] at h; cases h
  | some i =>
    rw [hi] at h
    simp only [Option.map_some, Option.some.injEq, Prod.mk.injEq] at h
    exact ⟨i, rfl, h.1, h.2.1, h.2.2⟩
theorem made_bools (n : Nat) : madeCells #[.bool false] n = ⟨(List.replicate n false).map Value.bool⟩ := by
  apply Array.ext'
  rw [toList_madeCells_one]
  simp
theorem made_rep_bool (n : Nat) : madeCells #[.bool false] n = Array.replicate n (.bool false) := by
  apply Array.ext'
  rw [toList_madeCells_one]
  simp
/-- A list of bools is made. -/
theorem make_bools (w : World) (n : Nat) (hn : n ≤ 4096) : (Instr.makeSlice 46 (.int .i64 n) (.int .i64 n)).run Tryz.prog w = .ok (.slice (some ⟨w.heap.size, 0, none⟩) n n) (w.alloc (.cells (Array.replicate n (.bool false)) 4)) := by
  obtain ⟨i0, hi, hz0, hz1, hz2⟩ := bool_info
  have h := run_makeSlice (P := Tryz.prog) (w := w) 46 4 i0 (.bool false) Tryz.underlying46 hi hz0 .i64 .i64 n n (by omega) (by omega) (by rw [hz1]; simp; omega) (by rw [hz2]; omega) (by omega)
  rw [hz1] at h
  simp only [Int.toNat_natCast, Nat.mul_one] at h
  rw [h, ← made_rep_bool]
  rfl
theorem made_brow (w : World) (n : Nat) : BRow (w.alloc (.cells (Array.replicate n (.bool false)) 4)) w.heap.size (List.replicate n false) := by
  unfold BRow
  rw [← made_bools, made_rep_bool]
  exact RowAt.new w _ _
set_option maxRecDepth 100000 in
theorem slice_from (w : World) (wa : Option Addr) (m wc qn : Nat) (h : qn ≤ m) : (Instr.slice (31 : TypeId) (.slice wa m wc) (some (.int .i64 qn)) none none).run Tryz.prog w = .ok (sliced wa qn m wc 1) w := by
  rw [run_slice_l (P := Tryz.prog) (w := w) 31 wa m wc Tryz.underlying31 .i64 qn (by omega) (by omega)]
  have hs : (sizeOf (Tryz.prog.elem 31)).run Tryz.prog w = .ok 1 w := by kernel_rfl
  rw [hs]
  rfl
theorem run_slice_op {P : Program} {o : Oper} {a : Act} {w : World} (T : TypeId) (x y : Operand) (ho : o.op = .slice T x (some y) none none) {v1 v2 out : Value} (hx : a.eval x = v1) (hy : a.eval y = v2) (hT : P.underlying T = some (.slice (P.elem T)))
    (h : (Instr.slice T v1 (some v2) none none).run P w = .ok out w) : (execOp a.eval o).run P w = .ok (.value out) w := by
  unfold execOp
  simp only [ho, Option.map_some, Option.map_none, hx, hy]
  simp only [Sem.run_bind, run_sliceAt_slice w T _ _ _ _ hT, h]
  rfl
/-- A guarded call of a Go function, in a plain region, where it is wanted. -/
theorem gcallg {P : Program} {ops : Array Oper} {Q : Exit → Act → World → Prop} {rest : List Oper} {o : Oper} {a : Act} {w : World} (F : Nat) (args : Array Operand) (ats : Array TypeId) (vals : Array Value) (hE : ∀ args w, (callFunc F args).run P w = .ok (.enter F args) w)
    (h : Calls P F vals w fun e w' => ∃ v, e = .returned v ∧ wpList P ops Q rest (a.put o.dst v) w')
    (ho : o.op = Op.call { callee := Callee.value (Operand.func F), args := args, argTypes := ats } := by kernel_rfl) (hv : args.map a.eval = vals := by kernel_rfl) (hw : Region.wanted o (yielded ops a.tmps) = true := by kernel_rfl) : wpList P ops Q (o :: rest) a w := by
  unfold wpList
  rw [if_pos hw]
  refine .inl ?_
  have hx : (execOp a.eval o).run P w = .ok (.enter F vals) w := by
    unfold execOp
    simp only [ho, resolve]
    simp [go_sem, hv, hE, Act.eval, invoke, Deferred.ofValue]
  unfold Oper.wp
  rw [hx, Oper.upon_enter]
  refine h.mono ?_
  rintro e w' ⟨v, rfl, hk⟩
  exact hk
/-- What stands behind the first ones of a list. -/
theorem sliced_drop {w : World} {a : Option Addr} {c q : Nat} {l : List Int} (h : SliceAt w (.slice a l.length c) (l.map (Value.int .i64))) (hq : q ≤ l.length) (hc : l.length ≤ c) : SliceAt w (sliced a q l.length c 1) ((l.drop q).map (Value.int .i64)) := by
  obtain ⟨a', c', he, h1, h2⟩ := h
  injection he with e1 e2 e3
  subst e1
  subst e3
  rw [List.length_map] at h1
  unfold sliced
  refine ⟨_, _, by rw [List.length_map, List.length_drop], by rw [List.length_map, List.length_drop]; omega, ?_⟩
  by_cases h0 : l.length = q
  · left; rw [List.drop_of_length_le (by omega)]; rfl
  rcases h2 with h2 | ⟨g, off, rfl, h3⟩
  · left
    have h2 : l = [] := by simpa using h2
    subst h2
    simp
  · right
    rw [if_neg (by omega)]
    refine ⟨g, off + q, by simp [Addr.add], fun j u hu => ?_⟩
    rw [List.map_drop, List.getElem?_drop] at hu
    have := h3 (q + j) u hu
    rw [Nat.add_assoc]
    exact this
set_option maxRecDepth 100000 in
set_option maxHeartbeats 1000000 in
/-- The document's cell of a worker's grant. -/
theorem ref_grant_any (w : World) (c : Conf.Cf) (i : Nat) (hw : 0 ≤ c.workers ∧ c.workers ≤ 8) (hi : (i : Int) < c.workers) : Calls Tryz.prog 19 #[c.val, .int .i64 i] w fun e w' => e = .returned (.int .i64 (3 + c.workers + i)) ∧ Below w.heap.size w w' := by
  obtain ⟨cw, cs, cst, cwa, cu⟩ := c
  dsimp only at hw hi
  go_enter Tryz.func19, Tryz.ntmps19
  simp only [Conf.Cf.val, Conf.Cf.cells]
  have n0 : ¬ ((i : Int) < 0) := by omega
  have n1 : ¬ (cw ≤ (i : Int)) := by omega
  have n2 : decide (cw ≤ (i : Int)) = false := by simpa using n1
  have e2 : wrap64 (3 + cw + (i : Int)) = 3 + cw + i := by unfold wrap64; omega
  go_wp2_with fail
  go_ret
  exact ⟨by first | rfl | (simp <;> omega), (Below.refl _ _).alloc (Nat.le_refl _) _⟩
end Go.Proofs.YteadpgiffpfmnaaGreatDoor.Cl

namespace Go.Proofs.YteadpgiffpfmnaaGreatDoor.Mod
set_option linter.unusedVariables false
set_option linter.unusedSimpArgs false
open Go.RowKit Hp Slot RowL Life Cl

/-- Of n places, which are those of a list. -/
def seenL (n : Nat) (l : List Nat) : List Bool := (List.range n).map fun j => decide (j ∈ l)
theorem seenL_nil (n : Nat) : seenL n [] = List.replicate n false := by
  apply List.ext_getElem?
  intro j
  unfold seenL
  by_cases h : j < n
  · simp [h]
  · simp [h]
theorem seenL_get {n j : Nat} (l : List Nat) (h : j < n) : (seenL n l)[j]? = some (decide (j ∈ l)) := by simp [seenL, h]
theorem seenL_set {n : Nat} (l : List Nat) (j : Nat) : (seenL n l).set j true = seenL n (l ++ [j]) := by
  apply List.ext_getElem?
  intro k
  rw [List.getElem?_set]
  unfold seenL
  by_cases h : j = k
  · subst h
    by_cases h2 : j < n
    · simp [h2]
    · simp [h2]
  · by_cases h2 : k < n
    · have h3 : ¬ k = j := fun e => h e.symm
      simp [h, h2, h3]
    · simp [h, h2]
set_option maxRecDepth 100000 in
set_option maxHeartbeats 40000000 in
theorem tidyGrants_walk (W : World) (hL : Laid W) (g : Gv) (hgv : GvAt W g) (a0 : Option Addr) (len cap b0 off : Nat) (l : List Int) (hl : Base.IntsAt .u8 W a0 len cap b0 off l) (who : Int) (hwho : 0 ≤ who ∧ who < 256) :
    Calls Tryz.prog 4 #[g.val, .slice a0 len cap, .int .u8 who] W fun e W' => e = .returned (.bool true) ∧ Below W.heap.size W W' := by
  have haw := fun w hL => yawake_any w hL
  have hcr := confOf_right g.b0 g.b1 g.b2 g.b3 g.b4
  have hwt := fun w h (h8 : len ≤ 8) hl => waits_any (a0 := a0) (len := len) (cap := cap) (b0 := b0) (off := off) (l := l) w g h hl h8
  generalize confOf g.b0 g.b1 g.b2 g.b3 g.b4 = c at *
  have hA : Below W.heap.size W (W.alloc (.cells g.cells 27)) := (Below.refl _ _).alloc (Nat.le_refl _) _
  have hg : RowAt (W.alloc (.cells g.cells 27)) W.heap.size g.cells 27 := heap_alloc_new W _
  have hG := hgv.below hA
  have hL0 := hL.stable (hA.block 0 (hL.lt (by decide)))
  have hW0 : 0 < W.heap.size := hL.lt (by decide)
  go_enter Tryz.func4, Tryz.ntmps4
  go_upto_region 1 with (fail)
  generalize (W.alloc (.cells g.cells 27)) = w0 at *
  go_wp2_with fail
  refine (haw _ hL0).mono ?_
  rintro e w1 ⟨rfl, hb1⟩
  have hB1 := hA.trans (hb1.mono hA.size)
  have hg1 := RowAt.below hg hb1
  have hG1 := hG.below hb1
  have hl1 := hl.later hB1 (Nat.le_refl _)
  clear haw hb1 hA hg hG hL0 hgv
  by_cases h8 : len ≤ 8
  rotate_left
  · have h8i : (8 : Int) < (len : Int) := by omega
    have HB := Lib.hid hB1
    clear hwt hG1 hg1 hl1 hB1
    go_wp2_with fail
    go_ret
    exact ⟨rfl, HB.out⟩
  have h8i : ¬ (8 : Int) < (len : Int) := by omega
  go_upto_region 4 with (fail)
  refine wp_region_lit ?_
  refine grow hg1 27 (.tmp 3) Tryz.underlying27 ?_
  try simp only [Act.put, sA, sZ, sS]
  refine gl (.slice a0 len cap) ?_
  try simp only [Act.put, sA, sZ, sS]
  refine gcall 10 #[.tmp 31, .tmp 32] #[27, 25] #[g.val, .slice a0 len cap] (enters_of Tryz.func10 (by kernel_rfl) rfl) ?_
  refine (hwt _ hG1 h8 hl1).mono ?_
  rintro e w2 ⟨gb, pre, ss, LL, rfl, hw2, hp, hq, hgb, hb2, hz⟩
  refine ⟨_, rfl, ?_⟩
  have hB2 := hB1.trans (hb2.mono hB1.size)
  dsimp only
  refine gl (.tuple #[c.val, .slice (some ⟨gb, 0, none⟩) (Tk.cells pre ss).length (Tk.cells pre ss).length]) ?_
  refine gl c.val ?_
  refine gl (.slice (some ⟨gb, 0, none⟩) (Tk.cells pre ss).length (Tk.cells pre ss).length) ?_
  refine gbox (ob := .cells zero5 30) (Z := zero5) (cs := c.cells) (t := 30) 30 (.tmp 8) (.tmp 34) rfl ?_
  refine gl (.slice (some ⟨gb, 0, none⟩) (Tk.cells pre ss).length (Tk.cells pre ss).length) ?_
  try simp only [Act.put, sA, sZ, sS]
  rw [setRow_new]
  have M4 : LwAt W c w2.heap.size gb (Tk.cells pre ss) (w2.alloc (.cells c.cells 30)) := ⟨hB2.alloc hB2.size _, heap_alloc_new w2 _, RowAt.below hw2 ((Below.refl _ _).alloc (Nat.le_refl _) _), ⟨by have := hB1.size; omega, RowAt.lt hw2, hW0⟩⟩
  generalize (w2.alloc (.cells c.cells 30)) = w4 at *
  generalize w2.heap.size = cb at *
  have hlen : (Tk.cells pre ss).length = Tk.sc c (Tk.ns c) := by unfold Tk.cells Tk.sc; have := hp.pl; have := hp.sl; simp; omega
  obtain ⟨⟨wk0, wk1⟩, sl0, sl1⟩ := right_small hcr
  have hn6 : 6 ≤ (Tk.cells pre ss).length := by rw [hlen]; unfold Tk.sc Tk.ns; omega
  clear hwt hG1 hg1 hw2 hB1 hB2 hb2 hgb hl1 h8i
  have c0 : w4.cell? ⟨cb, 0, none⟩ = some (.int .i64 c.workers) := RowAt.cell M4.cr 0
  obtain ⟨i, hi, hilt⟩ : ∃ i : Nat, who.tmod c.workers = (i : Int) ∧ (i : Int) < c.workers := ⟨(who % c.workers).toNat, by rw [Int.tmod_eq_emod_of_nonneg hwho.1]; have := Int.emod_nonneg who (show c.workers ≠ 0 by omega); omega, by have := Int.emod_nonneg who (show c.workers ≠ 0 by omega); have := Int.emod_lt_of_pos who (show 0 < c.workers by omega); omega⟩
  have hne : ¬ c.workers = 0 := by omega
  have hnb : (c.workers == 0) = false := by simpa using hne
  have x0 := hwho.1
  have x1 := hwho.2
  obtain ⟨pre', ss', L', t', hrun, h17, hF⟩ := fin_run (k := i) hp hq hcr (by omega)
  have hok : Ty.TyOk (Ty.Ty.new c i) (Tk.cells pre ss).length := Ty.TyOk.new ⟨by omega, by omega⟩ (by unfold Tk.ns; omega) hilt (by rw [hlen]; rfl)
  have hme : Ty.MemOk c (Tk.cells pre ss) := memOk_of hp hq wk1
  have HF := Lib.hid hF
  have HP := Lib.hid (And.intro hp (And.intro hq hz))
  clear hF hz
  go_upto_region 6 with (fail)
  have hld := laid_any w4 c hcr gb 0 (Tk.cells pre ss).length (Tk.cells pre ss) hlen M4.ints
  refine wp_region_lit ?_
  refine grow M4.cr 30 (.tmp 8) Tryz.underlying30 ?_
  refine gl (.slice (some ⟨gb, 0, none⟩) (Tk.cells pre ss).length (Tk.cells pre ss).length) ?_
  try simp only [Act.put, sA, sZ, sS]
  refine gcall 11 #[.tmp 41, .tmp 42] #[30, 31] #[c.val, .slice (some ⟨gb, 0, none⟩) (Tk.cells pre ss).length (Tk.cells pre ss).length] (enters_of Tryz.func11 (by kernel_rfl) rfl) ?_
  refine hld.mono ?_
  rintro e w5 ⟨mb, wb, rfl, hM5, hm1, hm2, hb5⟩
  refine ⟨_, rfl, ?_⟩
  have M5 := M4.below hb5
  have hmb : cb + 1 ≤ mb := Nat.le_trans M4.lt hm1
  have hwb : cb + 1 ≤ wb := Nat.le_trans M4.lt hm2
  have hL5 : Laid w5 := hL.stable (M5.b.block 0 (hL.lt (by decide)))
  clear hld hm1 hm2 hb5 M4 c0 hne hnb x0 x1
  dsimp only
  have hal := yalone_any hM5 hL5 (by have := M5.ng; omega) (by have := M5.ng; omega) ⟨by omega, by rw [hlen]; unfold Tk.sc Tk.ns; omega⟩ c i hok hme
  rw [hrun] at hal
  clear hok hme hM5 hL5 hrun hp hq
  go_upto_region 9 with (fail)
  refine wp_region_lit ?_
  refine gl (.pointer (some ⟨mb, 0, none⟩)) ?_
  try simp only [Act.put, sA, sZ, sS]
  refine grow M5.cr 30 (.tmp 8) Tryz.underlying30 ?_
  try simp only [Act.put, sA, sZ, sS]
  refine gl (.int .i64 i) ?_
  try simp only [Act.put, sA, sZ, sS]
  refine gcall 12 #[.tmp 46, .tmp 47, .tmp 48] #[34, 30, 3] #[Value.pointer (some ⟨mb, 0, none⟩), c.val, .int .i64 i] (enters_of Tryz.func12 (by kernel_rfl) rfl) ?_
  refine hal.mono ?_
  rintro e w7 ⟨rfl, tc, hM7, ht7, hC7⟩
  refine ⟨_, rfl, ?_⟩
  have M7 := M5.keep (hC7.below (B := cb + 1) M5.lt (fun q e => by rcases e with rfl | rfl <;> assumption))
  rw [decide_eq_true h17]
  dsimp only at hM7 ⊢
  have hwo := words_any hM7
  have HM7 := Lib.hid M7
  clear hal hM7 ht7 hC7 M7 M5 h17
  go_wp2_with fail
  refine hwo.mono ?_
  rintro e w9 ⟨na, ncap, rfl, hown, hfp, hb9⟩
  have hl9 : (Tk.cells pre' ss').length = (Tk.cells pre ss).length := by have h1 := HF.out.p.pl; have h2 := HF.out.p.sl; rw [hlen]; unfold Tk.cells Tk.sc; simp; omega
  rw [hl9, hlen] at hown ⊢
  obtain ⟨ng, no, rfl, hng, hni, hnz⟩ := own_ints hown (by omega)
  have M9 := HM7.out.below hb9
  clear hwo hown hfp hb9 HM7 hnz
  obtain ⟨pre1, pre2, TT⟩ := HF.out.t
  have hkW : i < c.workers.toNat := by omega
  have hpt := TT.preT HP.out.1.pl hkW
  obtain ⟨js, hG⟩ := Ty.grants TT HP.out.1.pl hkW HP.out.2.1.nd HP.out.2.1.lx (fun o ho => HP.out.2.1.gr _ (by unfold Ty.gc; omega))
  have hll := HP.out.2.1.ll
  have hlx := HP.out.2.1.lx
  have hnd := HP.out.2.1.nd
  have hLb : ∀ x ∈ LL, 0 ≤ x ∧ x ≤ 14 := fun x h => by have := hlx x h; omega
  have hqm := hG.len
  have hrest := hG.rest
  have hlm : L'.length + js.length = LL.length := by rw [hrest, List.length_drop]; omega
  have hLb' : ∀ x ∈ L', 0 ≤ x ∧ x ≤ 14 := fun x h => hLb x (List.mem_of_mem_drop (by rw [← hrest]; exact h))
  have hrl : rl (Ty.lw LL) = LL := rl_lw (by omega) hLb
  have hrl' : rl (Ty.lw L') = L' := rl_lw (by omega) hLb'
  have hbd : Ty.lw LL ≤ 9223372036854775807 := by have := lw_bound LL hLb; have := pow_bound hll; omega
  have hbd' : Ty.lw L' ≤ 9223372036854775807 := by have := lw_bound L' hLb'; have := pow_bound (k := L'.length) (by omega); omega
  have hx1 : (Tk.cells pre' ss')[1]? = some (Ty.lw L') := by rw [rd_here (by rw [hl9]; omega), Tk.rd_pre HF.out.p (by omega)]; exact congrArg some HF.out.q
  have hy1 : (Tk.cells pre ss)[1]? = some (Ty.lw LL) := by rw [rd_here (by omega), Tk.rd_pre HP.out.1 (by omega)]; exact congrArg some HP.out.2.1.line
  have hy0 : (Tk.cells pre ss)[0]? = some (Tk.rd pre 0) := by rw [rd_here (by omega), Tk.rd_pre HP.out.1 (by omega)]; rfl
  have n1 := hni 1 _ hx1
  have y1 := M9.wr.get hy1
  have y0 := M9.wr.get hy0
  have hA1 := ref_list_any w9 (Ty.lw LL) hbd
  have hA2 := fun w => ref_list_any w (Ty.lw L') hbd'
  rw [hrl] at hA1
  rw [hrl'] at hA2
  have k1 : (1 : Int) < (Tk.sc c (Tk.ns c) : Int) := by omega
  have hgr : ∀ (k : Nat) x, LL[k]? = some x → ∃ gx, 3 + c.workers + (x.toNat : Int) = ((Ty.gc c x.toNat : Nat) : Int) ∧ (x.toNat : Int) = x ∧ (x.toNat : Int) < c.workers ∧ Ty.gc c x.toNat < Tk.sc c (Tk.ns c) ∧ (Tk.cells pre' ss')[Ty.gc c x.toNat]? = some gx ∧ gx = Tk.rd pre' (Ty.gc c x.toNat) := fun k x hx => by
    have hb := hlx x (List.mem_of_getElem? hx)
    refine ⟨_, by unfold Ty.gc; omega, by omega, by omega, by unfold Ty.gc Tk.sc; omega, ?_, rfl⟩
    rw [rd_here (by rw [hl9, hlen]; unfold Ty.gc Tk.sc; omega), Tk.rd_pre HF.out.p (by unfold Ty.gc; omega)]; rfl
  have hns : 1 ≤ Tk.ns c ∧ Tk.ns c ≤ 16 := by unfold Tk.ns; omega
  have hnq : c.slots = ((Tk.ns c : Nat) : Int) := by unfold Tk.ns; omega
  have hsl' : ss'.length = Tk.ns c := HF.out.p.sl
  have hsl : ss.length = Tk.ns c := HP.out.1.sl
  have hjlt : ∀ j ∈ js, j < Tk.ns c := fun j h => by have := hG.lt j h; omega
  have hsA := fun w (h : IntsB w ng no (Tk.cells pre' ss')) => ref_slots_any w c hcr ng no ncap (Tk.cells pre' ss') (by rw [hl9, hlen]) h (HF.out.bd HP.out.1 HP.out.2.1 hcr)
  rw [slotsOf_cells HF.out.p, hl9, hlen] at hsA
  have hsB := fun w (h : IntsB w gb 0 (Tk.cells pre ss)) => ref_slots_any w c hcr gb 0 (Tk.sc c (Tk.ns c)) (Tk.cells pre ss) hlen h (words_bd HP.out.1 (HP.out.2.1.bd wk1))
  rw [slotsOf_cells HP.out.1, hlen] at hsB
  have hgrant := fun w (k : Nat) (h : (k : Int) < c.workers) => ref_grant_any w c k ⟨by omega, wk1⟩ h
  generalize Ty.lw LL = q1 at *
  generalize Ty.lw L' = q2 at *
  generalize hcl : Tk.rd pre 0 = cl at *
  have HA2 := Lib.hid hA2
  have HSA := Lib.hid hsA
  have HSB := Lib.hid hsB
  have HG := Lib.hid hG
  have HGR := Lib.hid hgr
  have HN := Lib.hid hni
  have HM := Lib.hid M9
  have HS := Lib.hid (And.intro hsl' hsl)
  have HJ := Lib.hid hjlt
  have HC := Lib.hid hgrant
  have HR := Lib.hid (And.intro hrest hnd)
  clear hA2 hsA hsB hG hgr hni M9 hsl' hsl hjlt hgrant hrest hnd hx1 hy1 hy0 hbd hbd' hrl hrl' hLb hLb' hlx TT hpt hcl HF HP hcr hl9 hkW
  go_wp2_with fail
  refine hA1.mono ?_
  rintro e w10 ⟨wa, wc, rfl, hwo, hwf, hb10⟩
  have n1 := Field.bkeep hb10 n1
  have HO := Lib.hid hwo
  have hA2 := HA2.out w10
  have y0 := Field.bkeep hb10 y0
  clear hA1 hwo hwf y1 HA2
  go_wp2_with fail
  refine hA2.mono ?_
  rintro e w11 ⟨ia, ic, rfl, hio, hif, hb11⟩
  have hB11 := hb10.trans (hb11.mono hb10.size)
  have hO1 : OwnS w11 (.slice wa LL.length wc) LL.length 1 (LL.map (Value.int .i64)) := HO.out.stable hb11.size (fun x hx => hb11.block x (HO.out.lt hx))
  have hwS := own_slice hO1 (by omega)
  have hiS := own_slice hio (by omega)
  have hcap : LL.length ≤ wc := by
    by_cases h0 : LL.length = 0
    · omega
    · obtain ⟨_, _, _, e, q, -⟩ := hO1.some (by omega); cases e; exact q
  have hd := sliced_drop hwS hqm hcap
  rw [← HR.out.1] at hd
  have hslc := fun w => slice_from w wa LL.length wc js.length hqm
  generalize sliced wa js.length LL.length wc 1 = vv at *
  have hin := Ref01.ints_any w11 vv (.slice ia L'.length ic) L' L' hd hiS
  rw [decide_eq_true rfl] at hin
  have HWS := Lib.hid hwS
  have hmq : ((LL.length : Nat) : Int) - ((L'.length : Nat) : Int) = ((js.length : Nat) : Int) := by omega
  have hwq : wrap64 (((LL.length : Nat) : Int) - ((L'.length : Nat) : Int)) = ((js.length : Nat) : Int) := by unfold wrap64; omega
  have hnn : ¬ ((js.length : Nat) : Int) < 0 := by omega
  have hmx : max (0 : Int) ((js.length : Nat) : Int) = ((js.length : Nat) : Int) := by omega
  have y0 := Field.bkeep hb11 y0
  have HB := Lib.hid hB11
  have hle : js.length ≤ LL.length := hqm
  clear hd hiS hio hif hA2 hb10 hb11 n1 hB11 hwS hO1 hqm hcap HO
  generalize hmm : LL.length = m at *
  generalize hrr : L'.length = r at *
  generalize hqq : js.length = qn at *
  go_upto_region 14 with (fail)
  refine wp_region_lit ?_
  refine gl (.int .i64 qn) ?_
  try simp only [Act.put, sA, sZ, sS]
  refine gl (.bool false) ?_ (by go_simp)
  try simp only [Act.put, sA, sZ, sS]
  refine gl (.bool false) ?_
  try simp only [Act.put, sA, sZ, sS]
  refine gl (.slice wa m wc) ?_
  try simp only [Act.put, sA, sZ, sS]
  refine gl (.int .i64 qn) ?_
  try simp only [Act.put, sA, sZ, sS]
  refine gl (.int .i64 qn) ?_ (by go_simp; intro h; omega)
  try simp only [Act.put, sA, sZ, sS]
  refine gl vv ?_ (run_slice_op 31 (.tmp 68) (.tmp 70) rfl rfl rfl Tryz.underlying31 (hslc _))
  try simp only [Act.put, sA, sZ, sS]
  refine gl (.slice ia r ic) ?_
  try simp only [Act.put, sA, sZ, sS]
  refine gcallg 18 #[.tmp 71, .tmp 72] #[31, 31] #[vv, .slice ia r ic] (enters_of Tryz.func18 (by kernel_rfl) rfl) ?_
  refine hin.mono ?_
  rintro e w12 ⟨rfl, nn, rfl⟩
  refine ⟨_, rfl, ?_⟩
  clear hin hslc hmx hwq hmq
  dsimp only
  refine gl (.bool false) ?_
  try simp only [Act.put, sA, sZ, sS]
  refine gl (.bool false) ?_
  try simp only [Act.put, sA, sZ, sS]
  go_upto_region 16 with (fail)
  have hb12 : Below w11.heap.size w11 (w11.drewN nn) := below_drewN (Below.refl _ _) nn
  have hB12 := HB.out.trans (hb12.mono HB.out.size)
  have M12 := HM.out.below hB12
  have hni12 := HN.out.keep hB12 hng
  have hwas : ∀ (k : Nat) x, LL[k]? = some x → ∃ wg wo, wa = some ⟨wg, wo, none⟩ ∧ w11.cell? ⟨wg, wo + k, none⟩ = some (.int .i64 x) := fun k x hx => by
    obtain ⟨hk, e⟩ := List.getElem?_eq_some_iff.1 hx
    obtain ⟨wg, wo, e1, e2⟩ := slice_at (hmm ▸ HWS.out) hk
    rw [e] at e2
    exact ⟨wg, wo, e1, e2⟩
  generalize (w11.drewN nn) = w12 at *
  go_upto_region 16 with (fail)
  refine wp_region_lit ?_
  refine grow M12.cr 30 (.tmp 8) Tryz.underlying30 ?_
  try simp only [Act.put, sA, sZ, sS]
  refine gl (.slice (some ⟨ng, no, none⟩) (Tk.sc c (Tk.ns c)) ncap) ?_
  try simp only [Act.put, sA, sZ, sS]
  refine gcall 14 #[.tmp 76, .tmp 77] #[30, 31] #[c.val, .slice (some ⟨ng, no, none⟩) (Tk.sc c (Tk.ns c)) ncap] (enters_of Tryz.func14 (by kernel_rfl) rfl) ?_
  refine (HSA.out _ hni12).mono ?_
  rintro e w13 ⟨sa, scp, rfl, hsi, hb13⟩
  refine ⟨_, rfl, ?_⟩
  have M13 := M12.below hb13
  clear HSA
  rw [HS.out.1]
  dsimp only
  go_upto_region 17 with (fail)
  refine wp_region_lit ?_
  refine grow M13.cr 30 (.tmp 8) Tryz.underlying30 ?_
  try simp only [Act.put, sA, sZ, sS]
  refine gl (.slice (some ⟨gb, 0, none⟩) (Tk.sc c (Tk.ns c)) (Tk.sc c (Tk.ns c))) ?_
  try simp only [Act.put, sA, sZ, sS]
  refine gcall 14 #[.tmp 79, .tmp 80] #[30, 31] #[c.val, .slice (some ⟨gb, 0, none⟩) (Tk.sc c (Tk.ns c)) (Tk.sc c (Tk.ns c))] (enters_of Tryz.func14 (by kernel_rfl) rfl) ?_
  refine (HSB.out _ M13.ints).mono ?_
  rintro e w14 ⟨oa, ocp, rfl, hoi, hb14⟩
  refine ⟨_, rfl, ?_⟩
  have M14 := M13.below hb14
  have hsi14 := hsi.below hb14
  have hb1 := hb12.trans ((hb13.trans (hb14.mono hb13.size)).mono hb12.size)
  have hni14 := hni12.keep (hb13.trans (hb14.mono hb13.size)) (Nat.lt_of_lt_of_le hng hB12.size)
  have hwas : ∀ (k : Nat) x, LL[k]? = some x → ∃ wg wo, wa = some ⟨wg, wo, none⟩ ∧ w14.cell? ⟨wg, wo + k, none⟩ = some (.int .i64 x) := fun k x hx => by
    obtain ⟨wg, wo, e1, e2⟩ := hwas k x hx
    exact ⟨wg, wo, e1, Field.bkeep hb1 e2⟩
  have y0 := Field.bkeep hb1 y0
  have hmk := make_bools w14 (Tk.ns c) (by omega)
  have c1 : w14.cell? ⟨cb, 1, none⟩ = some (.int .i64 c.slots) := RowAt.cell M14.cr 1
  rw [hnq] at c1
  have hBR := made_brow w14 (Tk.ns c)
  rw [← seenL_nil] at hBR
  have hb15 : Below w14.heap.size w14 (w14.alloc (.cells (Array.replicate (Tk.ns c) (.bool false)) 4)) := (Below.refl _ _).alloc (Nat.le_refl _) _
  have HW := Lib.hid hwas
  have HN14 := Lib.hid hni14
  have HM14 := Lib.hid M14
  have HI := Lib.hid (And.intro hsi14 hoi)
  have HBR := Lib.hid hBR
  have HB15 := Lib.hid hb15
  have HBW := Lib.hid M14.b
  clear hwas HWS M12 M13 M14 hsi hsi14 hoi hni12 hni14 hb12 hb13 hb14 hb1 hB12 HB HSB HM HN hBR hb15
  rw [HS.out.2]
  dsimp only
  go_upto_region 19 with (fail)
  generalize (w14.alloc (.cells (Array.replicate (Tk.ns c) (.bool false)) 4)) = w15 at *
  clear hmk c1
  go_wp2_with fail
  go_loopw [20] (fun i wr => ∃ k : Nat, k ≤ m ∧ i = .int .i64 k ∧ RowKit.Hid (Below w14.heap.size w14 wr) ∧ RowKit.Hid (BRow wr w14.heap.size (seenL (Tk.ns c) (js.take k)))) (fun i _ => m - (intOf i).toNat)
  case atStart => exact ⟨0, by omega, rfl, HB15, by rw [List.take_zero]; exact HBR⟩
  case round =>
    obtain ⟨k, hk, rfl, hB, hSn⟩ := hrel
    clear HB15 HBR
    by_cases hlt : k < m
    · obtain ⟨x, hx⟩ : ∃ x, LL[k]? = some x := ⟨_, List.getElem?_eq_getElem (by omega)⟩
      obtain ⟨wg, wo, hwe, hwc⟩ := HW.out k x hx
      obtain ⟨gx, g1, g2, g3, g4, g5, g6⟩ := HGR.out k x hx
      have gn := HN14.out _ _ g5
      have hgt := fun w => HC.out w x.toNat g3
      have hgot : (∃ j s', k < qn ∧ js[k]? = some j ∧ gx = (j : Int) + 1 ∧ ss'[j]? = some s' ∧ (s'.state = 4 ∨ s'.state = 5) ∧ s'.own = x) ∨ (qn ≤ k ∧ gx = 0) := by
        by_cases hkq : k < qn
        · obtain ⟨j, hj⟩ : ∃ j, js[k]? = some j := ⟨_, List.getElem?_eq_getElem (by omega)⟩
          obtain ⟨a1, s', a2, a3, a4⟩ := HG.out.got k j x hj hx
          exact .inl ⟨j, s', hkq, hj, by rw [g6]; exact a1, a2, a3, a4⟩
        · exact .inr ⟨by omega, by rw [g6]; exact HG.out.none k x (by omega) hx⟩
      obtain ⟨xn, rfl⟩ : ∃ xn : Nat, x = (xn : Int) := ⟨x.toNat, g2.symm⟩
      simp only [Int.toNat_natCast] at g1 g3 g4 gn hgt
      simp only [g1] at hgt
      generalize Ty.gc c xn = gi at *
      have hwc := Field.bkeep hB.out hwc
      have gn := Field.bkeep hB.out gn
      have hcr := (HM14.out.below hB.out).cr
      have k0 : (0 : Int) ≤ (k : Int) := by omega
      have k1 : (k : Int) < (m : Int) := by omega
      have j0 : (0 : Int) ≤ (gi : Int) := by omega
      have j1 : (gi : Int) < (Tk.sc c (Tk.ns c) : Int) := by omega
      have hBd := (Below.refl wr.heap.size wr).drew
      have hfw := fun w (h : Below wr.heap.size wr w) => Field.bkeep h hwc
      have hfg := fun w (h : Below wr.heap.size wr w) => Field.bkeep h gn
      have hfc := fun w (h : Below wr.heap.size wr w) => RowAt.below hcr h
      subst hwe
      clear hx g1 g2 g3 g4 g5 g6 hwc gn hcr
      go_upto_region 22 with (fail)
      refine wp_region_held_drew (S := (fun w' => Below wr.heap.size wr w' ∧ RowAt w' cb c.cells 30 ∧ w'.cell? ⟨wg, wo + k, none⟩ = some (.int .i64 (xn : Int)) ∧ w'.cell? ⟨ng, no + gi, none⟩ = some (.int .i64 gx))) (by kernel_rfl) (by exact ⟨hBd, hfc _ hBd, hfw _ hBd, hfg _ hBd⟩) (fun hHeld => ?_)
      refine tKg 0 91 hHeld ?_
      try simp only [Act.put, sA, sZ, sS]
      refine tKw (gd := none) 1 92 (.load 30 (.tmp 8)) (.agg c.cells) (run_load_row 30 (.tmp 8) cb 30 c.cells _ (by kernel_rfl) Tryz.underlying30 rfl (by kernel_rfl) (fun w h => h.2.1)) hHeld ?_
      try simp only [Act.put, sA, sZ, sS]
      refine tKg 2 93 hHeld ?_
      try simp only [Act.put, sA, sZ, sS]
      refine tKg 3 94 hHeld ?_
      try simp only [Act.put, sA, sZ, sS]
      refine tKg 4 95 hHeld ?_
      try simp only [Act.put, sA, sZ, sS]
      refine tKg 5 96 hHeld ?_
      try simp only [Act.put, sA, sZ, sS]
      refine rKc (i := 6) 19 #[.tmp 92, .tmp 96] #[30, 3] (some 97) none #[c.val, .int .i64 xn] (enters_of Tryz.func19 (by kernel_rfl) rfl) ?_
      refine (hgt _).mono ?_
      rintro e wc ⟨rfl, hbc⟩
      have hBc := hBd.trans (hbc.mono hBd.size)
      refine ⟨_, rfl, ⟨hBc, hfc _ hBc, hfw _ hBc, hfg _ hBc⟩, fun hHeld => ?_⟩
      try simp only [Act.put, sA, sZ, sS]
      refine tKg 7 98 hHeld ?_
      try simp only [Act.put, sA, sZ, sS]
      refine tKg 8 99 hHeld ?_
      try simp only [Act.put, sA, sZ, sS]
      refine tKg 9 21 hHeld ?_
      try simp only [Act.put, sA, sZ, sS]
      refine wpAnyH_done (by kernel_rfl) ?_ _
      have hwc := hfw _ hBc
      have hcr := hfc _ hBc
      have hB2 := hB.out.trans (hBc.mono hB.out.size)
      have hS2 : BRow wc w14.heap.size (seenL (Tk.ns c) (js.take k)) := RowAt.below hSn.out hBc
      have HB2 := Lib.hid hB2
      have HS2 := Lib.hid hS2
      clear hHeld hfw hfg hfc hBd hbc hgt hB hSn
      rcases hgot with ⟨j, s', hkq, hj, rfl, hs', h45, how⟩ | ⟨hkq, rfl⟩
      rotate_left
      · have n3 : (qn : Int) ≤ (k : Int) := by omega
        have htk : js.take (k + 1) = js.take k := by rw [List.take_of_length_le (by omega), List.take_of_length_le (by omega)]
        have HS3 := Lib.hid (show BRow wc w14.heap.size (seenL (Tk.ns c) (js.take (k + 1))) by rw [htk]; exact hS2)
        clear hB2 hS2 hwc hcr htk hBc
        go_wp2_with fail
        go_roundw
        case rel => exact ⟨k + 1, by omega, by go_num, HB2, HS3⟩
        case measure => simp [intOf]; omega
      · have n3 : ¬ (qn : Int) ≤ (k : Int) := by omega
        have hjn := HJ.out j (List.mem_of_getElem? hj)
        obtain ⟨og, oo, rfl, hco⟩ := HI.out.1 j s' hs'
        have hjk : j ∉ js.take k := fun hm => by
          obtain ⟨k', hk'⟩ := List.mem_iff_getElem?.1 hm
          rw [List.getElem?_take] at hk'
          split at hk'
          · rename_i hlt'; have := (List.getElem?_inj (by have := (List.getElem?_eq_some_iff.1 hk').1; exact this) HG.out.nd).1 (hk'.trans hj.symm); omega
          · cases hk'
        have htk : seenL (Tk.ns c) (js.take (k + 1)) = (seenL (Tk.ns c) (js.take k)).set j true := by rw [List.take_add_one, hj, seenL_set]; rfl
        have sn : wc.cell? ⟨w14.heap.size, j, none⟩ = some (.bool false) := hS2.get (by rw [seenL_get _ hjn, decide_eq_false hjk])
        obtain ⟨gv, hgv⟩ : ∃ gv, gv = (j : Int) + 1 := ⟨_, rfl⟩
        have e1 : ¬ gv < 1 := by omega
        have e2 : ¬ ((Tk.ns c : Nat) : Int) < gv := by omega
        have e3 : wrap64 (gv - 1) = (j : Int) := by unfold wrap64; omega
        have e4 : gv.toNat - 1 = j := by omega
        have i0 : (0 : Int) ≤ (j : Int) := by omega
        have i1 : (j : Int) < (Tk.ns c : Int) := by omega
        rw [← hgv]
        have c1 : wc.cell? ⟨cb, 1, none⟩ = some (.int .i64 c.slots) := RowAt.cell hcr 1
        rw [hnq] at c1
        obtain ⟨st, ow, sm, br, ma, us, ge, ep, ve⟩ := s'
        have y0' := Field.bkeep hB2 (hco 0 _ rfl)
        have y1' := Field.bkeep hB2 (hco 1 _ rfl)
        have y2' := Field.bkeep hB2 (hco 2 _ rfl)
        have y3' := Field.bkeep hB2 (hco 3 _ rfl)
        have y4' := Field.bkeep hB2 (hco 4 _ rfl)
        have y5' := Field.bkeep hB2 (hco 5 _ rfl)
        have y6' := Field.bkeep hB2 (hco 6 _ rfl)
        have y7' := Field.bkeep hB2 (hco 7 _ rfl)
        have y8' := Field.bkeep hB2 (hco 8 _ rfl)
        simp only [S.cells, Nat.add_zero] at y0' y1' y2' y3' y4' y5' y6' y7' y8'
        dsimp only at h45 how
        subst how
        have e5 : IntKind.i64.wrap (gv - 1) = (j : Int) := by rw [IntKind.wrap_i64]; omega
        have HT := Lib.hid htk
        clear hco hs' hj hjk hgv hB2 hcr HW HGR htk hjn
        go_upto_region 29 with (fail)
        have hb3 : Below wc.heap.size wc (wc.alloc (.cells #[.int .i64 st, .int .i64 (xn : Int), .int .i64 sm, .bool br, .bool ma, .int .i64 us, .int .i64 ge, .int .i64 ep, .int .i64 ve] 41)) := (Below.refl _ _).alloc (Nat.le_refl _) _
        have hs3 : RowAt (wc.alloc (.cells #[.int .i64 st, .int .i64 (xn : Int), .int .i64 sm, .bool br, .bool ma, .int .i64 us, .int .i64 ge, .int .i64 ep, .int .i64 ve] 41)) wc.heap.size #[.int .i64 st, .int .i64 (xn : Int), .int .i64 sm, .bool br, .bool ma, .int .i64 us, .int .i64 ge, .int .i64 ep, .int .i64 ve] 41 := RowAt.new _ _ _
        generalize (wc.alloc (.cells #[.int .i64 st, .int .i64 (xn : Int), .int .i64 sm, .bool br, .bool ma, .int .i64 us, .int .i64 ge, .int .i64 ep, .int .i64 ve] 41)) = w3 at *
        generalize hzb : wc.heap.size = zb at *
        have s0 : w3.cell? ⟨zb, 0, none⟩ = some (.int .i64 st) := RowAt.cell hs3 0
        have s1 : w3.cell? ⟨zb, 1, none⟩ = some (.int .i64 (xn : Int)) := RowAt.cell hs3 1
        have hb3' : Below wc.heap.size wc w3 := by rw [hzb]; exact hb3
        have sn := Field.bkeep hb3' sn
        have hwc := Field.bkeep hb3' hwc
        have hS3 : BRow w3 w14.heap.size (seenL (Tk.ns c) (js.take k)) := RowAt.below hS2 hb3'
        have hB3 := HB2.out.trans (hb3'.mono HB2.out.size)
        have HB3 := Lib.hid hB3
        have HS3 := Lib.hid hS3
        clear hs3 hb3 hb3' hS3 hB3 hS2 c1 hzb HS2 HB2 y0' y1' y2' y3' y4' y5' y6' y7' y8'
        have hdr : ∀ (w : World) (p : Addr) v, w.cell? p = some v → w.drew.cell? p = some v := fun w p v h => h
        have hD := And.intro (hdr _ _ _ sn) (And.intro (hdr _ _ _ s0) (And.intro (hdr _ _ _ s1) (hdr _ _ _ hwc)))
        rcases h45 with rfl | rfl
        · skip
          go_wp2_with fail
          go_region
          clear hD
          have HS4 := Lib.hid (show BRow (w3.drew.setCell ⟨w14.heap.size, j, none⟩ (.bool true)) w14.heap.size (seenL (Tk.ns c) (js.take (k + 1))) from by rw [HT.out]; exact BRow.set (W := w3.drew) HS3.out j true)
          have HB4 := Lib.hid (show Below w14.heap.size w14 (w3.drew.setCell ⟨w14.heap.size, j, none⟩ (.bool true)) from (HB3.out.trans ((Below.refl _ _).drew.mono HB3.out.size)).setCell (p := ⟨w14.heap.size, j, none⟩) (Nat.le_refl _) _)
          have sn2 : w3.drew.cell? ⟨w14.heap.size, j, none⟩ = some (.bool false) := sn
          have fz : w3.drew.frozen? ⟨w14.heap.size, j, none⟩ = false := (RowAt.frozen HS3.out j : w3.frozen? ⟨w14.heap.size, j, none⟩ = false)
          clear sn s0 s1 hwc HS3 HB3 HT
          go_wp2_with fail
          go_roundw
          case rel => exact ⟨k + 1, by omega, by go_num, HB4, HS4⟩
          case measure => simp [intOf]; omega
        · skip
          go_wp2_with fail
          go_region
          clear hD
          have HS4 := Lib.hid (show BRow (w3.drew.setCell ⟨w14.heap.size, j, none⟩ (.bool true)) w14.heap.size (seenL (Tk.ns c) (js.take (k + 1))) from by rw [HT.out]; exact BRow.set (W := w3.drew) HS3.out j true)
          have HB4 := Lib.hid (show Below w14.heap.size w14 (w3.drew.setCell ⟨w14.heap.size, j, none⟩ (.bool true)) from (HB3.out.trans ((Below.refl _ _).drew.mono HB3.out.size)).setCell (p := ⟨w14.heap.size, j, none⟩) (Nat.le_refl _) _)
          have sn2 : w3.drew.cell? ⟨w14.heap.size, j, none⟩ = some (.bool false) := sn
          have fz : w3.drew.frozen? ⟨w14.heap.size, j, none⟩ = false := (RowAt.frozen HS3.out j : w3.frozen? ⟨w14.heap.size, j, none⟩ = false)
          clear sn s0 s1 hwc HS3 HB3 HT
          go_wp2_with fail
          go_roundw
          case rel => exact ⟨k + 1, by omega, by go_num, HB4, HS4⟩
          case measure => simp [intOf]; omega
    · have hke : k = m := by omega
      have k1 : ¬ (k : Int) < (m : Int) := by omega
      have hall : js.take k = js := List.take_of_length_le (by omega)
      rw [hall] at hSn
      have y0 := Field.bkeep hB.out y0
      have HB0 := Lib.hid (HBW.out.trans (hB.out.mono HBW.out.size))
      have HS0 := Lib.hid hSn.out
      have HI0 := Lib.hid (And.intro (HI.out.1.below hB.out) (HI.out.2.below hB.out))
      clear hB hSn HW HGR HC HJ hke hall HI HM14 HN14 HBW
      go_wp2_with fail
      go_loopw [23] (fun i w2 => ∃ q : Nat, q ≤ Tk.ns c ∧ i = .int .i64 q ∧ RowKit.Hid (Below wr.heap.size wr w2)) (fun i _ => Tk.ns c - (intOf i).toNat)
      case atStart => exact ⟨0, by omega, rfl, Below.refl _ _⟩
      case round =>
        obtain ⟨q, hq, rfl, hB⟩ := hrel
        skip
        by_cases hlt2 : q < Tk.ns c
        · obtain ⟨s', hs'⟩ : ∃ s, ss'[q]? = some s := ⟨_, List.getElem?_eq_getElem (by rw [HS.out.1]; exact hlt2)⟩
          obtain ⟨s, hs⟩ : ∃ s, ss[q]? = some s := ⟨_, List.getElem?_eq_getElem (by rw [HS.out.2]; exact hlt2)⟩
          obtain ⟨sg, so, rfl, hcs⟩ := HI0.out.1 q s' hs'
          obtain ⟨og, oo, rfl, hco⟩ := HI0.out.2 q s hs
          have HS1 : SlotHere _ sg (so + q * 9) s' := fun j v hv => Field.bkeep hB.out (hcs j v hv)
          have HU1 : SlotHere _ og (oo + q * 9) s := fun j v hv => Field.bkeep hB.out (hco j v hv)
          have sn := Field.bkeep hB.out (HS0.out.get (seenL_get js hlt2))
          have hsame : q ∉ js → s'.state = 4 ∨ s'.state = 5 → s = s' := fun hn h => by have h := HG.out.same q s' hn hs' h; rw [hs] at h; exact Option.some.inj h
          have e0 := HS1 0 _ rfl
          simp only [S.cells, Nat.add_zero] at e0
          have k0 : (0 : Int) ≤ (q : Int) := by omega
          have k2 : (q : Int) < (Tk.ns c : Int) := by omega
          have HBx := Lib.hid hB.out
          clear hs hs' hcs hco hB
          generalize hdq : decide (q ∈ js) = dq at *
          have hsame : dq = false → s'.state = 4 ∨ s'.state = 5 → s = s' := fun hd => hsame (of_decide_eq_false (hdq.trans hd))
          clear hdq
          have hcase : s'.state = 4 ∨ s'.state = 5 ∨ (s'.state ≠ 4 ∧ s'.state ≠ 5) := by omega
          have hfin : dq = true ∨ (dq = false ∧ s = s') ∨ (dq = false ∧ s'.state ≠ 4 ∧ s'.state ≠ 5) := by
            cases hd : dq
            · by_cases h4 : s'.state = 4 ∨ s'.state = 5
              · exact .inr (.inl ⟨rfl, hsame hd h4⟩)
              · exact .inr (.inr ⟨rfl, by omega, by omega⟩)
            · exact .inl rfl
          have hq9 : ∀ W, _ := fun W => eq_slot W s'.state s'.own s'.streams s'.broken s'.marked s'.uses s'.gen s'.epoch s'.version s.state s.own s.streams s.broken s.marked s.uses s.gen s.epoch s.version
          clear hsame
          rcases hcase with h4 | h5 | ⟨h4, h5⟩
          · skip
            have b4 : (s'.state == 4) = true := by simpa using h4
            have b5 : (s'.state == 5) = false := by rw [h4]; rfl
            skip
            go_upto_region 36 with (fail)
            rcases hfin with rfl | ⟨rfl, hss⟩ | ⟨-, n4, n5⟩
            · clear hq9 h4
              clear HS1 HU1
              go_region
              go_wp2_with fail
              go_roundw
              case rel => exact ⟨q + 1, by omega, by go_num, Lib.hid HBx.out.drew⟩
              case measure => first | (simp [intOf]; done) | (simp [intOf]; omega)
            · skip
              have hqd : decide (S.mk s'.state s'.own s'.streams s'.broken s'.marked s'.uses s'.gen s'.epoch s'.version = S.mk s.state s.own s.streams s.broken s.marked s.uses s.gen s.epoch s.version) = true := decide_eq_true (by rw [hss])
              rw [hqd] at hq9
              clear hqd hss
              clear h4
              have y0' := HS1 0 _ rfl
              have y1' := HS1 1 _ rfl
              have y2' := HS1 2 _ rfl
              have y3' := HS1 3 _ rfl
              have y4' := HS1 4 _ rfl
              have y5' := HS1 5 _ rfl
              have y6' := HS1 6 _ rfl
              have y7' := HS1 7 _ rfl
              have y8' := HS1 8 _ rfl
              have z0' := HU1 0 _ rfl
              have z1' := HU1 1 _ rfl
              have z2' := HU1 2 _ rfl
              have z3' := HU1 3 _ rfl
              have z4' := HU1 4 _ rfl
              have z5' := HU1 5 _ rfl
              have z6' := HU1 6 _ rfl
              have z7' := HU1 7 _ rfl
              have z8' := HU1 8 _ rfl
              simp only [S.cells, Nat.add_zero] at y0' z0' y1' z1' y2' z2' y3' z3' y4' z4' y5' z5' y6' z6' y7' z7' y8' z8'
              clear HS1 HU1
              go_region
              go_wp2_with fail
              go_roundw
              case rel => exact ⟨q + 1, by omega, by go_num, Lib.hid HBx.out.drew⟩
              case measure => first | (simp [intOf]; done) | (simp [intOf]; omega)
            · exact absurd h4 n4
          · skip
            have b4 : (s'.state == 4) = false := by rw [h5]; rfl
            have b5 : (s'.state == 5) = true := by simpa using h5
            skip
            go_upto_region 36 with (fail)
            rcases hfin with rfl | ⟨rfl, hss⟩ | ⟨-, n4, n5⟩
            · clear hq9 h5
              clear HS1 HU1
              go_region
              go_wp2_with fail
              go_roundw
              case rel => exact ⟨q + 1, by omega, by go_num, Lib.hid HBx.out.drew⟩
              case measure => first | (simp [intOf]; done) | (simp [intOf]; omega)
            · skip
              have hqd : decide (S.mk s'.state s'.own s'.streams s'.broken s'.marked s'.uses s'.gen s'.epoch s'.version = S.mk s.state s.own s.streams s.broken s.marked s.uses s.gen s.epoch s.version) = true := decide_eq_true (by rw [hss])
              rw [hqd] at hq9
              clear hqd hss
              clear h5
              have y0' := HS1 0 _ rfl
              have y1' := HS1 1 _ rfl
              have y2' := HS1 2 _ rfl
              have y3' := HS1 3 _ rfl
              have y4' := HS1 4 _ rfl
              have y5' := HS1 5 _ rfl
              have y6' := HS1 6 _ rfl
              have y7' := HS1 7 _ rfl
              have y8' := HS1 8 _ rfl
              have z0' := HU1 0 _ rfl
              have z1' := HU1 1 _ rfl
              have z2' := HU1 2 _ rfl
              have z3' := HU1 3 _ rfl
              have z4' := HU1 4 _ rfl
              have z5' := HU1 5 _ rfl
              have z6' := HU1 6 _ rfl
              have z7' := HU1 7 _ rfl
              have z8' := HU1 8 _ rfl
              simp only [S.cells, Nat.add_zero] at y0' z0' y1' z1' y2' z2' y3' z3' y4' z4' y5' z5' y6' z6' y7' z7' y8' z8'
              clear HS1 HU1
              go_region
              go_wp2_with fail
              go_roundw
              case rel => exact ⟨q + 1, by omega, by go_num, Lib.hid HBx.out.drew⟩
              case measure => first | (simp [intOf]; done) | (simp [intOf]; omega)
            · exact absurd h5 n5
          · skip
            have b4 : (s'.state == 4) = false := by simpa using h4
            have b5 : (s'.state == 5) = false := by simpa using h5
            clear h4 h5
            go_upto_region 36 with (fail)
            clear hfin hq9
            cases dq
            · skip
              clear HS1 HU1
              go_region
              go_wp2_with fail
              go_roundw
              case rel => exact ⟨q + 1, by omega, by go_num, Lib.hid HBx.out.drew⟩
              case measure => first | (simp [intOf]; done) | (simp [intOf]; omega)
            · skip
              clear HS1 HU1
              go_region
              go_wp2_with fail
              go_roundw
              case rel => exact ⟨q + 1, by omega, by go_num, Lib.hid HBx.out.drew⟩
              case measure => first | (simp [intOf]; done) | (simp [intOf]; omega)
        · have k2 : ¬ (q : Int) < (Tk.ns c : Int) := by omega
          have y0 := Field.bkeep hB.out y0
          have HBE := Lib.hid (HB0.out.trans (hB.out.mono HB0.out.size))
          have k3 : (0 : Int) < (Tk.sc c (Tk.ns c) : Int) := by omega
          clear hB HS0 HI0 HB0
          rcases HG.out.shut with h0 | h0
          · clear HG HR
            subst h0
            go_wp2_with fail
            go_ret
            exact ⟨Base.ret_bool (by simp), HBE.out⟩
          · have hq0 : qn = 0 := by rw [← hqq, h0]; rfl
            subst hq0
            clear HG HR h0
            by_cases hc0 : cl = 0
            · subst hc0
              go_wp2_with fail
              go_ret
              exact ⟨Base.ret_bool (by simp), HBE.out⟩
            · have hcb : (cl == 0) = false := by simpa using hc0
              go_wp2_with fail
              go_ret
              exact ⟨Base.ret_bool (by simp), HBE.out⟩
end Go.Proofs.YteadpgiffpfmnaaGreatDoor.Mod

namespace Go.Proofs.YteadpgiffpfmnaaGreatDoor.tidyGrants
open Go.ChangeShapes Go.WideShapes Go.ChangeAt Go.RowKit
set_option linter.unusedVariables false
set_option linter.unusedSimpArgs false

theorem own : ownKnob Tryz.prog.godebug = none := by kernel_rfl
theorem laidOut : laidOutB Tryz.prog = true := by kernel_rfl

set_option maxRecDepth 100000 in
theorem lifted (os : Os) (started : os.Started) (H : Type) (enc : TypeId × Value → H) :
    ReturnsInHanded {} Tryz.checked os 4 .any (fun w args => (Rows.tidyGrantsSpec.pre enc Tryz.prog Tryz.f4 [] false w args ∧ laidMetH Tryz.prog Mod.lst w) ∧ sizedMet enc Tryz.prog Tryz.f4 (OpenSpec.ofChange Rows.tidyGrantsSpec) false w args) (Rows.tidyGrantsSpec.post enc Tryz.prog Tryz.f4 false true false false) := by
  refine returnsInHanded_of_change_and (C := Tryz.checked) (X := fun w _ => laidMetH Tryz.prog Mod.lst w) (fun _ _ _ hh h => h.of_heap hh) own started (by kernel_rfl) Tryz.func4
    (ChangeSpec.witness_shaped (enc := enc) (C := Tryz.checked) (os := os) (X := fun w _ => laidMetH Tryz.prog Mod.lst w) false (World.doorLaid Tryz.prog 23 os) #[.agg #[.int .u8 0, .int .u8 0, .int .u8 0, .int .u8 0, .int .u8 0, .slice none 0 0, .slice none 0 0, .slice none 0 0], .slice none 0 0, .int .u8 0] 8 rfl (World.shaped_of_RefB (by kernel_rfl) (by kernel_rfl)) (by kernel_rfl) (by kernel_rfl) (by kernel_rfl) (Mod.door_met os _)) ?_
  intro W base args ds gs before hval0 hW _ _ hL _
  have hval : ∀ (j : Nat) t v, Tryz.f4.params[j]? = some t → args[j]? = some v → Value.okWide Tryz.prog W .any base t v := hval0
  have hW' := hW
  obtain ⟨p, q, hA0, hV, rfl, hfz, hnd⟩ := hW
  have hA : DataW.TrodAll enc Tryz.prog W 0 (fun _ => true) true Tryz.f4.params.toList args.toList ds p := hA0
  rw [Tryz.params4] at hA hval
  obtain ⟨v0, vs0, d0, ds0, p0, q0, hargs, rfl, rfl, h0, r0⟩ := trodAll_cons hA
  obtain ⟨v1, vs1, d1, ds1, p1, q1, rfl, rfl, rfl, h1, r1⟩ := trodAll_cons r0
  obtain ⟨v2, vs2, d2, ds2, p2, q2, rfl, rfl, rfl, h2, r2⟩ := trodAll_cons r1
  obtain ⟨rfl, rfl, rfl⟩ := trodAll_nil r2
  obtain rfl : args = #[v0, v1, v2] := by cases args; simp_all
  obtain ⟨rfl, rfl⟩ := trodVars_none hV
  have k0 := h0
  have lt0 : ∀ x ∈ p0, x.block < W.heap.size := by obtain ⟨m, hm⟩ := k0; exact DataW.trod_lt m _ _ _ hm
  obtain ⟨g0, rfl, w0⟩ := Mod.open_gv (hval 0 27 v0 rfl rfl) h0
  have k1 := h1
  have lt1 : ∀ x ∈ p1, x.block < W.heap.size := by obtain ⟨m, hm⟩ := k1; exact DataW.trod_lt m _ _ _ hm
  obtain ⟨a1, len1, cap1, rfl⟩ := okWide_slice Tryz.underlying25 (hval 1 25 v1 rfl rfl)
  obtain ⟨b1, off1, l1, w1⟩ : ∃ b off l, Base.IntsAt .u8 W a1 len1 cap1 b off l := by
    obtain ⟨fuel, hf⟩ := h1
    rcases open_ints Tryz.underlying25 Tryz.underlying5 (by kernel_rfl) hf with ⟨hcs, _⟩ | ⟨x, l, c, zs, hcs, _, hl, hm, hz, _, hcell, hwz⟩
    · simp [Value.cells] at hcs
      obtain ⟨rfl, rfl, rfl⟩ := hcs
      exact ⟨0, 0, [], Base.intsAt_nil _ _⟩
    · simp [Value.cells] at hcs
      obtain ⟨rfl, rfl, rfl⟩ := hcs
      obtain ⟨b, off, h⟩ := Base.intsAt_some hl hm (by simpa using hz) hcell hwz
      exact ⟨b, off, _, h⟩
  obtain ⟨a2, rfl, rfl, rfl, w2⟩ := open_int Tryz.underlying5 (hval 2 5 v2 rfl rfl) h2
  have hLd := Mod.of_laid hL
  clear hA0 hval0
  refine (Mod.tidyGrants_walk W hLd g0 w0 _ _ _ _ _ _ w1 _ (Mod.u8_bd w2)).mono fun e W' ⟨he, bel⟩ => ?_
  subst he
  exact ⟨_, rfl, _, _, _, [], _, [], hW', trodAll_mk1 (shut_bool Tryz.underlying4 _), (trodAll_cons_mk (Below.trod laidOut (by kernel_rfl) (of_decide_eq_true (by kernel_rfl)) k0 bel lt0) (trodAll_cons_mk (Below.trod laidOut (by kernel_rfl) (of_decide_eq_true (by kernel_rfl)) k1 bel lt1) (trodAll_cons_mk (shut_int Tryz.underlying5 w2) trodAll_mk0))), rfl, bel.frame _, fun h => by cases h⟩

theorem over : Rows.tidyGrantsRow.holds Tryz.pinned (OpenSpec.ofChange Rows.tidyGrantsSpec) :=
  OpenClaim.holds_of_wide 4 Tryz.f4 rfl rfl rfl rfl rfl rfl rfl ⟨rfl, rfl, rfl, rfl, rfl⟩ rfl rfl rfl rfl rfl (by kernel_rfl) Tryz.func4 (by kernel_rfl)
    (of_decide_eq_true (by kernel_rfl)) (by unfold Func.isWrapper; first | (rw [if_pos (by decide +kernel)]; kernel_rfl) | (rw [if_neg (by decide +kernel)]; exact ⟨rfl, rfl⟩))
    (fun os started H enc _ => lifted os started H enc)

theorem proved : Rows.TidyGrantsCardSaid :=
  Claim7.holds_tied_plain_at .later [] [.data] true (true, "cd55222638d17cc50f25ad6c8bf105d0d96fe0f485c41963596c810bfd790a53") false
    over (fun _ h => by cases h) (by kernel_rfl) (fun _ h => by cases h) tidyGrants_row_tie rfl ⟨rfl, rfl⟩ (by kernel_rfl) rfl
    (fun f fn hf hfn => by
      obtain rfl : f = 4 := Option.some.inj ((show Tryz.prog.funcNamed "coachhouse/coachhouselaw20.TidyGrants" = some 4 by kernel_rfl).symm.trans hf) |>.symm
      obtain rfl : fn = Tryz.f4 := (Option.some.inj (Tryz.func4.symm.trans hfn)).symm
      exact ⟨by kernel_rfl, fun j t ht => by
        rw [Tryz.params4] at ht
        have hm : t ∈ [27, 25, 5] := by simpa using Array.mem_of_getElem? ht
        have hall : ([27, 25, 5].all fun u => !Tryz.prog.wantsStandIn u) = true := by kernel_rfl
        exact (show Tryz.prog.wantsStandIn t = false by simpa using List.all_eq_true.1 hall t hm)⟩)
    (by kernel_rfl)
#print axioms proved
end Go.Proofs.YteadpgiffpfmnaaGreatDoor.tidyGrants

