/- The statement TakeMoves holds, for every input: the call answers true and leaves what it was handed as it was, where the package's table slot.fields is laid as the program's text lays it (the tied card). -/
import Derived.Test.YtefpoidnklflnaaGreatDoorP16
import Derived.Test.YtefpoidnklflnaaGreatDoorP11
import Derived.Test.YtefpoidnklflnaaGreatDoorP15
import Derived.Test.YtefpoidnklflnaaGreatDoorP2
import Derived.Test.YtefpoidnklflnaaGreatDoorRows
import Derived.Test.YtefpoidnklflnaaGreatDoorTie
import Derived.Test.YtefpoidnklflnaaGreatDoorCards
import Derived.WalkKit
import Derived.ProofKit
import Derived.OpenShut
import Derived.ShutString
import Derived.ChangeOld
import Derived.Below
import Derived.LaidMore
import Derived.SevenTiedAt
import Derived.Deep.CutRange

namespace Go.Proofs.YtefpoidnklflnaaGreatDoor.Tk
set_option linter.unusedVariables false
set_option linter.unusedSimpArgs false
open Go.RowKit Hp Slot RowL Life
/-- What a take of a granted slot comes to. -/
def GrEnd (s s' : S) (w : Int) (k : Nat) (good : Bool) (t : Tk) : Prop :=
  (¬ (s.own = w ∧ (s.state = 4 ∨ s.state = 5)) → t.answer.1 = 5 ∧ s' = s) ∧
  (s.own = w → s.state = 5 → good = false → t.answer.1 = 6 ∧ s'.state = 0) ∧
  (s.own = w → (s.state = 4 ∨ s.state = 5 ∧ good = true) → t.answer.1 = 0 ∧ t.answer.2.1 = k ∧ t.answer.2.2 = s'.gen ∧ s'.state = 3 ∧ s'.own = w ∧ s'.broken = s.broken)
theorem answer_err {t : Tk} {e : Int} (h : t.st = 15) (he : t.e = e) (h0 : e ≠ 0) : t.answer.1 = e := by
  unfold Tk.answer
  rw [if_neg (by omega), if_pos (by omega)]
  exact he
theorem answer_ok {t : Tk} (h : t.st = 15) (he : t.e = 0) : t.answer = (0, (t.i : Int), t.gen) := by
  unfold Tk.answer
  rw [if_neg (by omega), if_neg (by omega)]
theorem granted_all {c : Conf.Cf} {pre : List Int} {ss : List S} {w : Int} {k : Nat} (h : Pool c pre ss) (h0 : pre.getD 0 0 = 0) {s : S} (hs : ss[k]? = some s) (hw : 0 ≤ w ∧ w ≤ 15) (good : Bool) :
    ∃ n t' s', alone good 200 0 (Tk.granted c w k) (cells pre ss) = (n, t', cells pre (ss.set k s')) ∧ n ≤ 4 ∧ s'.right = true ∧ GrEnd s s' w k good t' := by
  have fin : ∀ n t' s', Got good c w k pre ss n t' s' → GrEnd s s' w k good t' → s'.right = true → ∃ n t' s', alone good 200 0 (Tk.granted c w k) (cells pre ss) = (n, t', cells pre (ss.set k s')) ∧ n ≤ 4 ∧ s'.right = true ∧ GrEnd s s' w k good t' := by
    intro n t' s' g hE hR
    obtain ⟨m, rfl⟩ : ∃ m, n = m + 1 := ⟨n - 1, by have := g.few; omega⟩
    obtain ⟨h1, h2⟩ := alone_of good m 200 0 g.run g.done (by have := g.few; omega)
    refine ⟨_, t', s', Prod.ext rfl h1, ?_, hR, hE⟩
    exact Nat.le_trans h2 (by have := g.few; omega)
  by_cases hn : s.own = w ∧ (s.state = 4 ∨ s.state = 5)
  · obtain ⟨ho, h45⟩ := hn
    by_cases h4 : s.state = 4
    · obtain ⟨n, t', s', g, e0, ei, e3, eo, eg, eb⟩ := granted_kept h h0 hs hw good ho h4
      have ha := answer_ok g.done e0
      refine fin n t' s' g ⟨fun q => absurd ⟨ho, h45⟩ q, fun _ q => by omega, fun _ _ => ?_⟩ g.right
      rw [ha]
      exact ⟨rfl, by rw [ei], eg.symm, e3, eo, eb⟩
    · have h5 : s.state = 5 := by omega
      obtain ⟨n, t', s', g, e⟩ := granted_held h h0 hs hw good ho h5
      cases good
      · simp only [Bool.false_eq_true, if_false] at e
        refine fin n t' s' g ⟨fun q => absurd ⟨ho, h45⟩ q, fun _ _ _ => ⟨answer_err g.done e.1 (by decide), e.2⟩, fun _ q => ?_⟩ g.right
        simp at q
        omega
      · simp only [if_true] at e
        obtain ⟨e0, ei, e3, eo, eg, eb⟩ := e
        have ha := answer_ok g.done e0
        refine fin n t' s' g ⟨fun q => absurd ⟨ho, h45⟩ q, fun _ _ q => (nomatch q), fun _ _ => ?_⟩ g.right
        rw [ha]
        exact ⟨rfl, by rw [ei], eg.symm, e3, eo, eb⟩
  · obtain ⟨n, t', g, e⟩ := granted_no h hs hw good hn
    exact fin n t' s g ⟨fun _ => ⟨answer_err g.done e (by decide), rfl⟩, fun ho h5 => absurd ⟨ho, .inr h5⟩ hn, fun ho h => absurd ⟨ho, h.elim .inl (fun q => .inr q.1)⟩ hn⟩ g.right
end Go.Proofs.YtefpoidnklflnaaGreatDoor.Tk

namespace Go.Proofs.YtefpoidnklflnaaGreatDoor.Tk
set_option linter.unusedVariables false
set_option linter.unusedSimpArgs false
open Go.RowKit Hp Slot RowL Life
/-- An idle slot of an owner. -/
def idleS (o : Int) : S := ⟨2, o, 0, false, false, 0, 0, 0, 0⟩
def mvC (n : Nat) : Conf.Cf := ⟨3, n, 0, 0, 1⟩
def Two12 (os : List Int) : Prop := ∀ o ∈ os, o = 1 ∨ o = 2
theorem idle_right {o : Int} (h : o = 1 ∨ o = 2) : (idleS o).right = true := by
  rcases h with rfl | rfl <;> kernel_rfl
theorem mv_pool {os : List Int} (h : Two12 os) : Pool (mvC os.length) (List.replicate 9 0) (os.map idleS) := by
  refine ⟨rfl, by simp [ns, mvC], fun s hs => ?_⟩
  obtain ⟨o, ho, rfl⟩ := List.mem_map.1 hs
  exact idle_right (h o ho)
/-- What the law asks of the slots then. -/
structure MvEnd (os : List Int) (ss' : List S) : Prop where
  len : ss'.length = os.length
  first : ∃ s, ss'[0]? = some s ∧ s.state = 3 ∧ s.own = 0
  rest : ∀ (i : Nat) s o o0, 0 < i → ss'[i]? = some s → os[i]? = some o → os[0]? = some o0 → s.state = 2 ∧ (s.own = o ∨ (s.own = 0 ∧ o = o0))
  cnt : ∀ o0, os[0]? = some o0 → (ss'.drop 1).countP (fun s => s.own == 0) = ((os.drop 1).countP (fun o => o == o0) + 1) / 2
theorem fits_idleS (o v : Int) : Find.fits (idleS o) 0 v = (o == v) := by simp [Find.fits, Find.sound, idleS]
theorem moves_end {o0 : Int} {os : List Int} (h : Two12 (o0 :: os)) (hn : os.length ≤ 15) :
    ∃ k t' ss', alone true 200 0 (Tk.new (mvC (os.length + 1)) 0) (cells (List.replicate 9 0) ((o0 :: os).map idleS)) = (k, t', cells (List.replicate 9 0) ss') ∧ Pool (mvC (os.length + 1)) (List.replicate 9 0) ss' ∧ t'.answer.1 = 0 ∧ t'.answer.2.1 = 0 ∧ MvEnd (o0 :: os) ss' := by
  have hp : Pool (mvC (os.length + 1)) (List.replicate 9 0) ((o0 :: os).map idleS) := mv_pool h
  have hns : ns (mvC (os.length + 1)) = os.length + 1 := by simp [ns, mvC]
  have ho0 := h o0 (by simp)
  have hno : NoFit 0 0 ((o0 :: os).map idleS) := by
    intro i s hs
    rw [List.getElem?_map] at hs
    cases hx : (o0 :: os)[i]? with
    | none => rw [hx] at hs; cases hs
    | some o =>
      rw [hx] at hs
      cases hs
      rw [fits_idleS]
      have := h o (List.mem_of_getElem? hx)
      rcases this with rfl | rfl <;> rfl
  have hf : First 1 0 ((o0 :: os).map idleS) 0 := ⟨idleS o0, rfl, by simp [Find.fits, Find.sound, idleS], fun i s hi => by omega⟩
  obtain ⟨n, t', ss', g, e0, ei, ⟨s, hs, s3, so, sg⟩, s1, hs1, hss⟩ := alone_other hp rfl (by omega) (by omega) true hno hf
  obtain ⟨g1, g2⟩ := g.alone (by omega)
  have ha := answer_ok g.done e0
  cases hs1
  have hmv : ss' = leasedV (idleS o0) 0 :: moveL o0 0 false (os.map idleS) := by
    rw [hss]
    have : Find.fits (leasedV (idleS o0) 0) 0 o0 = false := by
      simp [Find.fits, Find.sound, (leasedV_state (idleS o0) 0).1]
    show moveL o0 0 false (leasedV (idleS o0) 0 :: os.map idleS) = _
    rw [moveL, if_neg (by rw [this]; simp)]
  refine ⟨_, t', ss', Prod.ext rfl g1, g.pool, by rw [ha], by rw [ha]; show ((t'.i : Nat) : Int) = 0; rw [ei]; rfl, ?_⟩
  refine ⟨by rw [hmv]; simp [moveL_len], ⟨s, hs, s3, so⟩, ?_, ?_⟩
  · intro i s o o1 hi h1 h2 h3
    simp at h3
    subst h3
    obtain ⟨i, rfl⟩ : ∃ j, i = j + 1 := ⟨i - 1, by omega⟩
    rw [hmv] at h1
    simp only [List.getElem?_cons_succ] at h1 h2
    rcases moveL_at o0 0 (os.map idleS) false i (idleS o) (by rw [List.getElem?_map, h2]; rfl) with q | ⟨q1, q2⟩
    · rw [h1] at q
      cases q
      exact ⟨rfl, .inl rfl⟩
    · rw [h1] at q2
      cases q2
      rw [fits_idleS] at q1
      exact ⟨(moveV_state _ _).1, .inr ⟨(moveV_state _ _).2, by simpa using q1⟩⟩
  · intro o1 h3
    simp at h3
    subst h3
    rw [hmv]
    have hc := moveL_cnt o0 0 (by omega) (os.map idleS) false (fun s hs => by
      obtain ⟨o, ho, rfl⟩ := List.mem_map.1 hs
      have := h o (by simp [ho])
      show o ≠ 0
      omega)
    unfold ownN fitN at hc
    simp only [List.drop_succ_cons, List.drop_zero]
    rw [hc, List.countP_map]
    have : (fun o => Find.fits (idleS o) 0 o0) = fun o => o == o0 := by funext o; exact fits_idleS o o0
    simp only [Function.comp_def, this]
    rfl
end Go.Proofs.YtefpoidnklflnaaGreatDoor.Tk

namespace Go.Proofs.YtefpoidnklflnaaGreatDoor.Mod
set_option linter.unusedVariables false
set_option linter.unusedSimpArgs false
open Go.RowKit Hp Slot RowL Life Cl

/-- The owners that the law makes. -/
def ownerAt (l : List Bool) (i : Nat) : Int := if l.getD i false = true then 1 else 2
def ownersOf (l : List Bool) (n : Nat) : List Int := (List.range n).map (ownerAt l)
theorem owners_len (l : List Bool) (n : Nat) : (ownersOf l n).length = n := by simp [ownersOf]
theorem owners_get (l : List Bool) {n k : Nat} (h : k < n) : (ownersOf l n)[k]? = some (ownerAt l k) := by simp [ownersOf, h]
theorem owners_12 (l : List Bool) (n : Nat) : Tk.Two12 (ownersOf l n) := by
  intro o ho
  obtain ⟨i, -, rfl⟩ := List.mem_map.1 ho
  unfold ownerAt
  split
  · exact .inl rfl
  · exact .inr rfl
/-- Owners, and words, amid the making. -/
def owl (l : List Bool) (n k : Nat) : List Int := (ownersOf l n).take k ++ List.replicate (n - k) 0
def wdl (l : List Bool) (n k : Nat) : List S := ((ownersOf l n).take k).map Tk.idleS ++ List.replicate (n - k) S.zero
theorem owl_len {l : List Bool} {n k : Nat} (h : k ≤ n) : (owl l n k).length = n := by unfold owl; simp [owners_len]; omega
theorem wdl_len {l : List Bool} {n k : Nat} (h : k ≤ n) : (wdl l n k).length = n := by unfold wdl; simp [owners_len]; omega
theorem take_put2 {α : Type} {a : List α} {n k : Nat} {x z : α} (hn : a.length = n) (hk : k < n) (hx : a[k]? = some x) : (a.take k ++ List.replicate (n - k) z).set k x = a.take (k + 1) ++ List.replicate (n - (k + 1)) z := by
  have e : n - k = (n - (k + 1)) + 1 := by omega
  have e1 : (a.take k).length = k := by rw [List.length_take]; omega
  rw [List.set_append_right _ _ (by omega), e1, Nat.sub_self, e, List.replicate_succ, List.set_cons_zero, List.take_add_one, hx]
  simp
theorem owl_put {l : List Bool} {n k : Nat} (hk : k < n) : (owl l n k).set k (ownerAt l k) = owl l n (k + 1) := take_put2 (owners_len l n) hk (owners_get l hk)
theorem wdl_put {l : List Bool} {n k : Nat} (hk : k < n) : (wdl l n k).set k (Tk.idleS (ownerAt l k)) = wdl l n (k + 1) := by
  unfold wdl
  rw [List.map_take, List.map_take]
  exact take_put2 (by simp [owners_len]) hk (by rw [List.getElem?_map, owners_get l hk]; rfl)
theorem wdl_right (l : List Bool) (n k : Nat) : ∀ s ∈ wdl l n k, s.right = true := by
  intro s hs
  unfold wdl at hs
  rcases List.mem_append.1 hs with h | h
  · obtain ⟨o, ho, rfl⟩ := List.mem_map.1 h
    exact Tk.idle_right (owners_12 l n o (List.mem_of_mem_take ho))
  · rw [(List.mem_replicate.1 h).2]; exact zero_right
theorem wdl_pool {l : List Bool} {n k : Nat} (h : k ≤ n) : Tk.Pool (Tk.mvC n) (List.replicate 9 0) (wdl l n k) := ⟨rfl, by rw [wdl_len h]; simp [Tk.ns, Tk.mvC], wdl_right l n k⟩
theorem mv_right {n : Nat} (h : 1 ≤ n ∧ n ≤ 16) : (Tk.mvC n).right = true := by
  simp only [Conf.Cf.right, Conf.btw, Tk.mvC, Bool.and_eq_true]
  exact ⟨decide_eq_true (by omega), decide_eq_true (by omega), decide_eq_true (by omega), decide_eq_true (by omega), decide_eq_true (by omega)⟩
/-- What the law has amid its making. -/
structure MvAt (W : World) (l : List Bool) (n cb gb ob k j : Nat) (w : World) : Prop where
  b : Below W.heap.size W w
  cr : RowAt w cb #[.int .i64 3, .int .i64 n, .int .i64 0, .int .i64 0, .int .i64 1] 25
  wr : WRow w gb (Tk.cells (List.replicate 9 0) (wdl l n k))
  orow : WRow w ob (owl l n j)
  ng : W.heap.size ≤ cb ∧ cb < gb ∧ gb < ob
theorem MvAt.below {W : World} {l : List Bool} {n cb gb ob k j : Nat} {w w' : World} (h : MvAt W l n cb gb ob k j w) (hb : Below w.heap.size w w') : MvAt W l n cb gb ob k j w' :=
  ⟨h.b.trans (hb.mono h.b.size), RowAt.below h.cr hb, RowAt.below h.wr hb, RowAt.below h.orow hb, h.ng⟩
theorem MvAt.own {W : World} {l : List Bool} {n cb gb ob k j : Nat} {w : World} (h : MvAt W l n cb gb ob k j w) (i : Nat) (x : Int) {os : List Int} (he : (owl l n j).set i x = os) : Below W.heap.size W (w.setCell ⟨ob, i, none⟩ (.int .i64 x)) ∧ RowAt (w.setCell ⟨ob, i, none⟩ (.int .i64 x)) cb #[.int .i64 3, .int .i64 n, .int .i64 0, .int .i64 0, .int .i64 1] 25 ∧ WRow (w.setCell ⟨ob, i, none⟩ (.int .i64 x)) gb (Tk.cells (List.replicate 9 0) (wdl l n k)) ∧ WRow (w.setCell ⟨ob, i, none⟩ (.int .i64 x)) ob os := by
  have hn := h.ng
  exact ⟨h.b.setCell (p := ⟨ob, i, none⟩) (by show W.heap.size ≤ ob; omega) _, setOther (p := ⟨ob, i, none⟩) h.cr _ (by show cb ≠ ob; omega), setOther (p := ⟨ob, i, none⟩) h.wr _ (by show gb ≠ ob; omega), he ▸ h.orow.set i x⟩
theorem MvAt.word {W : World} {l : List Bool} {n cb gb ob k : Nat} {w : World} (h : MvAt W l n cb gb ob k (k + 1) w) (hk : k < n) : MvAt W l n cb gb ob (k + 1) (k + 1) (w.setCell ⟨gb, Tk.sc (Tk.mvC n) k, none⟩ (.int .i64 (Tk.idleS (ownerAt l k)).word)) := by
  have hn := h.ng
  have e := Tk.set_slot (wdl_pool (l := l) (n := n) (k := k) (by omega)) (i := k) (Tk.idleS (ownerAt l k))
  rw [wdl_put hk] at e
  exact ⟨h.b.setCell (p := ⟨gb, _, none⟩) (by show W.heap.size ≤ gb; omega) _, setOther (p := ⟨gb, _, none⟩) h.cr _ (by show cb ≠ gb; omega), e ▸ h.wr.set _ _, setOther (p := ⟨gb, _, none⟩) h.orow _ (by show ob ≠ gb; omega), hn⟩
theorem owl_at {l : List Bool} {n k : Nat} (h : k < n) : (owl l n (k + 1))[k]? = some (ownerAt l k) := by
  rw [← owl_put h, List.getElem?_set]
  simp [owl_len (Nat.le_of_lt h), h]
theorem cells_ln {l : List Bool} {n k : Nat} (h : k ≤ n) : (Tk.cells (List.replicate 9 0) (wdl l n k)).length = 9 + n := by
  unfold Tk.cells
  simp [wdl_len h]
  omega
theorem MvAt.own_false {W : World} {l : List Bool} {n cb gb ob k : Nat} {w : World} (h : MvAt W l n cb gb ob k k w) (hk : k < n) (hb : l.getD k false = false) : MvAt W l n cb gb ob k (k + 1) (w.setCell ⟨ob, k, none⟩ (.int .i64 2)) := by
  have e : (owl l n k).set k 2 = owl l n (k + 1) := by
    rw [← owl_put hk]; unfold ownerAt; rw [if_neg (by rw [hb]; simp)]
  obtain ⟨h1, h2, h3, h4⟩ := h.own k 2 e
  exact ⟨h1, h2, h3, h4, h.ng⟩
theorem MvAt.own_true {W : World} {l : List Bool} {n cb gb ob k : Nat} {w : World} (h : MvAt W l n cb gb ob k k w) (hk : k < n) (hb : l.getD k false = true) : MvAt W l n cb gb ob k (k + 1) ((w.setCell ⟨ob, k, none⟩ (.int .i64 2)).setCell ⟨ob, k, none⟩ (.int .i64 1)) := by
  have e : ((owl l n k).set k 2).set k 1 = owl l n (k + 1) := by
    rw [List.set_set, ← owl_put hk]; unfold ownerAt; rw [if_pos hb]
  have hn := h.ng
  obtain ⟨h1, h2, h3, h4⟩ := h.own k 2 rfl
  exact ⟨h1.setCell (p := ⟨ob, k, none⟩) (by show W.heap.size ≤ ob; omega) _, setOther (p := ⟨ob, k, none⟩) h2 _ (by show cb ≠ ob; omega), setOther (p := ⟨ob, k, none⟩) h3 _ (by show gb ≠ ob; omega), e ▸ h4.set k 1, hn⟩
theorem owl_all (l : List Bool) (n : Nat) : owl l n n = ownersOf l n := by
  unfold owl
  rw [List.take_of_length_le (by rw [owners_len]; exact Nat.le_refl n), Nat.sub_self]; simp
theorem wdl_all (l : List Bool) (n : Nat) : wdl l n n = (ownersOf l n).map Tk.idleS := by
  unfold wdl
  rw [List.take_of_length_le (by rw [owners_len]; exact Nat.le_refl n), Nat.sub_self]; simp
theorem MvAt.keep {W : World} {l : List Bool} {n cb gb ob k j : Nat} {w w' : World} (h : MvAt W l n cb gb ob k j w) (hb : Below (ob + 1) w w') : MvAt W l n cb gb ob k j w' := by
  have hn := h.ng
  exact ⟨h.b.trans (hb.mono (by omega)), (hb.block cb (by omega)).trans h.cr, (hb.block gb (by omega)).trans h.wr, (hb.block ob (by omega)).trans h.orow, hn⟩
theorem MvAt.ints {W : World} {l : List Bool} {n cb gb ob k j : Nat} {w : World} (h : MvAt W l n cb gb ob k j w) : IntsB w gb 0 (Tk.cells (List.replicate 9 0) (wdl l n k)) := fun q x hx => by rw [Nat.zero_add]; exact h.wr.get hx
/-- Of the slots behind the first, the count of those up to k. -/
def cntTo {α : Type} (p : α → Bool) (l : List α) (k : Nat) : Nat := ((l.drop 1).take (k - 1)).countP p
theorem cnt_zero {α : Type} (p : α → Bool) (l : List α) : cntTo p l 0 = 0 := by simp [cntTo]
theorem cnt_one {α : Type} (p : α → Bool) (l : List α) : cntTo p l 1 = 0 := by simp [cntTo]
theorem cnt_le {α : Type} (p : α → Bool) (l : List α) (k : Nat) : cntTo p l k ≤ k := by
  unfold cntTo
  refine Nat.le_trans List.countP_le_length ?_
  rw [List.length_take]; omega
theorem cnt_step {α : Type} (p : α → Bool) (l : List α) {k : Nat} {x : α} (h : l[k]? = some x) (hk : k ≠ 0) : cntTo p l (k + 1) = cntTo p l k + (if p x then 1 else 0) := by
  obtain ⟨m, rfl⟩ : ∃ m, k = m + 1 := ⟨k - 1, by omega⟩
  unfold cntTo
  simp only [Nat.add_sub_cancel]
  have e : (l.drop 1)[m]? = some x := by rw [List.getElem?_drop, Nat.add_comm]; exact h
  rw [List.take_add_one, e, List.countP_append]
  simp [List.countP_cons, List.countP_nil]
theorem cnt_all {α : Type} (p : α → Bool) {l : List α} {n : Nat} (h : l.length = n) : cntTo p l n = (l.drop 1).countP p := by
  unfold cntTo
  rw [List.take_of_length_le (by rw [List.length_drop]; omega)]
theorem wrap_small {x : Int} (h : 0 ≤ x ∧ x ≤ 1000) : wrap64 x = x := by unfold wrap64; omega
theorem wrap_nat {c : Nat} (h : (c : Int) + 1 ≤ 1000) : 0 ≤ (c : Int) + 1 ∧ (c : Int) + 1 ≤ 1000 := by omega
theorem wrap_half {c d : Nat} (h : d = (c + 1) / 2) (h1 : (c : Int) + 1 ≤ 1000) : wrap64 (d : Int) = (d : Int) := wrap_small (by omega)
theorem tdiv_half {c d : Nat} (h : d = (c + 1) / 2) : ((c : Int) + 1).tdiv 2 = (d : Int) := by rw [Int.tdiv_eq_ediv_of_nonneg (by omega)]; omega
/-- What a round reads. -/
def Mv4 (sg off ob k : Nat) (st ow o o0 : Int) (w : World) : Prop := w.cell? ⟨sg, off, none⟩ = some (.int .i64 st) ∧ w.cell? ⟨sg, off + 1, none⟩ = some (.int .i64 ow) ∧ w.cell? ⟨ob, k, none⟩ = some (.int .i64 o) ∧ w.cell? ⟨ob, 0, none⟩ = some (.int .i64 o0)
theorem run_int {Sx : World → Prop} {a : Act} (x : Operand) (g off : Nat) (v : Int) (hx : a.eval x = .pointer (some ⟨g, off, none⟩)) (hg : ∀ w, Sx w → w.cell? ⟨g, off, none⟩ = some (.int .i64 v)) : ∀ o : Oper, o.op = Op.load 3 x → ∀ w, Sx w → (execOp a.eval o).run Tryz.prog w = .ok (.value (.int .i64 v)) w := by
  intro o ho w hw
  have x0 := hg w hw
  clear hg hw
  unfold execOp
  simp only [ho, hx]
  go_simp
set_option maxRecDepth 100000 in
set_option maxHeartbeats 16000000 in
theorem takeMoves_walk (W : World) (hL : Laid W) (many : Int) (hmy : 0 ≤ many ∧ many < 256) (a0 : Option Addr) (len cap b0 off : Nat) (l : List Bool) (hw : Base.BoolsAt W a0 len cap b0 off l) :
    Calls Tryz.prog 5 #[.int .u8 many, .slice a0 len cap] W fun e W' => e = .returned (.bool true) ∧ Below W.heap.size W W' := by
  have haw := awake_any W hL
  obtain ⟨n, hn, hn1, hn2⟩ : ∃ n : Nat, 1 + many % 16 = (n : Int) ∧ 1 ≤ n ∧ n ≤ 16 := ⟨(1 + many % 16).toNat, by omega, by omega, by omega⟩
  have hw1 : IntKind.i64.wrap (1 + many % 16) = (n : Int) := by rw [IntKind.wrap_i64]; omega
  have hw2 : wrap64 (1 + many % 16) = (n : Int) := by unfold wrap64; omega
  have m0 := hmy.1
  have m1 := hmy.2
  have hlen := hw.len_eq
  have HW := Lib.hid hw
  have hcv : (Tk.mvC n).val = .agg #[.int .i64 3, .int .i64 n, .int .i64 0, .int .i64 0, .int .i64 1] := rfl
  have hce := fun w => ref_cells_any w (Tk.mvC n) (by show (0 : Int) ≤ 3 ∧ (3 : Int) ≤ 8; omega) (by show (1 : Int) ≤ n ∧ (n : Int) ≤ 100; omega)
  have hcn : 3 + 2 * (Tk.mvC n).workers + (Tk.mvC n).slots = ((9 + n : Nat) : Int) := by show 3 + 2 * (3 : Int) + (n : Int) = _; omega
  rw [hcn, hcv] at hce
  have hcz : List.replicate (9 + n) (0 : Int) = Tk.cells (List.replicate 9 0) (wdl l n 0) := by
    unfold Tk.cells wdl
    simp only [List.take_zero, List.map_nil, List.nil_append, Nat.sub_zero]
    rw [List.map_replicate, zero_word, List.replicate_append_replicate]
  have hoz : List.replicate n (0 : Int) = owl l n 0 := by unfold owl; simp
  have hmk := make_ints (9 + n) (by omega)
  have hmk2 := make_ints n (by omega)
  obtain ⟨N, hN⟩ : ∃ N, N = 9 + n := ⟨_, rfl⟩
  rw [← hN] at hce hcz hmk
  have HN := Lib.hid hN
  clear hw hcv hcn hN
  go_enter Tryz.func5, Tryz.ntmps5
  go_wp2_with fail
  refine haw.mono ?_
  rintro e w1 ⟨rfl, hb1⟩
  clear haw
  go_upto_region 3 with (fail)
  have hs1 := hb1.size
  have hB2 : Below W.heap.size W (w1.alloc (.cells #[.int .i64 3, .int .i64 n, .int .i64 0, .int .i64 0, .int .i64 1] 25)) := hb1.alloc hb1.size _
  have hr2 : RowAt (w1.alloc (.cells #[.int .i64 3, .int .i64 n, .int .i64 0, .int .i64 0, .int .i64 1] 25)) w1.heap.size #[.int .i64 3, .int .i64 n, .int .i64 0, .int .i64 0, .int .i64 1] 25 := heap_alloc_new w1 _
  generalize (w1.alloc (.cells #[.int .i64 3, .int .i64 n, .int .i64 0, .int .i64 0, .int .i64 1] 25)) = w2 at *
  clear hb1
  generalize w1.heap.size = cb at *
  refine wp_region_lit ?_
  refine grow hr2 25 (.tmp 6) Tryz.underlying25 ?_
  try simp only [Act.put, sA, sZ, sS]
  refine gcall 10 #[.tmp 25] #[25] #[.agg #[.int .i64 3, .int .i64 n, .int .i64 0, .int .i64 0, .int .i64 1]] (enters_of Tryz.func10 (by kernel_rfl) rfl) ?_
  refine (hce _).mono ?_
  rintro e w3 ⟨rfl, hb3⟩
  refine ⟨_, rfl, ?_⟩
  have hB3 := hB2.trans (hb3.mono hB2.size)
  have hr3 := RowAt.below hr2 hb3
  have hlt3 := RowAt.lt hr3
  clear hce hb3 hr2 hB2
  dsimp only
  go_upto_region 4 with (fail)
  have hw4 : WRow (w3.alloc (.cells (Array.replicate N (.int .i64 0)) 3)) w3.heap.size (List.replicate N 0) := by
    unfold WRow
    rw [← made_ints, made_rep]
    exact RowAt.new w3 _ _
  rw [hcz] at hw4
  have hB4 : Below W.heap.size W (w3.alloc (.cells (Array.replicate N (.int .i64 0)) 3)) := hB3.alloc hB3.size _
  have hr4 := RowAt.below hr3 ((Below.refl _ _).alloc (Nat.le_refl _) (.cells (Array.replicate N (.int .i64 0)) 3))
  generalize (w3.alloc (.cells (Array.replicate N (.int .i64 0)) 3)) = w4 at *
  clear hB3 hr3 hcz hmk
  generalize w3.heap.size = gb at *
  have c1 : w4.cell? ⟨cb, 1, none⟩ = some (.int .i64 n) := RowAt.cell hr4 1
  have hlt4 := RowAt.lt hw4
  go_upto_region 5 with (fail)
  have ho5 : WRow (w4.alloc (.cells (Array.replicate n (.int .i64 0)) 3)) w4.heap.size (List.replicate n 0) := by
    unfold WRow
    rw [← made_ints, made_rep]
    exact RowAt.new w4 _ _
  rw [hoz] at ho5
  have hB5 : Below W.heap.size W (w4.alloc (.cells (Array.replicate n (.int .i64 0)) 3)) := hB4.alloc hB4.size _
  have hA5 := (Below.refl w4.heap.size w4).alloc (Nat.le_refl _) (.cells (Array.replicate n (.int .i64 0)) 3)
  have hr5 := RowAt.below hr4 hA5
  have hw5 := RowAt.below hw4 hA5
  generalize (w4.alloc (.cells (Array.replicate n (.int .i64 0)) 3)) = w5 at *
  clear hB4 hr4 hw4 hoz hmk2 c1 hA5
  generalize w4.heap.size = ob at *
  have M5 : MvAt W l n cb gb ob 0 0 w5 := ⟨hB5, hr5, hw5, ho5, ⟨hs1, hlt3, hlt4⟩⟩
  have M5 := Lib.hid M5
  clear hB5 hr5 hw5 ho5 hw1 hw2 m0 m1
  go_wp2_with fail
  go_loopw [9] (fun v wr => ∃ k : Nat, k ≤ n ∧ v = .int .i64 k ∧ RowKit.Hid (MvAt W l n cb gb ob k k wr)) (fun v _ => n - (intOf v).toNat)
  case atStart => exact ⟨0, by omega, rfl, M5⟩
  case round =>
    obtain ⟨k, hk, rfl, hM⟩ := hrel
    clear M5
    have c1 : wr.cell? ⟨cb, 1, none⟩ = some (.int .i64 n) := RowAt.cell hM.out.cr 1
    by_cases hlt : k < n
    · have k0 : (0 : Int) ≤ (k : Int) := by omega
      have k1 : (k : Int) < (n : Int) := by omega
      obtain ⟨v0, q0⟩ : ∃ v, wr.cell? ⟨ob, k, none⟩ = some (.int .i64 v) := ⟨_, hM.out.orow.get (List.getElem?_eq_getElem (by rw [owl_len hk]; exact hlt))⟩
      have z0 : wr.frozen? ⟨ob, k, none⟩ = false := RowAt.frozen hM.out.orow k
      have hF := hM.out.own_false hlt
      have hT := hM.out.own_true hlt
      obtain ⟨b6, cr6, -, or6⟩ := hM.out.own k 2 rfl
      go_upto_region 9 with (fail)
      generalize (wr.setCell ⟨ob, k, none⟩ (.int .i64 2)) = w6 at *
      have q6 : w6.cell? ⟨ob, k, none⟩ = some (.int .i64 2) := or6.get (by rw [List.getElem?_set]; simp [owl_len hk, hlt])
      have z6 : w6.frozen? ⟨ob, k, none⟩ = false := RowAt.frozen or6 k
      have HT := Lib.hid hT
      have HF := Lib.hid hF
      have HB6 := Lib.hid b6
      clear hT hF b6 cr6 or6 q0 z0 hM c1
      go_cut [49] from 40 to 63 (fun s wx => s = .bool (l.getD k false) ∧ w6 = wx)
      case first =>
        by_cases hl : k < l.length
        · have ha0 : a0 = some ⟨b0, off, none⟩ := (HW.out.addr (by omega)).1
          subst ha0
          have e6 : w6.cell? ⟨b0, off + k, none⟩ = some (.bool l[k]) := Field.bkeep HB6.out (HW.out.cell k _ (List.getElem?_eq_getElem hl))
          have hgd : l.getD k false = l[k] := by rw [List.getD_eq_getElem?_getD, List.getElem?_eq_getElem hl]; rfl
          generalize l[k] = lk at *
          have i1 : (k : Int) < l.length := by omega
          have HGD := Lib.hid hgd
          clear hgd hl
          go_wp2_with fail
          go_meet
          case rel => exact ⟨by rw [HGD.out], rfl⟩
        · have hgd : l.getD k false = false := by rw [List.getD_eq_getElem?_getD, List.getElem?_eq_none (by omega)]; rfl
          have i1 : ¬ (k : Int) < l.length := by omega
          have HGD := Lib.hid hgd
          clear hgd hl
          go_wp2_with fail
          go_meet
          case rel => exact ⟨by rw [HGD.out], rfl⟩
      case rest =>
        obtain ⟨rfl, rfl⟩ := hcut
        go_upto_if 49 with (fail)
        go_cut [49] from 40 to 63 (fun s wx => RowKit.Hid (MvAt W l n cb gb ob k (k + 1) wx))
        case first =>
          cases hb : l.getD k false
          · have H7 := Lib.hid (HF.out hb)
            clear hb
            go_wp2_with fail
            go_meet
            case rel => exact H7
          · have H7 := Lib.hid (HT.out hb)
            clear hb
            go_wp2_with fail
            go_meet
            case rel => exact H7
        case rest =>
          generalize wc = w7 at *
          have hM := hcut
          clear HT HF HB6 q6 z6
          obtain ⟨o, ho⟩ : ∃ o, ownerAt l k = o := ⟨_, rfl⟩
          have ho12 : o = 1 ∨ o = 2 := by rw [← ho]; unfold ownerAt; split; exact .inl rfl; exact .inr rfl
          have hat := owl_at (l := l) hlt
          have hput := fun w (h : MvAt W l n cb gb ob k (k + 1) w) => h.word hlt
          rw [ho] at hat hput
          have e7 : w7.cell? ⟨ob, k, none⟩ = some (.int .i64 o) := hM.out.orow.get hat
          have hwd : ∀ w, Calls Tryz.prog 11 #[.agg #[.int .i64 2, .int .i64 o, .int .i64 0, .bool false, .bool false, .int .i64 0, .int .i64 0, .int .i64 0, .int .i64 0]] w fun e w' => e = .returned (.int .i64 (Tk.idleS o).word) ∧ Below w.heap.size w w' := fun w => by
            have h := ref_word_any w (Tk.idleS o)
            rw [docW_word, show docS (Tk.idleS o) = Tk.idleS o from if_pos (Tk.idle_right ho12)] at h
            exact h
          have hsl := fun w => ref_slot_any w (Tk.mvC n) k ⟨show (0 : Int) ≤ 3 by omega, show (3 : Int) ≤ 8 by omega⟩ ⟨by show (k : Int) < n; omega, by show (n : Int) ≤ 100; omega⟩
          obtain ⟨j, hj⟩ : ∃ j, j = Tk.sc (Tk.mvC n) k := ⟨_, rfl⟩
          have hj9 : j = 9 + k := by rw [hj]; rfl
          have hjc : 3 + 2 * (Tk.mvC n).workers + (k : Int) = (j : Int) := by show 3 + 2 * (3 : Int) + (k : Int) = _; omega
          rw [hjc, show (Tk.mvC n).val = .agg #[.int .i64 3, .int .i64 n, .int .i64 0, .int .i64 0, .int .i64 1] from rfl] at hsl
          rw [← hj] at hput
          obtain ⟨wd, hwe⟩ : ∃ wd, (Tk.idleS o).word = wd := ⟨_, rfl⟩
          rw [hwe] at hwd hput
          have i7 : (j : Int) < (N : Int) := by have := HN.out; omega
          have i8 : (0 : Int) ≤ (j : Int) := by omega
          have hcl : (Tk.cells (List.replicate 9 0) (wdl l n k)).length = N := by rw [cells_ln hk, HN.out]
          have HCL := Lib.hid hcl
          have HPU := Lib.hid hput
          have HAT := Lib.hid hat
          have CR := hM.out.cr
          have hfin : ∀ u v, Below w7.heap.size w7 u → Below u.heap.size u v → MvAt W l n cb gb ob k (k + 1) v := fun u v h h2 => hM.out.below (h.trans (h2.mono h.size))
          have HFI := Lib.hid hfin
          have keep : ∀ w', Below w7.heap.size w7 w' → (RowAt w' cb #[.int .i64 3, .int .i64 n, .int .i64 0, .int .i64 0, .int .i64 1] 25 ∧ w'.cell? ⟨ob, k, none⟩ = some (.int .i64 o)) := fun w' h => ⟨RowAt.below CR h, Field.bkeep h e7⟩
          have HKE := Lib.hid keep
          clear hcl hput hat hfin keep hj hj9 hjc hwe ho ho12 hM
          go_upto_region 11 with (fail)
          refine wp_region_held_drew (S := fun w' => RowAt w' cb #[.int .i64 3, .int .i64 n, .int .i64 0, .int .i64 0, .int .i64 1] 25 ∧ w'.cell? ⟨ob, k, none⟩ = some (.int .i64 o)) (by kernel_rfl) (by exact ⟨CR, e7⟩) (fun hHeld => ?_)
          refine tKg 0 53 hHeld ?_
          try simp only [Act.put, sA, sZ, sS]
          refine tKg 2 55 hHeld ?_
          try simp only [Act.put, sA, sZ, sS]
          refine tKg 4 57 hHeld ?_
          try simp only [Act.put, sA, sZ, sS]
          refine tKg 5 58 hHeld ?_
          try simp only [Act.put, sA, sZ, sS]
          refine tKg 6 59 hHeld ?_
          try simp only [Act.put, sA, sZ, sS]
          refine tKg 7 60 hHeld ?_
          try simp only [Act.put, sA, sZ, sS]
          refine tKg 8 61 hHeld ?_
          try simp only [Act.put, sA, sZ, sS]
          refine rRow 1 54 hHeld.1 25 (.tmp 6) Tryz.underlying25 hHeld ?_
          try simp only [Act.put, sA, sZ, sS]
          refine rKc (i := 3) 12 #[.tmp 54, .tmp 55] #[25, 3] (some 56) none #[.agg #[.int .i64 3, .int .i64 n, .int .i64 0, .int .i64 0, .int .i64 1], .int .i64 k] (enters_of Tryz.func12 (by kernel_rfl) rfl) ?_
          refine (hsl _).mono ?_
          rintro e w8 ⟨rfl, hb8⟩
          have hb8 := (Below.refl w7.heap.size w7).drew.trans hb8
          refine ⟨_, rfl, HKE.out _ hb8, fun hHeld => ?_⟩
          try simp only [Act.put, sA, sZ, sS]
          refine rKc (i := 9) 11 #[.tmp 61] #[30] (some 62) none #[.agg #[.int .i64 2, .int .i64 o, .int .i64 0, .bool false, .bool false, .int .i64 0, .int .i64 0, .int .i64 0, .int .i64 0]] (enters_of Tryz.func11 (by kernel_rfl) rfl) ?_
          refine (hwd _).mono ?_
          rintro e w9 ⟨rfl, hb9⟩
          have M9 := HFI.out _ _ hb8 hb9
          have hb9 := hb8.trans (hb9.mono hb8.size)
          refine ⟨_, rfl, HKE.out _ hb9, fun hHeld => ?_⟩
          try simp only [Act.put, sA, sZ, sS]
          refine tKg 10 63 hHeld ?_
          try simp only [Act.put, sA, sZ, sS]
          obtain ⟨v7, hv7⟩ : ∃ v, w9.cell? ⟨gb, j, none⟩ = some (.int .i64 v) := ⟨_, M9.wr.get (List.getElem?_eq_getElem (by rw [HCL.out]; omega))⟩
          have hz7 : w9.frozen? ⟨gb, j, none⟩ = false := RowAt.frozen M9.wr j
          have M10 := HPU.out _ M9
          have hS10 := And.intro M10.cr (M10.orow.get HAT.out)
          refine ready1 (i := 11) (by kernel_rfl) (step_store_cell 3 (.tmp 63) (.tmp 62) (by kernel_rfl) gb j (.int .i64 wd) (by kernel_rfl) (by kernel_rfl) (fun _ => st_intw hv7 hz7) hS10 (fun _ => ?_))
          try simp only [Act.put, sA, sZ, sS]
          refine wpAnyH_done (by kernel_rfl) ?_ _
          have M10 := Lib.hid M10
          clear M9 hS10 hHeld hb8 hb9 hv7 hz7 CR e7 HCL HPU HAT HFI HKE hsl hwd
          go_wp2_with fail
          go_roundw
          case rel => exact ⟨k + 1, by omega, by go_num, M10⟩
          case measure => simp [intOf]; omega
    · have k1 : ¬ (k : Int) < (n : Int) := by omega
      obtain rfl : k = n := by omega
      clear hlt hk
      obtain ⟨pl, hpl⟩ : ∃ pl, pl = Tk.cells (List.replicate 9 0) ((ownersOf l k).map Tk.idleS) := ⟨_, rfl⟩
      have hcr : (Tk.mvC k).right = true := mv_right ⟨hn1, hn2⟩
      have hM := hM.out
      have hint := hM.ints
      rw [wdl_all] at hint
      have hln : (Tk.cells (List.replicate 9 0) ((ownersOf l k).map Tk.idleS)).length = N := by rw [← wdl_all, cells_ln (Nat.le_refl k), HN.out]
      have hsc : N = Tk.sc (Tk.mvC k) (Tk.ns (Tk.mvC k)) := by rw [HN.out]; unfold Tk.sc Tk.ns Tk.mvC; simp
      clear hpl pl
      have hld := laid_any wr (Tk.mvC k) hcr gb 0 N _ (hln.trans hsc) hint
      rw [hln] at hld
      rw [show (Tk.mvC k).val = .agg #[.int .i64 3, .int .i64 k, .int .i64 0, .int .i64 0, .int .i64 1] from rfl] at hld
      go_upto_region 12 with (fail)
      refine wp_region_lit ?_
      refine grow hM.cr 25 (.tmp 6) Tryz.underlying25 ?_
      refine gl (.slice (some ⟨gb, 0, none⟩) N N) ?_
      try simp only [Act.put, sA, sZ, sS]
      refine gcall 13 #[.tmp 64, .tmp 65] #[25, 26] #[.agg #[.int .i64 3, .int .i64 k, .int .i64 0, .int .i64 0, .int .i64 1], .slice (some ⟨gb, 0, none⟩) N N] (enters_of Tryz.func13 (by kernel_rfl) rfl) ?_
      refine hld.mono ?_
      rintro e w5x ⟨mb, wb, rfl, hM5, hm1, hm2, hb5⟩
      refine ⟨_, rfl, ?_⟩
      have M5 := hM.below hb5
      have hlt5 := RowAt.lt hM.orow
      have hmb : ob + 1 ≤ mb := Nat.le_trans hlt5 hm1
      have hwb : ob + 1 ≤ wb := Nat.le_trans hlt5 hm2
      have hL5 : Laid w5x := hL.stable (M5.b.block 0 (hL.lt (by decide)))
      clear hld hm1 hm2 hb5 hlt5 hM hint c1
      dsimp only
      have hlt5 := RowAt.lt M5.orow
      have hna := tnew_any w5x (Tk.mvC k) 0
      rw [show (Tk.mvC k).val = .agg #[.int .i64 3, .int .i64 k, .int .i64 0, .int .i64 0, .int .i64 1] from rfl] at hna
      go_upto_region 13 with (fail)
      refine wp_region_lit ?_
      refine grow M5.cr 25 (.tmp 6) Tryz.underlying25 ?_
      try simp only [Act.put, sA, sZ, sS]
      refine gcall 14 #[.tmp 67, .const (.int .i64 0)] #[25, 3] #[.agg #[.int .i64 3, .int .i64 k, .int .i64 0, .int .i64 0, .int .i64 1], .int .i64 0] (enters_of Tryz.func14 (by kernel_rfl) rfl) ?_
      refine hna.mono ?_
      rintro e w6 ⟨tb, rfl, hT6, ht6, hb6⟩
      refine ⟨_, rfl, ?_⟩
      have M6 := M5.below hb6
      have htb : ob + 1 ≤ tb := Nat.le_trans hlt5 ht6
      have h6 := TkAt.fresh hM5 hL5 (by omega) (by omega) hb6 ht6 hT6 rfl rfl
      have hH6 := hi_new htb
      have hlt6 := RowAt.lt M6.orow
      clear hT6 ht6 hb6 hM5 hL5 M5 hlt5 hna htb
      dsimp only
      obtain ⟨o0, os, hos⟩ : ∃ o0 os, ownersOf l k = o0 :: os := by
        cases hq : ownersOf l k with
        | nil => have := owners_len l k; rw [hq] at this; simp at this; omega
        | cons a b => exact ⟨a, b, rfl⟩
      have h12 := owners_12 l k
      have hol := owners_len l k
      rw [hos] at h12 hol h6 hln
      have hol2 : os.length + 1 = k := by simpa using hol
      obtain ⟨n2, t', ss', hme, hp', ha1, ha2, hE⟩ := Tk.moves_end h12 (by omega)
      rw [hol2] at hme hp'
      have hal := alone_any h6 (new_ok hcr (by omega) (hln.trans hsc)) ⟨by omega, by have := HN.out; omega⟩ true
      rw [hme] at hal
      unfold AlonePost at hal
      dsimp only at hal
      have hbd := cells_bd hp' (PreOk.zero (Tk.mvC k))
      have hE2 := hE.cnt o0 rfl
      obtain ⟨s0, hs0, s0st, s0ow⟩ := hE.first
      have hEr := hE.rest
      have hsl : ss'.length = k := by rw [hE.len]; exact hol
      have hl2 : (Tk.cells (List.replicate 9 0) ss').length = N := by unfold Tk.cells; simp [hsl]; have := HN.out; omega
      have HE2 := Lib.hid hE2
      have HER := Lib.hid hEr
      have HS0 := Lib.hid hs0
      have HSL := Lib.hid hsl
      have HL2 := Lib.hid hl2
      have HP := Lib.hid hp'
      have HBD := Lib.hid hbd
      have HOS := Lib.hid hos
      have H12 := Lib.hid h12
      have HOL := Lib.hid hol
      have HA1 := Lib.hid ha1
      have HA2 := Lib.hid ha2
      have HSC := Lib.hid hsc
      have M6 := Lib.hid M6
      clear hE2 hEr hs0 hsl hl2 hp' hbd hos h12 hol ha1 ha2 hsc hE hme h6 hln hol2
      go_wp2_with fail
      refine hal.mono ?_
      rintro e w7 ⟨rfl, l2, r2, tc2, h7, ht7, r7⟩
      have r7' : TR w6 tb mb wb none none w7 l2 r2 := r7
      have hB7 := r7'.hiBelow hH6 hmb hwb hlt6
      have h7 : TkAt w7 tb mb wb l2 r2 t' (Tk.cells (List.replicate 9 0) ss') tc2 := h7
      have han := answer_any h7
      rw [HA1.out, HA2.out] at han
      have M7 := M6.out.keep hB7
      have H7 := Lib.hid h7
      clear hal r7 r7' h7 hH6 hB7 M6 HA1 HA2 hlt6
      go_wp2_with fail
      refine han.mono ?_
      rintro e w8 ⟨rfl, hb8⟩
      have h8 := H7.out.below hb8
      have M8 := M7.below hb8
      clear han H7 hb8 M7
      have hwo := words_any (h8.below (Below.refl _ _).drew).mem
      rw [HL2.out] at hwo
      go_upto_region 20 with (fail)
      refine wp_region_held_drew (S := fun w' => RowAt w' cb #[.int .i64 3, .int .i64 k, .int .i64 0, .int .i64 0, .int .i64 1] 25) (by kernel_rfl) (by exact M8.cr) (fun hHeld => ?_)
      refine tKg 1 85 hHeld ?_
      try simp only [Act.put, sA, sZ, sS]
      refine tKw (gd := none) 0 84 (.load 25 (.tmp 6)) (.agg #[.int .i64 3, .int .i64 k, .int .i64 0, .int .i64 0, .int .i64 1]) (run_load_row 25 (.tmp 6) cb 25 #[.int .i64 3, .int .i64 k, .int .i64 0, .int .i64 0, .int .i64 1] _ (by kernel_rfl) Tryz.underlying25 rfl (by kernel_rfl) (fun w h => h)) hHeld ?_
      try simp only [Act.put, sA, sZ, sS]
      refine rKc (i := 2) 23 #[.tmp 85] #[32] (some 86) none #[.pointer (some ⟨mb, 0, none⟩)] (enters_of Tryz.func23 (by kernel_rfl) rfl) ?_
      refine hwo.mono ?_
      rintro e w9 ⟨na, ncap, rfl, hown, hfp, hb9⟩
      have hb9 := (Below.refl w8.heap.size w8).drew.trans hb9
      obtain ⟨ng, no, rfl, hng, hni, hnz⟩ := own_ints hown (by have := HN.out; omega)
      have M9 := M8.below hb9
      refine ⟨_, rfl, M9.cr, fun hHeld => ?_⟩
      try simp only [Act.put, sA, sZ, sS]
      have hsls := ref_slots_any w9 (Tk.mvC k) hcr ng no ncap (Tk.cells (List.replicate 9 0) ss') (HL2.out.trans HSC.out) hni HBD.out
      rw [slotsOf_cells HP.out, HL2.out] at hsls
      rw [show (Tk.mvC k).val = .agg #[.int .i64 3, .int .i64 k, .int .i64 0, .int .i64 0, .int .i64 1] from rfl] at hsls
      refine rKc (i := 3) 21 #[.tmp 84, .tmp 86] #[25, 26] (some 87) none #[.agg #[.int .i64 3, .int .i64 k, .int .i64 0, .int .i64 0, .int .i64 1], .slice (some ⟨ng, no, none⟩) N ncap] (enters_of Tryz.func21 (by kernel_rfl) rfl) ?_
      refine hsls.mono ?_
      rintro e w10 ⟨sa, scp, rfl, hsi, hb10⟩
      have M10 := M9.below hb10
      refine ⟨_, rfl, M10.cr, fun hHeld => ?_⟩
      try simp only [Act.put, sA, sZ, sS]
      refine tKg 4 17 hHeld ?_
      try simp only [Act.put, sA, sZ, sS]
      refine wpAnyH_done (by kernel_rfl) ?_ _
      rw [HSL.out]
      have HSI := Lib.hid hsi
      have HM := Lib.hid M10
      clear hwo hown hfp hb9 hnz hni hsls M9 M8 hb10 hHeld h8 hng hsi M10 HBD HP HL2 HSC
      go_wp2_with fail
      go_loopw [15, 16, 18] (fun a b v wr2 => ∃ (q c1 c2 : Nat), q ≤ k ∧ v = .int .i64 q ∧ a = .int .i64 c1 ∧ b = .int .i64 c2 ∧ RowKit.Hid (c1 = cntTo (fun o => o == o0) (o0 :: os) q) ∧ RowKit.Hid (c2 = cntTo (fun s => s.own == 0) ss' q) ∧ RowKit.Hid (Below w10.heap.size w10 wr2)) (fun a b v _ => k - (intOf v).toNat)
      case atStart => exact ⟨0, 0, 0, by omega, rfl, rfl, rfl, Lib.hid (cnt_zero _ _).symm, Lib.hid (cnt_zero _ _).symm, Lib.hid (Below.refl _ _)⟩
      case round =>
        obtain ⟨q, c1, c2, hq, rfl, rfl, rfl, hc1, hc2, hB⟩ := hrel
        have b1 : c1 ≤ q := by rw [hc1.out]; exact cnt_le _ _ _
        have b2 : c2 ≤ q := by rw [hc2.out]; exact cnt_le _ _ _
        by_cases hlt : q < k
        · have k0 : (0 : Int) ≤ (q : Int) := by omega
          have k1 : (q : Int) < (k : Int) := by omega
          by_cases hz : q = 0
          · subst hz
            obtain rfl : c1 = 0 := by omega
            obtain rfl : c2 = 0 := by omega
            go_wp2_with fail
            go_roundw
            case rel => exact ⟨1, 0, 0, by omega, by go_num, rfl, rfl, Lib.hid (cnt_one _ _).symm, Lib.hid (cnt_one _ _).symm, hB⟩
            case measure => simp [intOf]; omega
          · have hzb : ((q : Int) == 0) = false := by rw [beq_eq_false_iff_ne]; omega
            obtain ⟨s, hs⟩ : ∃ s, ss'[q]? = some s := ⟨_, List.getElem?_eq_getElem (by rw [HSL.out]; exact hlt)⟩
            obtain ⟨o, ho⟩ : ∃ o, (o0 :: os)[q]? = some o := ⟨_, List.getElem?_eq_getElem (by rw [HOL.out]; exact hlt)⟩
            obtain ⟨s2, sor⟩ := HER.out q s o o0 (by omega) hs ho rfl
            have hc1n := cnt_step (fun o => o == o0) (o0 :: os) ho hz
            have hc2n := cnt_step (fun s : S => s.own == 0) ss' hs hz
            rw [← hc1.out] at hc1n
            rw [← hc2.out] at hc2n
            try dsimp only at hc1n hc2n
            obtain ⟨sg, so, rfl, hcs⟩ := HSI.out q s hs
            have o12 : o = 1 ∨ o = 2 := H12.out o (List.mem_of_getElem? ho)
            have g0 : wr.cell? ⟨sg, so + q * 9, none⟩ = some (.int .i64 2) := Field.bkeep hB.out (by have h := hcs 0 (.int .i64 s.state) rfl; rw [s2] at h; exact h)
            have g1 : wr.cell? ⟨sg, so + q * 9 + 1, none⟩ = some (.int .i64 s.own) := Field.bkeep hB.out (hcs 1 _ rfl)
            have or2 := RowAt.below HM.out.orow hB.out
            have e1 : wr.cell? ⟨ob, q, none⟩ = some (.int .i64 o) := (show WRow wr ob (owl l k k) from or2).get (by rw [owl_all, HOS.out]; exact ho)
            have e0 : wr.cell? ⟨ob, 0, none⟩ = some (.int .i64 o0) := (show WRow wr ob (owl l k k) from or2).get (by rw [owl_all, HOS.out]; rfl)
            have h4 : Mv4 sg (so + q * 9) ob q 2 s.own o o0 wr := ⟨g0, g1, e1, e0⟩
            have H4 := Lib.hid h4
            have HSO := Lib.hid sor
            have HO12 := Lib.hid o12
            generalize s.own = ow at *
            have k00 : (0 : Int) < (k : Int) := by omega
            have k00n : 0 < k := by omega
            obtain ⟨d1, hd1⟩ : ∃ d1, d1 = cntTo (fun o => o == o0) (o0 :: os) (q + 1) := ⟨_, rfl⟩
            obtain ⟨d2, hd2⟩ : ∃ d2, d2 = cntTo (fun s : S => s.own == 0) ss' (q + 1) := ⟨_, rfl⟩
            rw [← hd1] at hc1n
            rw [← hd2] at hc2n
            have HC1 := Lib.hid hc1n
            have HC2 := Lib.hid hc2n
            have HD1 := Lib.hid hd1
            have HD2 := Lib.hid hd2
            clear hd1 hd2
            clear hc1n hc2n h4 hs ho s2 sor hcs o12 g0 g1 or2 hz hc1 hc2
            go_upto_region 25 with (fail)
            refine wp_region_held_drew (S := Mv4 sg (so + q * 9) ob q 2 ow o o0) (by kernel_rfl) (by exact H4.out) (fun hHeld => ?_)
            clear e1 e0
            refine tKg 0 96 hHeld ?_
            try simp only [Act.put, sA, sZ, sS]
            refine tKg 1 97 hHeld ?_
            try simp only [Act.put, sA, sZ, sS]
            refine tKg 2 98 hHeld ?_
            try simp only [Act.put, sA, sZ, sS]
            refine tKw (gd := none) 3 99 (.load 3 (.tmp 98)) (.int .i64 o) (run_int (.tmp 98) ob q o (by kernel_rfl) (fun w h => h.2.2.1)) hHeld ?_
            try simp only [Act.put, sA, sZ, sS]
            refine tKg 4 100 hHeld ?_
            try simp only [Act.put, sA, sZ, sS]
            refine tKg 5 101 hHeld ?_
            try simp only [Act.put, sA, sZ, sS]
            refine tKw (gd := none) 6 102 (.load 3 (.tmp 101)) (.int .i64 o0) (run_int (.tmp 101) ob 0 o0 (by kernel_rfl) (fun w h => h.2.2.2)) hHeld ?_
            try simp only [Act.put, sA, sZ, sS]
            refine tKg 7 103 hHeld ?_
            try simp only [Act.put, sA, sZ, sS]
            refine wpAnyH_done (by kernel_rfl) ?_ _
            clear hHeld
            go_upto_if 103 with (fail)
            go_cut [15] from 94 to 149 (fun s wx => s = .int .i64 d1 ∧ RowKit.Hid (Below w10.heap.size w10 wx) ∧ RowKit.Hid (Mv4 sg (so + q * 9) ob q 2 ow o o0 wx))
            case first =>
              have hc := HC1.out
              cases hb : (o == o0)
              · rw [hb] at hc
                have hc : d1 = c1 := by simpa using hc
                clear hb
                go_wp2_with fail
                go_meet
                case rel => exact ⟨by rw [hc], Lib.hid hB.out.drew, Lib.hid (by exact H4.out)⟩
              · rw [hb] at hc
                have hc : d1 = c1 + 1 := by simpa using hc
                have HCc := Lib.hid hc
                clear hb hc
                go_wp2_with fail
                go_meet
                case rel => exact ⟨by rw [HCc.out]; go_num, Lib.hid hB.out.drew, Lib.hid (by exact H4.out)⟩
            case rest =>
              obtain ⟨rfl, hB2, h42⟩ := hcut
              generalize wc = wy at *
              clear hB H4
              have on0 : o ≠ 0 := by have := HO12.out; omega
              have ob1 : (o == 0) = false := by simpa using on0
              have ob2 : (o != 0) = true := by simpa using on0
              have ob3 : ((0 : Int) != o) = true := by simpa using fun e => on0 e.symm
              have ob4 : ((0 : Int) == o) = false := by simpa using fun e => on0 e.symm
              have ON := Lib.hid on0
              clear on0
              rcases HSO.out with e | ⟨e, e'⟩
              · subst e
                have hc : d2 = c2 := by have h := HC2.out; rw [ob1] at h; simpa using h
                subst hc
                have h4 := h42.out
                go_upto_region 27 with (fail)
                refine wp_region_held_drew (S := Mv4 sg (so + q * 9) ob q 2 _ _ _) (by kernel_rfl) (by exact h4) (fun hHeld => ?_)
                clear h4
                refine tKg 0 106 hHeld ?_
                try simp only [Act.put, sA, sZ, sS]
                refine tKg 1 107 hHeld ?_
                try simp only [Act.put, sA, sZ, sS]
                refine tKg 2 108 hHeld ?_
                try simp only [Act.put, sA, sZ, sS]
                refine tKg 3 109 hHeld ?_
                try simp only [Act.put, sA, sZ, sS]
                refine tKw (gd := none) 4 110 (.load 3 (.tmp 109)) (.int .i64 2) (run_int (.tmp 109) sg (so + q * 9) 2 (by kernel_rfl) (fun w h => h.1)) hHeld ?_
                try simp only [Act.put, sA, sZ, sS]
                refine tKg 5 111 hHeld ?_
                try simp only [Act.put, sA, sZ, sS]
                refine tKg 6 112 hHeld ?_
                try simp only [Act.put, sA, sZ, sS]
                refine tKg 7 113 hHeld ?_
                try simp only [Act.put, sA, sZ, sS]
                refine tKg 8 114 hHeld ?_
                try simp only [Act.put, sA, sZ, sS]
                refine tKg 9 115 hHeld ?_
                try simp only [Act.put, sA, sZ, sS]
                refine tKg 10 116 hHeld ?_
                try simp only [Act.put, sA, sZ, sS]
                refine tKw (gd := (some (6, false))) 11 117 (.load 3 (.tmp 116)) (.int .i64 _) (run_int (.tmp 116) sg (so + q * 9 + 1) _ (by kernel_rfl) (fun w h => h.2.1)) hHeld ?_
                try simp only [Act.put, sA, sZ, sS]
                refine tKg 12 118 hHeld ?_
                try simp only [Act.put, sA, sZ, sS]
                refine tKg 13 119 hHeld ?_
                try simp only [Act.put, sA, sZ, sS]
                refine tKg 14 120 hHeld ?_
                try simp only [Act.put, sA, sZ, sS]
                refine tKw (gd := (some (6, false))) 15 121 (.load 3 (.tmp 120)) (.int .i64 _) (run_int (.tmp 120) ob q _ (by kernel_rfl) (fun w h => h.2.2.1)) hHeld ?_
                try simp only [Act.put, sA, sZ, sS]
                refine tKg 16 122 hHeld ?_
                try simp only [Act.put, sA, sZ, sS]
                refine tKg 17 123 hHeld ?_
                try simp only [Act.put, sA, sZ, sS]
                refine sKp 18 (some 124) hHeld ?_
                try simp only [Act.put, sA, sZ, sS]
                refine sKp 19 (some 125) hHeld ?_
                try simp only [Act.put, sA, sZ, sS]
                refine sKp 20 (some 126) hHeld ?_
                try simp only [Act.put, sA, sZ, sS]
                refine sKp 21 (some 127) hHeld ?_
                try simp only [Act.put, sA, sZ, sS]
                refine sKp 22 (some 128) hHeld ?_
                try simp only [Act.put, sA, sZ, sS]
                refine sKp 23 (some 129) hHeld ?_
                try simp only [Act.put, sA, sZ, sS]
                refine sKp 24 (some 130) hHeld ?_
                try simp only [Act.put, sA, sZ, sS]
                refine sKp 25 (some 131) hHeld ?_
                try simp only [Act.put, sA, sZ, sS]
                refine sKp 26 (some 132) hHeld ?_
                try simp only [Act.put, sA, sZ, sS]
                refine sKp 27 (some 133) hHeld ?_
                try simp only [Act.put, sA, sZ, sS]
                refine sKp 28 (some 134) hHeld ?_
                try simp only [Act.put, sA, sZ, sS]
                refine sKp 29 (some 135) hHeld ?_
                try simp only [Act.put, sA, sZ, sS]
                refine sKp 30 (some 136) hHeld ?_
                try simp only [Act.put, sA, sZ, sS]
                refine sKp 31 (some 137) hHeld ?_
                try simp only [Act.put, sA, sZ, sS]
                refine sKp 32 (some 138) hHeld ?_
                try simp only [Act.put, sA, sZ, sS]
                refine sKp 33 (some 139) hHeld ?_
                try simp only [Act.put, sA, sZ, sS]
                refine tKg 34 140 hHeld ?_
                try simp only [Act.put, sA, sZ, sS]
                refine tKg 35 141 hHeld ?_
                try simp only [Act.put, sA, sZ, sS]
                refine wpAnyH_done (by kernel_rfl) ?_ _
                clear hHeld
                have hB3 := hB2.out.drew
                obtain ⟨g0, g1, -, -⟩ := h42.out
                have HB3 := Lib.hid hB3
                clear hB3
                go_wp2_with fail
                go_roundw
                case rel => exact ⟨q + 1, _, _, by omega, by go_num, rfl, rfl, HD1, HD2, HB3⟩
                case measure => first | (simp [intOf]; done) | (simp [intOf]; omega)
              · subst e
                subst e'
                have hc : d2 = c2 + 1 := by have h := HC2.out; simpa using h
                have HCd := Lib.hid hc
                clear hc
                have h4 := h42.out
                go_upto_region 27 with (fail)
                refine wp_region_held_drew (S := Mv4 sg (so + q * 9) ob q 2 _ _ _) (by kernel_rfl) (by exact h4) (fun hHeld => ?_)
                clear h4
                refine tKg 0 106 hHeld ?_
                try simp only [Act.put, sA, sZ, sS]
                refine tKg 1 107 hHeld ?_
                try simp only [Act.put, sA, sZ, sS]
                refine tKg 2 108 hHeld ?_
                try simp only [Act.put, sA, sZ, sS]
                refine tKg 3 109 hHeld ?_
                try simp only [Act.put, sA, sZ, sS]
                refine tKw (gd := none) 4 110 (.load 3 (.tmp 109)) (.int .i64 2) (run_int (.tmp 109) sg (so + q * 9) 2 (by kernel_rfl) (fun w h => h.1)) hHeld ?_
                try simp only [Act.put, sA, sZ, sS]
                refine tKg 5 111 hHeld ?_
                try simp only [Act.put, sA, sZ, sS]
                refine tKg 6 112 hHeld ?_
                try simp only [Act.put, sA, sZ, sS]
                refine tKg 7 113 hHeld ?_
                try simp only [Act.put, sA, sZ, sS]
                refine tKg 8 114 hHeld ?_
                try simp only [Act.put, sA, sZ, sS]
                refine tKg 9 115 hHeld ?_
                try simp only [Act.put, sA, sZ, sS]
                refine tKg 10 116 hHeld ?_
                try simp only [Act.put, sA, sZ, sS]
                refine tKw (gd := (some (6, false))) 11 117 (.load 3 (.tmp 116)) (.int .i64 _) (run_int (.tmp 116) sg (so + q * 9 + 1) _ (by kernel_rfl) (fun w h => h.2.1)) hHeld ?_
                try simp only [Act.put, sA, sZ, sS]
                refine tKg 12 118 hHeld ?_
                try simp only [Act.put, sA, sZ, sS]
                refine tKg 13 119 hHeld ?_
                try simp only [Act.put, sA, sZ, sS]
                refine tKg 14 120 hHeld ?_
                try simp only [Act.put, sA, sZ, sS]
                refine tKw (gd := (some (6, false))) 15 121 (.load 3 (.tmp 120)) (.int .i64 _) (run_int (.tmp 120) ob q _ (by kernel_rfl) (fun w h => h.2.2.1)) hHeld ?_
                try simp only [Act.put, sA, sZ, sS]
                refine tKg 16 122 hHeld ?_
                try simp only [Act.put, sA, sZ, sS]
                refine tKg 17 123 hHeld ?_
                try simp only [Act.put, sA, sZ, sS]
                refine tKg 18 124 hHeld ?_
                try simp only [Act.put, sA, sZ, sS]
                refine tKg 19 125 hHeld ?_
                try simp only [Act.put, sA, sZ, sS]
                refine tKg 20 126 hHeld ?_
                try simp only [Act.put, sA, sZ, sS]
                refine tKg 21 127 hHeld ?_
                try simp only [Act.put, sA, sZ, sS]
                refine tKw (gd := (some (17, true))) 22 128 (.load 3 (.tmp 127)) (.int .i64 _) (run_int (.tmp 127) sg (so + q * 9 + 1) _ (by kernel_rfl) (fun w h => h.2.1)) hHeld ?_
                try simp only [Act.put, sA, sZ, sS]
                refine tKg 23 129 hHeld ?_
                try simp only [Act.put, sA, sZ, sS]
                refine tKg 24 130 hHeld ?_
                try simp only [Act.put, sA, sZ, sS]
                refine tKg 25 131 hHeld ?_
                try simp only [Act.put, sA, sZ, sS]
                refine tKg 26 132 hHeld ?_
                try simp only [Act.put, sA, sZ, sS]
                refine tKg 27 133 hHeld ?_
                try simp only [Act.put, sA, sZ, sS]
                refine tKw (gd := (some (24, false))) 28 134 (.load 3 (.tmp 133)) (.int .i64 _) (run_int (.tmp 133) ob q _ (by kernel_rfl) (fun w h => h.2.2.1)) hHeld ?_
                try simp only [Act.put, sA, sZ, sS]
                refine tKg 29 135 hHeld ?_
                try simp only [Act.put, sA, sZ, sS]
                refine tKg 30 136 hHeld ?_
                try simp only [Act.put, sA, sZ, sS]
                refine tKw (gd := (some (24, false))) 31 137 (.load 3 (.tmp 136)) (.int .i64 _) (run_int (.tmp 136) ob 0 _ (by kernel_rfl) (fun w h => h.2.2.2)) hHeld ?_
                try simp only [Act.put, sA, sZ, sS]
                refine tKg 32 138 hHeld ?_
                try simp only [Act.put, sA, sZ, sS]
                refine tKg 33 139 hHeld ?_
                try simp only [Act.put, sA, sZ, sS]
                refine tKg 34 140 hHeld ?_
                try simp only [Act.put, sA, sZ, sS]
                refine tKg 35 141 hHeld ?_
                try simp only [Act.put, sA, sZ, sS]
                refine wpAnyH_done (by kernel_rfl) ?_ _
                clear hHeld
                have hB3 := hB2.out.drew
                obtain ⟨g0, g1, -, -⟩ := h42.out
                have HB3 := Lib.hid hB3
                clear hB3
                go_wp2_with fail
                go_roundw
                case rel => exact ⟨q + 1, d1, d2, by omega, by go_num, rfl, by rw [HCd.out]; go_num, HD1, HD2, HB3⟩
                case measure => first | (simp [intOf]; done) | (simp [intOf]; omega)
        · have k1 : ¬ (q : Int) < (k : Int) := by omega
          have hqk : q = k := by omega
          have hcc1 : c1 = ((o0 :: os).drop 1).countP (fun o => o == o0) := by rw [hc1.out, hqk]; exact cnt_all _ HOL.out
          have hcc2 : c2 = (ss'.drop 1).countP (fun s => s.own == 0) := by rw [hc2.out, hqk]; exact cnt_all _ HSL.out
          have hcc : c2 = (c1 + 1) / 2 := by rw [hcc2, hcc1]; exact HE2.out
          have hcb : (c1 : Int) + 1 ≤ 1000 := by omega
          have hq2 : ((c1 : Int) + 1).tdiv 2 = (c2 : Int) := tdiv_half hcc
          have hw2 : wrap64 ((c1 : Int) + 1) = (c1 : Int) + 1 := wrap_small (wrap_nat hcb)
          have hw3 : wrap64 (c2 : Int) = (c2 : Int) := wrap_half hcc hcb
          obtain ⟨sg, so, rfl, hcs⟩ := HSI.out 0 s0 HS0.out
          have g0 : wr.cell? ⟨sg, so, none⟩ = some (.int .i64 3) := Field.bkeep hB.out (show w10.cell? ⟨sg, so, none⟩ = some (.int .i64 3) from by have h := hcs 0 (.int .i64 s0.state) rfl; rw [s0st] at h; exact h)
          have g1 : wr.cell? ⟨sg, so + 1, none⟩ = some (.int .i64 0) := Field.bkeep hB.out (show w10.cell? ⟨sg, so + 1, none⟩ = some (.int .i64 0) from by have h := hcs 1 (.int .i64 s0.own) rfl; rw [s0ow] at h; exact h)
          have k00 : (0 : Int) < (k : Int) := by omega
          have k00n : 0 < k := by omega
          have hend := HM.out.b.trans (hB.out.mono HM.out.b.size)
          have HEND := Lib.hid hend
          clear hcc1 hcc2 hcc hcs hc1 hc2 hB hend s0st s0ow hqk hlt hq
          go_wp2_with fail
          go_ret
          exact ⟨Base.ret_bool (by simp), HEND.out⟩
end Go.Proofs.YtefpoidnklflnaaGreatDoor.Mod

namespace Go.Proofs.YtefpoidnklflnaaGreatDoor.takeMoves
open Go.ChangeShapes Go.WideShapes Go.ChangeAt Go.RowKit
set_option linter.unusedVariables false
set_option linter.unusedSimpArgs false

theorem own : ownKnob Tryz.prog.godebug = none := by kernel_rfl
theorem laidOut : laidOutB Tryz.prog = true := by kernel_rfl

set_option maxRecDepth 100000 in
theorem lifted (os : Os) (started : os.Started) (H : Type) (enc : TypeId × Value → H) :
    ReturnsInHanded {} Tryz.checked os 5 .any (fun w args => (Rows.takeMovesSpec.pre enc Tryz.prog Tryz.f5 [] false w args ∧ laidMetH Tryz.prog Mod.lst w) ∧ sizedMet enc Tryz.prog Tryz.f5 (OpenSpec.ofChange Rows.takeMovesSpec) false w args) (Rows.takeMovesSpec.post enc Tryz.prog Tryz.f5 false true false false) := by
  refine returnsInHanded_of_change_and (C := Tryz.checked) (X := fun w _ => laidMetH Tryz.prog Mod.lst w) (fun _ _ _ hh h => h.of_heap hh) own started (by kernel_rfl) Tryz.func5
    (ChangeSpec.witness_shaped (enc := enc) (C := Tryz.checked) (os := os) (X := fun w _ => laidMetH Tryz.prog Mod.lst w) false (World.doorLaid Tryz.prog 23 os) #[.int .u8 0, .slice none 0 0] 8 rfl (World.shaped_of_RefB (by kernel_rfl) (by kernel_rfl)) (by kernel_rfl) (by kernel_rfl) (by kernel_rfl) (Mod.door_met os _)) ?_
  intro W base args ds gs before hval0 hW _ _ hL _
  have hval : ∀ (j : Nat) t v, Tryz.f5.params[j]? = some t → args[j]? = some v → Value.okWide Tryz.prog W .any base t v := hval0
  have hW' := hW
  obtain ⟨p, q, hA0, hV, rfl, hfz, hnd⟩ := hW
  have hA : DataW.TrodAll enc Tryz.prog W 0 (fun _ => true) true Tryz.f5.params.toList args.toList ds p := hA0
  rw [Tryz.params5] at hA hval
  obtain ⟨v0, vs0, d0, ds0, p0, q0, hargs, rfl, rfl, h0, r0⟩ := trodAll_cons hA
  obtain ⟨v1, vs1, d1, ds1, p1, q1, rfl, rfl, rfl, h1, r1⟩ := trodAll_cons r0
  obtain ⟨rfl, rfl, rfl⟩ := trodAll_nil r1
  obtain rfl : args = #[v0, v1] := by cases args; simp_all
  obtain ⟨rfl, rfl⟩ := trodVars_none hV
  obtain ⟨a0, rfl, rfl, rfl, w0⟩ := open_int Tryz.underlying5 (hval 0 5 v0 rfl rfl) h0
  have k1 := h1
  have lt1 : ∀ x ∈ p1, x.block < W.heap.size := by obtain ⟨m, hm⟩ := k1; exact DataW.trod_lt m _ _ _ hm
  obtain ⟨a1, len1, cap1, rfl⟩ := okWide_slice Tryz.underlying22 (hval 1 22 v1 rfl rfl)
  obtain ⟨b1, off1, l1, w1⟩ : ∃ b off l, Base.BoolsAt W a1 len1 cap1 b off l := by
    obtain ⟨fuel, hf⟩ := h1
    rcases Go.Deep.open_bools Tryz.underlying22 Tryz.underlying4 (by kernel_rfl) hf with ⟨hcs, _⟩ | ⟨x, l, c, zs, hcs, _, hl, hm, _, hcell⟩
    · simp [Value.cells] at hcs
      obtain ⟨rfl, rfl, rfl⟩ := hcs
      exact ⟨0, 0, [], Base.boolsAt_nil _⟩
    · simp [Value.cells] at hcs
      obtain ⟨rfl, rfl, rfl⟩ := hcs
      obtain ⟨b, off, h⟩ := Base.boolsAt_some hl hm hcell
      exact ⟨b, off, _, h⟩
  have hLd := Mod.of_laid hL
  clear hA0 hval0
  refine (Mod.takeMoves_walk W hLd _ (Mod.u8_bd w0) _ _ _ _ _ _ w1).mono fun e W' ⟨he, bel⟩ => ?_
  subst he
  exact ⟨_, rfl, _, _, _, [], _, [], hW', trodAll_mk1 (shut_bool Tryz.underlying4 _), (trodAll_cons_mk (shut_int Tryz.underlying5 w0) (trodAll_cons_mk (Below.trod laidOut (by kernel_rfl) (of_decide_eq_true (by kernel_rfl)) k1 bel lt1) trodAll_mk0)), rfl, bel.frame _, fun h => by cases h⟩

theorem over : Rows.takeMovesRow.holds Tryz.pinned (OpenSpec.ofChange Rows.takeMovesSpec) :=
  OpenClaim.holds_of_wide 5 Tryz.f5 rfl rfl rfl rfl rfl rfl rfl ⟨rfl, rfl, rfl, rfl, rfl⟩ rfl rfl rfl rfl rfl (by kernel_rfl) Tryz.func5 (by kernel_rfl)
    (of_decide_eq_true (by kernel_rfl)) (by unfold Func.isWrapper; first | (rw [if_pos (by decide +kernel)]; kernel_rfl) | (rw [if_neg (by decide +kernel)]; exact ⟨rfl, rfl⟩))
    (fun os started H enc _ => lifted os started H enc)

theorem proved : Rows.TakeMovesCardSaid :=
  Claim7.holds_tied_plain_at .later [] [.data] true (true, "9b8bff58fe40348fefb797c643549a366003180c2937cd5f0cb8670f9547f7cb") false
    over (fun _ h => by cases h) (by kernel_rfl) (fun _ h => by cases h) takeMoves_row_tie rfl ⟨rfl, rfl⟩ (by kernel_rfl) rfl
    (fun f fn hf hfn => by
      obtain rfl : f = 5 := Option.some.inj ((show Tryz.prog.funcNamed "coachhouse/coachhouselaw17.TakeMoves" = some 5 by kernel_rfl).symm.trans hf) |>.symm
      obtain rfl : fn = Tryz.f5 := (Option.some.inj (Tryz.func5.symm.trans hfn)).symm
      exact ⟨by kernel_rfl, fun j t ht => by
        rw [Tryz.params5] at ht
        have hm : t ∈ [5, 22] := by simpa using Array.mem_of_getElem? ht
        have hall : ([5, 22].all fun u => !Tryz.prog.wantsStandIn u) = true := by kernel_rfl
        exact (show Tryz.prog.wantsStandIn t = false by simpa using List.all_eq_true.1 hall t hm)⟩)
    (by kernel_rfl)
#print axioms proved
end Go.Proofs.YtefpoidnklflnaaGreatDoor.takeMoves

