/- A supplement of the packs. -/
import Derived.Test.YtefpoidnklflnaaGreatDoorP1
import Derived.Test.YtefpoidnklflnaaGreatDoorP2
import Derived.Test.YtefpoidnklflnaaGreatDoorP3
import Derived.Test.YtefpoidnklflnaaGreatDoorP4
import Derived.Test.YtefpoidnklflnaaGreatDoorP5
import Derived.Test.YtefpoidnklflnaaGreatDoorP6
import Derived.Test.YtefpoidnklflnaaGreatDoorP7
import Derived.Test.YtefpoidnklflnaaGreatDoorP8
import Derived.Test.YtefpoidnklflnaaGreatDoorP9
import Derived.Test.YtefpoidnklflnaaGreatDoorP10
import Derived.Test.YtefpoidnklflnaaGreatDoorP11
import Derived.Test.YtefpoidnklflnaaGreatDoorP12
import Derived.Test.YtefpoidnklflnaaGreatDoorP13
import Derived.Test.YtefpoidnklflnaaGreatDoorP14
import Derived.Test.YtefpoidnklflnaaGreatDoorP15
set_option maxRecDepth 100000
set_option maxHeartbeats 16000000
set_option linter.unusedVariables false
set_option linter.unusedSimpArgs false
namespace Go.Proofs.YtefpoidnklflnaaGreatDoor.RowL
open Go.RowKit Hp
section
variable {P : Program} {ops : Array Oper} {Q : Exit → Act → World → Prop} {md : Region.Mode} {S : World → Prop}
end
section
variable {P : Program} {ops : Array Oper} {Q : Exit → Act → World → Prop} {rest : List Oper} {o : Oper} {a : Act} {w : World}
end
section
variable {P : Program} {fn : Func} {R : Ending → World → Prop} {a : Act} {w : World} {p q : Tmp} {ty t : TypeId} {cs : Array Value} {d : TypeDesc}
end
end Go.Proofs.YtefpoidnklflnaaGreatDoor.RowL
namespace Go.Proofs.YtefpoidnklflnaaGreatDoor.Tk
open Go.RowKit Hp Slot RowL Life
def First (kd ow : Int) (ss : List S) (j : Nat) : Prop := ∃ s, ss[j]? = some s ∧ Find.fits s kd ow = true ∧ ∀ i s', i < j → ss[i]? = some s' → Find.fits s' kd ow = false
def NoFit (kd ow : Int) (ss : List S) : Prop := ∀ (i : Nat) s, ss[i]? = some s → Find.fits s kd ow = false
theorem fits_idle {s : S} {kd ow : Int} (hk : kd = 0 ∨ kd = 1) (h : Find.fits s kd ow = true) : s.state = 2 ∧ s.broken = false ∧ (kd = 0 → s.own = ow) := by
  rcases hk with rfl | rfl <;> simp [Find.fits, Find.sound] at h <;> simp [h]
theorem fits_own (s : S) (v : Int) : Find.fits s 0 v = true ↔ s.state = 2 ∧ s.broken = false ∧ s.own = v := by
  simp [Find.fits, Find.sound, and_assoc]
section
variable {c : Conf.Cf} {pre : List Int} {ss : List S} {t : Tk} {kd ow wd w : Int} {k j : Nat} {good : Bool}
theorem next_lease {s : S} (h : s.right = true) (hw : 0 ≤ w ∧ w ≤ 15) (h2 : s.state = 2) (hb : s.broken = false) : nextX s 3 w 0 = some (leasedV s w) := by
  rw [next_is h hw (by simp [actX, Mod.act, h2, hb])]
  rfl
theorem next_move {s : S} (h : s.right = true) (hw : 0 ≤ w ∧ w ≤ 15) (h2 : s.state = 2) : nextX s 9 w 0 = some (moveV s w) := by
  rw [next_is h hw (by simp [actX, Mod.act, h2])]
  rfl
theorem done3 : DoneX 3 := .inl (by simp [Mod.Done])
theorem done9 : DoneX 9 := .inl (by simp [Mod.Done])
theorem look_hit (h : Pool c pre ss) (hc : t.cf = c) (hst : Looks t.st) (hl : t.look = lk kd ow 0 wd) (hf : First kd ow ss j) :
    ∃ s, ss[j]? = some s ∧ Find.fits s kd ow = true ∧ it good j (t, cells pre ss) = ({ t with look := lk kd ow j wd }, cells pre ss) := by
  obtain ⟨s, hs, hfs, hn⟩ := hf
  refine ⟨s, hs, hfs, ?_⟩
  have hj : j < ns c := by rw [← h.sl]; exact (List.getElem?_eq_some_iff.1 hs).1
  have := scan (good := good) (wd := wd) h j hc hst hl (by omega) (fun i s' _ hi hs' => hn i s' (by omega) hs')
  simpa using this
theorem look_none (h : Pool c pre ss) (hc : t.cf = c) (hst : Looks t.st) (hl : t.look = lk kd ow 0 wd) (h1 : 1 ≤ ns c) (hf : NoFit kd ow ss) :
    ∃ s, ss[ns c - 1]? = some s ∧ Find.fits s kd ow = false ∧ it good (ns c - 1) (t, cells pre ss) = ({ t with look := lk kd ow (ns c - 1) wd }, cells pre ss) := by
  obtain ⟨s, hs⟩ : ∃ s, ss[ns c - 1]? = some s := ⟨_, List.getElem?_eq_getElem (by rw [h.sl]; omega)⟩
  refine ⟨s, hs, hf _ s hs, ?_⟩
  have := scan (good := good) (wd := wd) h (ns c - 1) hc hst hl (by omega) (fun i s' _ hi hs' => hf i s' hs')
  simpa using this
theorem hit_step (h : Pool c pre ss) (hc : t.cf = c) (hl : t.look = lk kd ow j wd) {s : S} (hs : ss[j]? = some s) (hf : Find.fits s kd ow = true) (hst : t.st = 1 ∨ t.st = 3 ∨ t.st = 7) :
    t.step (cells pre ss) good = ({ t with look := some ⟨kd, ow, j, s.word, true⟩, st := t.st + 1 }, cells pre ss, 1) := by
  have e := seek_hit h hc hl hs hf
  rcases hst with q | q | q <;> (unfold Tk.step; rw [q]; simp only [e]; simp [q])
theorem end_step (h : Pool c pre ss) (hc : t.cf = c) (hl : t.look = lk kd ow (ns c - 1) wd) (h1 : 1 ≤ ns c) {s : S} (hs : ss[ns c - 1]? = some s) (hf : Find.fits s kd ow = false) (hst : t.st = 1 ∨ t.st = 3 ∨ t.st = 7) :
    t.step (cells pre ss) good = (if t.st = 1 then t.search 3 1 t.w else if t.st = 3 then t.search 7 2 t.w else { t with look := lk kd ow (ns c) wd }.finish 3, cells pre ss, 1) := by
  have e := seek_miss h hc hl hs hf
  have e2 : ns c - 1 + 1 = ns c := by omega
  rw [e2] at e
  simp only [Nat.le_refl, decide_true] at e
  rcases hst with q | q | q <;> (unfold Tk.step; rw [q]; simp only [e]; simp [q, Tk.search])
theorem look_to (h : Pool c pre ss) (hc : t.cf = c) (h1 : 1 ≤ ns c) (hst : t.st = 1 ∨ t.st = 3 ∨ t.st = 7) (hl : t.look = lk kd ow 0 wd) :
    (NoFit kd ow ss → it good (ns c) (t, cells pre ss) = (if t.st = 1 then t.search 3 1 t.w else if t.st = 3 then t.search 7 2 t.w else { t with look := lk kd ow (ns c) wd }.finish 3, cells pre ss)) ∧
    ∀ j, First kd ow ss j → ∃ s, ss[j]? = some s ∧ Find.fits s kd ow = true ∧ it good (j + 1) (t, cells pre ss) = ({ t with look := some ⟨kd, ow, j, s.word, true⟩, st := t.st + 1 }, cells pre ss) := by
  have hL : Looks t.st := by rcases hst with q | q | q <;> simp [Looks, q]
  constructor
  · intro hf
    obtain ⟨s, hs, hfs, hi⟩ := look_none (good := good) h hc hL hl h1 hf
    have h2 := end_step (good := good) (t := { t with look := lk kd ow (ns c - 1) wd }) h hc rfl h1 hs hfs hst
    have e : ns c = (ns c - 1) + 1 := by omega
    rw [e, it_add, hi, it_one good h2]
    simp only [Tk.search, ← e]
  · intro j hf
    obtain ⟨s, hs, hfs, hi⟩ := look_hit (good := good) h hc hL hl hf
    refine ⟨s, hs, hfs, ?_⟩
    rw [it_add, hi, it_one good (hit_step (t := { t with look := lk kd ow j wd }) h hc rfl hs hfs hst)]
theorem moveL_len (v w : Int) : ∀ (l : List S) (p : Bool), (moveL v w p l).length = l.length := by
  intro l
  induction l with
  | nil => intro p; rfl
  | cons s l ih =>
    intro p
    unfold moveL
    split
    · split <;> simp [ih]
    · simp [ih]
theorem moveL_get (v w : Int) : ∀ (l : List S) (p : Bool) (i : Nat) (s : S), l[i]? = some s → Find.fits s 0 v = false → (moveL v w p l)[i]? = some s := by
  intro l
  induction l with
  | nil => intro p i s h; simp at h
  | cons x l ih =>
    intro p i s h hf
    cases i with
    | zero =>
      simp only [List.getElem?_cons_zero, Option.some.injEq] at h
      subst h
      unfold moveL
      rw [hf]
      simp
    | succ i =>
      simp only [List.getElem?_cons_succ] at h
      unfold moveL
      split
      · split
        · simpa using ih _ i s h hf
        · simpa using ih _ i s h hf
      · simpa using ih _ i s h hf
theorem move_right {s : S} (h : s.right = true) (hw : 0 ≤ w ∧ w ≤ 15) (h2 : s.state = 2) : (moveV s w).right = true := next_right done9 (next_move h hw h2)
theorem moveL_right (v : Int) (hw : 0 ≤ w ∧ w ≤ 15) : ∀ (l : List S) (p : Bool), (∀ s ∈ l, s.right = true) → ∀ s ∈ moveL v w p l, s.right = true := by
  intro l
  induction l with
  | nil => intro p h s hs; simp [moveL] at hs
  | cons x l ih =>
    intro p h s hs
    unfold moveL at hs
    split at hs
    · rename_i hf
      split at hs
      · rcases List.mem_cons.1 hs with rfl | hs
        · exact h _ (by simp)
        · exact ih _ (fun s hs => h s (by simp [hs])) s hs
      · rcases List.mem_cons.1 hs with rfl | hs
        · exact move_right (h _ (by simp)) hw (fits_idle (.inl rfl) hf).1
        · exact ih _ (fun s hs => h s (by simp [hs])) s hs
    · rcases List.mem_cons.1 hs with rfl | hs
      · exact h _ (by simp)
      · exact ih _ (fun s hs => h s (by simp [hs])) s hs
theorem set_mid (A B : List S) (x y : S) : (A ++ x :: B).set A.length y = A ++ y :: B := by
  rw [List.set_append_right _ _ (by omega)]
  simp
theorem move_run (hw : 0 ≤ w ∧ w ≤ 15) (v : Int) : ∀ (B A : List S) (p : Bool) (t : Tk) (wd : Int), Pool c pre (A ++ B) → t.cf = c → t.w = w → t.st = 5 → t.look = lk 0 v A.length wd → t.passes = p →
    ∃ n l' p', n ≤ 2 * B.length + 1 ∧ it good n (t, cells pre (A ++ B)) = ({ t with look := l', passes := p', st := 10 }, cells pre (A ++ moveL v w p B)) := by
  intro B
  induction B with
  | nil =>
    intro A p t wd h hc htw hst hl hp
    have e := seek_end hc hl (by have := h.sl; simp at this; omega) (cells pre (A ++ []))
    refine ⟨1, t.look, t.passes, by simp, ?_⟩
    rw [it_one good (t' := { t with st := 10 }) (ws' := cells pre (A ++ [])) (k := 0) (by unfold Tk.step; rw [hst]; simp only [e]; simp)]
    simp [moveL]
  | cons s B ih =>
    intro A p t wd h hc htw hst hl hp
    have hs : (A ++ s :: B)[A.length]? = some s := by simp
    have hsr := h.get hs
    have hA : A ++ s :: B = (A ++ [s]) ++ B := by simp
    have hlen : (A ++ [s]).length = A.length + 1 := by simp
    by_cases hf : Find.fits s 0 v = true
    · have e := seek_hit h hc hl hs hf
      cases hpp : p
      · -- moved
        rw [hpp] at hp
        have h1 : t.step (cells pre (A ++ s :: B)) good = ({ t with look := some ⟨0, v, A.length, s.word, true⟩, passes := true, st := 6 }, cells pre (A ++ s :: B), 1) := by
          unfold Tk.step; rw [hst]; simp only [e]; simp [hp]
        have hm := next_move (w := w) hsr hw (fits_idle (.inl rfl) hf).1
        have h2 : ({ t with look := some ⟨0, v, A.length, s.word, true⟩, passes := true, st := 6 } : Tk).step (cells pre (A ++ s :: B)) good = ({ t with look := lk 0 v (A.length + 1) s.word, passes := true, st := 5 }, cells pre (A ++ moveV s w :: B), 1) := by
          unfold Tk.step
          simp only [Tk.fd, Option.getD_some, nextW, dec_word hsr, Option.bind_some, htw, hm, Option.map_some, hc]
          unfold cas
          rw [if_pos (rd_slot h hs)]
          simp only [Fd.go, if_true, lk]
          rw [set_slot h, set_mid]
        have hP : Pool c pre ((A ++ [moveV s w]) ++ B) := by
          have := h.set (i := A.length) (move_right hsr hw (fits_idle (.inl rfl) hf).1)
          rw [set_mid] at this
          simpa using this
        obtain ⟨n, l', p', hn, hi⟩ := ih (A ++ [moveV s w]) true { t with look := lk 0 v (A.length + 1) s.word, passes := true, st := 5 } s.word hP hc htw rfl (by simp [lk]) rfl
        refine ⟨2 + n, l', p', by simp; omega, ?_⟩
        rw [it_add]
        have e2 : it good 2 (t, cells pre (A ++ s :: B)) = ({ t with look := lk 0 v (A.length + 1) s.word, passes := true, st := 5 }, cells pre (A ++ moveV s w :: B)) := by
          show it good 1 _ = _
          rw [h1]
          exact it_one good h2
        rw [e2]
        have e3 : A ++ moveV s w :: B = (A ++ [moveV s w]) ++ B := by simp
        rw [e3, hi]
        rw [show moveL v w false (s :: B) = moveV s w :: moveL v w true B from by rw [moveL, if_pos hf]; rfl]
        simp
      · rw [hpp] at hp
        have h1 : t.step (cells pre (A ++ s :: B)) good = ({ t with look := lk 0 v (A.length + 1) s.word, passes := false }, cells pre (A ++ s :: B), 1) := by
          unfold Tk.step; rw [hst]; simp only [e]; simp [hp, Tk.fd, Fd.go, lk, hst]
        obtain ⟨n, l', p', hn, hi⟩ := ih (A ++ [s]) false { t with look := lk 0 v (A.length + 1) s.word, passes := false } s.word (by rw [← hA]; exact h) hc htw hst (by simp [lk]) rfl
        refine ⟨1 + n, l', p', by simp; omega, ?_⟩
        rw [it_add, it_one good h1, hA, hi]
        rw [show moveL v w true (s :: B) = s :: moveL v w false B from by rw [moveL, if_pos hf]; rfl]
        simp
    · have hf' : Find.fits s 0 v = false := by simpa using hf
      have e := seek_miss h hc hl hs hf'
      cases hB : B with
      | nil =>
        subst hB
        have hk : ns c ≤ A.length + 1 := by have := h.sl; simp at this; omega
        simp only [hk, decide_true] at e
        have h1 : t.step (cells pre (A ++ [s])) good = ({ t with look := lk 0 v (A.length + 1) wd, st := 10 }, cells pre (A ++ [s]), 1) := by
          unfold Tk.step; rw [hst]; simp only [e]; simp
        refine ⟨1, lk 0 v (A.length + 1) wd, t.passes, by simp, ?_⟩
        rw [it_one good h1]
        simp [moveL, hf']
      | cons y B' =>
        have hk : A.length + 1 < ns c := by have := h.sl; rw [hB] at this; simp at this; omega
        have h1 := step_miss (good := good) h hc (.inr (.inr (.inl hst))) hl hs hf' hk
        obtain ⟨n, l', p', hn, hi⟩ := ih (A ++ [s]) p { t with look := lk 0 v (A.length + 1) wd } wd (by rw [← hA]; exact h) hc htw hst (by simp [lk]) hp
        rw [← hB]
        refine ⟨1 + n, l', p', by simp; omega, ?_⟩
        rw [it_add, it_one good h1, hA, hi]
        rw [show moveL v w p (s :: B) = s :: moveL v w p B from by rw [moveL, if_neg hf]]
        simp
end
end Go.Proofs.YtefpoidnklflnaaGreatDoor.Tk
namespace Go.Proofs.YtefpoidnklflnaaGreatDoor.Tk
open Go.RowKit Hp Slot RowL Life
section
variable {c : Conf.Cf} {pre : List Int} {ss : List S} {t : Tk} {kd ow wd w : Int} {k j : Nat} {good : Bool}
theorem seize_own (h : Pool c pre ss) (hc : t.cf = c) {s s' : S} (hs : ss[j]? = some s) {d : Nat} (hn : nextX s d t.w 0 = some s') (hl : t.look = some ⟨kd, ow, j, s.word, true⟩) :
    t.seize d (cells pre ss) = (true, { t with i := j, word := s'.word, gen := s'.gen }, cells pre (ss.set j s'), 1) := by
  have e := swap_own h hc hs hn
  have e2 : t.fd = ⟨kd, ow, j, s.word, true⟩ := by unfold Tk.fd; rw [hl]; rfl
  unfold Tk.seize
  rw [e2]
  simp only [e, if_true]
theorem step4 (h : Pool c pre ss) (hc : t.cf = c) (hst : t.st = 4) {s s' : S} (hs : ss[j]? = some s) (hn : nextX s 3 t.w 0 = some s') (hl : t.look = some ⟨kd, ow, j, s.word, true⟩) :
    t.step (cells pre ss) good = (if s.own ≠ t.w then { t with i := j, word := s'.word, gen := s'.gen, passes := false, look := lk 0 s.own 0 0, st := 5 } else { t with i := j, word := s'.word, gen := s'.gen, st := 10 }, cells pre (ss.set j s'), 1) := by
  have e := seize_own (t := { t with st := 3 }) h hc hs hn hl
  have e2 : t.fd.word = s.word := by unfold Tk.fd; rw [hl]; rfl
  unfold Tk.step; rw [hst]; simp only [e, e2, dec_word (h.get hs), if_true]
  by_cases ho : s.own = t.w
  · simp [ho]
  · simp [ho, Tk.search, lk, Fd.new]
theorem step0 (h : Pool c pre ss) (hst : t.st = 0) (h0 : pre.getD 0 0 = 0) : t.step (cells pre ss) good = (t.search 1 0 t.w, cells pre ss, 1) := by
  have e := rd_pre h (i := 0) (by omega)
  unfold Tk.step; rw [hst]; simp only [e, h0]; simp
structure Gets (good : Bool) (c : Conf.Cf) (w : Int) (pre : List Int) (ss : List S) (n : Nat) (t' : Tk) (ss' : List S) : Prop where
  run : it good n (Tk.new c w, cells pre ss) = (t', cells pre ss')
  few : 1 ≤ n ∧ n ≤ 4 * ns c + 10
  done : t'.st = 15
  pool : Pool c pre ss'
theorem alone_other (h : Pool c pre ss) (h0 : pre.getD 0 0 = 0) (hw : 0 ≤ w ∧ w ≤ 15) (h1 : 1 ≤ ns c) (good : Bool) (hno : NoFit 0 w ss) (hf : First 1 0 ss j) :
    ∃ n t' ss', Gets good c w pre ss n t' ss' ∧ t'.e = 0 ∧ t'.i = j ∧ (∃ s, ss'[j]? = some s ∧ s.state = 3 ∧ s.own = w ∧ s.gen = t'.gen) ∧ ∃ s, ss[j]? = some s ∧ ss' = moveL s.own w false (ss.set j (leasedV s w)) := by
  have hj : j < ns c := by obtain ⟨s, hs, -⟩ := hf; rw [← h.sl]; exact (List.getElem?_eq_some_iff.1 hs).1
  have a0 := it_one good (step0 (good := good) (t := Tk.new c w) h rfl h0)
  have b1 := (look_to (good := good) (t := (Tk.new c w).search 1 0 w) (kd := 0) (ow := w) (wd := 0) h rfl h1 (.inl rfl) rfl).1 hno
  obtain ⟨s, hs, hfs, a1⟩ := (look_to (good := good) (t := ((Tk.new c w).search 1 0 w).search 3 1 w) (kd := 1) (ow := w) (wd := 0) h rfl h1 (.inr (.inl rfl)) rfl).2 j hf
  obtain ⟨f1, f2, -⟩ := fits_idle (.inr rfl) hfs
  have hso : s.own ≠ w := fun e => by
    have := hno j s hs
    rw [(fits_own s w).2 ⟨f1, f2, e⟩] at this
    cases this
  have hn := next_lease (w := w) (h.get hs) hw f1 f2
  have hr := next_right done3 hn
  have h2 := h.set (i := j) hr
  have a2 := step4 (good := good) (t := { ((Tk.new c w).search 1 0 w).search 3 1 w with look := some ⟨1, w, j, s.word, true⟩, st := 4 }) (kd := 1) (ow := w) h rfl rfl hs hn rfl
  have a2' := it_one good (a2.trans (congrArg (fun x => (x, cells pre (ss.set j (leasedV s w)), 1)) (if_pos hso)))
  obtain ⟨m, l', p', hm, a3⟩ := move_run (good := good) (c := c) (pre := pre) hw s.own (ss.set j (leasedV s w)) [] false { ((Tk.new c w).search 1 0 w).search 3 1 w with look := lk 0 s.own 0 0, st := 5, i := j, word := (leasedV s w).word, gen := (leasedV s w).gen, passes := false } 0 (by simpa using h2) rfl rfl rfl rfl rfl
  simp only [List.nil_append] at a3
  have h3 : Pool c pre (moveL s.own w false (ss.set j (leasedV s w))) := ⟨h2.pl, by rw [moveL_len]; exact h2.sl, moveL_right s.own hw _ _ h2.ok⟩
  have a4 := it_one good (step10 (good := good) (t := { ((Tk.new c w).search 1 0 w).search 3 1 w with look := l', st := 10, i := j, word := (leasedV s w).word, gen := (leasedV s w).gen, passes := p' }) h3 rfl h0)
  have hlen : (ss.set j (leasedV s w)).length = ns c := h2.sl
  have hgj : (moveL s.own w false (ss.set j (leasedV s w)))[j]? = some (leasedV s w) := moveL_get _ _ _ _ _ _ (List.getElem?_set_self (by rw [h.sl]; exact hj)) (by simp [Find.fits, Find.sound, (leasedV_state s w).1])
  have hrun := it_seq (it_seq (it_seq (it_seq (it_seq a0 b1) a1) a2') a3) a4
  exact ⟨_, _, _, ⟨hrun, by omega, rfl, h3⟩, rfl, rfl, ⟨leasedV s w, hgj, (leasedV_state s w).1, (leasedV_state s w).2, rfl⟩, s, hs, rfl⟩
theorem Gets.alone {n : Nat} {t' : Tk} {ss' : List S} (g : Gets good c w pre ss n t' ss') (h16 : ns c ≤ 16) : (alone good 200 0 (Tk.new c w) (cells pre ss)).2 = (t', cells pre ss') ∧ (alone good 200 0 (Tk.new c w) (cells pre ss)).1 ≤ 4 * ns c + 10 := by
  have hf := g.few
  obtain ⟨m, rfl⟩ : ∃ m, n = m + 1 := ⟨n - 1, by omega⟩
  obtain ⟨h1, h2⟩ := alone_of good m 200 0 g.run g.done (by omega)
  exact ⟨h1, by omega⟩
end
end Go.Proofs.YtefpoidnklflnaaGreatDoor.Tk
