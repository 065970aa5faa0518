/- Part 8 of the walks and plain laws that the last text joins. -/
import Derived.Test.YtpmkgddjgebojaaGreatDoorE7
set_option maxRecDepth 100000
set_option maxHeartbeats 16000000
set_option linter.unusedVariables false
set_option linter.unusedSimpArgs false
namespace Go.Proofs.YtpmkgddjgebojaaGreatDoor.Mod
open Go.RowKit Hp Slot RowL Life
theorem step_eq {d : Nat} {s : S} {own more : Int} (h : s.right = true) (ho : 0 ≤ own ∧ own ≤ 15) : step s d own more = if (act d s own more).2 = true then { (act d s own more).1 with version:=0 } else s:=by
 unfold step next nextOf
 cases hb : (act d s own more).2
 ·simp
 ·simp [h, ho.1, ho.2]
theorem step_lease {s : S} {own more : Int} (h : s.right = true) (ho : 0 ≤ own ∧ own ≤ 15) (h2 : s.state = 2) (hb : s.broken = false) : step s 3 own more = { leased s own with version:=0 }:=by
 rw [step_eq h ho]; simp [act, h2, hb]
theorem step_rest {s : S} {own more : Int} (h : s.right = true) (ho : 0 ≤ own ∧ own ≤ 15) (h2 : s.state = 3) (hb : s.own = own) (hs : s.streams = 0) : step s 4 own more = { «to» s own 2 with version:=0 }:=by
 rw [step_eq h ho]; simp [act, h2, hb, hs]
theorem step_keep {s : S} {own more : Int} (h : s.right = true) (ho : 0 ≤ own ∧ own ≤ 15) (h2 : s.state = 2) (hb : s.broken = false) : step s 5 own more = { «to» s own 4 with version:=0 }:=by
 rw [step_eq h ho]; simp [act, h2, hb]
theorem step_hold {s : S} {own more : Int} (h : s.right = true) (ho : 0 ≤ own ∧ own ≤ 15) (h2 : s.state = 0) : step s 7 own more = { «to» s own 5 with version:=0 }:=by
 rw [step_eq h ho]; simp [act, h2]
theorem step_move {s : S} {own more : Int} (h : s.right = true) (ho : 0 ≤ own ∧ own ≤ 15) (h2 : s.state = 2) : step s 9 own more = { «to» s own 2 with version:=0 }:=by
 rw [step_eq h ho]; simp [act, h2]
theorem step_mark {s : S} {own more : Int} (h : s.right = true) (ho : 0 ≤ own ∧ own ≤ 15) (h2 : s.state = 2) (hm : s.marked = false) : step s 10 own more = { s with marked:=true, version:=0 }:=by
 rw [step_eq h ho]; simp [act, h2, hm]
theorem step_dial {s : S} {own more : Int} (h : s.right = true) (ho : 0 ≤ own ∧ own ≤ 15) (h2 : s.state = 0) : step s 0 own more = { «to» s own 1 with version:=0 }:=by
 rw [step_eq h ho]; simp [act, h2]
theorem step_up {s : S} {own more : Int} (h : s.right = true) (ho : 0 ≤ own ∧ own ≤ 15) (h2 : s.state = 1) (hb : s.own = own) : step s 1 own more = { leased s own with version:=0 }:=by
 rw [step_eq h ho]; simp [act, h2, hb]
theorem step_fail {s : S} {own more : Int} (h : s.right = true) (ho : 0 ≤ own ∧ own ≤ 15) (h2 : s.state = 1) (hb : s.own = own) : step s 2 own more = { «to» s own 0 with version:=0 }:=by
 rw [step_eq h ho]; simp [act, h2, hb]
theorem step_take4 {s : S} {own more : Int} (h : s.right = true) (ho : 0 ≤ own ∧ own ≤ 15) (h2 : s.state = 4) (hb : s.own = own) : step s 16 own more = { leased s own with version:=0 }:=by
 rw [step_eq h ho]; simp [act, h2, hb]
theorem step_take5 {s : S} {own more : Int} (h : s.right = true) (ho : 0 ≤ own ∧ own ≤ 15) (h2 : s.state = 5) (hb : s.own = own) : step s 16 own more = { «to» s own 1 with version:=0 }:=by
 rw [step_eq h ho]; simp [act, h2, hb]
theorem step_break {s : S} {own more : Int} : (step s 13 own more).state = s.state ∧ (step s 13 own more).own = s.own ∧ (step s 13 own more).gen = s.gen ∧ (s.broken = true → (step s 13 own more).broken = true) ∧ (step s 13 own more).marked = s.marked:=by
 unfold step next nextOf
 split
 ·rename_i hx
  split at hx
  ·cases hx; simp [act]
  ·cases hx
 ·simp
theorem step_open {s : S} {own more : Int} : (step s 14 own more).state = s.state ∧ (step s 14 own more).own = s.own ∧ (step s 14 own more).gen = s.gen:=by
 unfold step next nextOf
 split
 ·rename_i hx
  split at hx
  ·cases hx
   simp only [act]
   split
   ·split <;> simp
   ·simp
  ·cases hx
 ·simp
theorem step_shut {s : S} {own more : Int} : (step s 15 own more).state = s.state ∧ (step s 15 own more).own = s.own ∧ (step s 15 own more).gen = s.gen:=by
 unfold step next nextOf
 split
 ·rename_i hx
  split at hx
  ·cases hx
   simp only [act]
   split <;> simp
  ·cases hx
 ·simp
def nf (s : S) : Prop:=s.state = 0 ∨ s.state = 2 ∨ s.state = 3
def For (s : S) (w : Nat) : Prop:=(s.state = 4 ∨ s.state = 5) ∧ s.own = (w : Int)
def Gr (ks : List Wk) (w i : Nat) : Prop:=∃ k, ks[w]? = some k ∧ k.at' = 2 ∧ k.slot = (i : Int)
theorem nf_for {s : S} {w : Nat} (h : nf s) : ¬ For s w:=by unfold nf For at *; omega
structure Mid (m : M) : Prop where
 nk : m.ks.length ≤ 8
 ns : m.ss.length ≤ 16
 rt : ∀ s ∈ m.ss, s.right = true
 lb : ∀ x ∈ m.line, 0 ≤ x ∧ x < (m.ks.length : Int)
 cls : m.closed = 0 ∨ m.closed = 1 ∨ m.closed = 2
 sts : ∀ s ∈ m.ss, nf s ∨ s.state = 4 ∨ s.state = 5
 fw : ∀ (i : Nat) (s : S), m.ss[i]? = some s → ∀ w : Nat, For s w ↔ Gr m.ks w i
 gi : ∀ (w : Nat) (k : Wk), m.ks[w]? = some k → k.at' = 2 → ∃ i : Nat, k.slot = (i : Int) ∧ i < m.ss.length
 ats : ∀ k ∈ m.ks, k.at' = 0 ∨ k.at' = 1 ∨ k.at' = 2 ∨ k.at' = 3
 ln : ∀ (w : Nat) (k : Wk), m.ks[w]? = some k → (k.at' = 1 ↔ (w : Int) ∈ m.line)
 nd : m.line.Nodup
 dl : ∀ k ∈ m.ks, k.ask.deadline ≤ 255
 cap : m.line.length ≤ m.cf.waiters
 cl : m.closed ≠ 0 → m.line = []
structure Tidied (m : M) : Prop where
 fair : m.line ≠ [] → ∀ s ∈ m.ss, Find.fits s 3 0 = false
 cl1 : m.closed ≠ 0 → ∀ s ∈ m.ss, s.state ≠ 2
 cl2 : m.closed = 2 → ∀ s ∈ m.ss, s.state ≠ 3
def Upd (R : Nat → S → S → Prop) (ss ss' : List S) : Prop:=ss'.length = ss.length ∧ ∀ (i : Nat) (s : S), ss[i]? = some s → ∃ s', ss'[i]? = some s' ∧ R i s s'
theorem Upd.back {R : Nat → S → S → Prop} {ss ss' : List S} (h : Upd R ss ss') {i : Nat} {s' : S} (hi : ss'[i]? = some s') : ∃ s, ss[i]? = some s ∧ R i s s':=by
 have hl : i < ss.length:=by have:=(List.getElem?_eq_some_iff.1 hi).1; have:=h.1; omega
 obtain ⟨t, h1, h2⟩:=h.2 i ss[i] (List.getElem?_eq_getElem hl)
 rw [hi] at h1
 cases h1
 exact ⟨_, List.getElem?_eq_getElem hl, h2⟩
theorem Upd.mono {R R' : Nat → S → S → Prop} {ss ss' : List S} (h : Upd R ss ss') (hR : ∀ i s s', ss[i]? = some s → R i s s' → R' i s s') : Upd R' ss ss' :=
 ⟨h.1, fun i s hi => by obtain ⟨s', h1, h2⟩:=h.2 i s hi; exact ⟨s', h1, hR i s s' hi h2⟩⟩
theorem Upd.trans {R R' Q : Nat → S → S → Prop} {a b c : List S} (h : Upd R a b) (k : Upd R' b c) (hQ : ∀ i s t u, a[i]? = some s → R i s t → R' i t u → Q i s u) : Upd Q a c :=
 ⟨k.1.trans h.1, fun i s hi => by
  obtain ⟨t, h1, h2⟩:=h.2 i s hi
  obtain ⟨u, h3, h4⟩:=k.2 i t h1
  exact ⟨u, h3, hQ i s t u hi h2 h4⟩⟩
theorem Upd.refl (ss : List S) : Upd (fun _ s s' => s' = s) ss ss:=⟨rfl, fun i s h => ⟨s, h, rfl⟩⟩
theorem upd_set {ss : List S} {i : Nat} {t : S} : Upd (fun j s s' => (j = i ∧ s' = t) ∨ (j ≠ i ∧ s' = s)) ss (ss.set i t):=by
 refine ⟨by simp, fun j s hj => ?_⟩
 have hl:=(List.getElem?_eq_some_iff.1 hj).1
 rw [List.getElem?_set]
 by_cases h : i = j
 ·subst h; simp [hl]
 ·rw [if_neg h]; exact ⟨s, hj, .inr ⟨fun e => h e.symm, rfl⟩⟩
theorem upd_turn {ss : List S} {i d : Nat} {own more : Int} : Upd (fun j s s' => (j = i ∧ s' = step s d own more) ∨ (j ≠ i ∧ s' = s)) ss (turnL ss i d own more):=by
 unfold turnL
 cases hs : ss[i]? with
 | none => exact (Upd.refl ss).mono fun j s s' hj h => .inr ⟨fun e => (by rw [e, hs] at hj; cases hj), h⟩
 | some t =>
  refine upd_set.mono fun j s s' hj h => ?_
  rcases h with ⟨rfl, h⟩ | h
  ·rw [hs] at hj; cases hj; exact .inl ⟨rfl, h⟩
  ·exact .inr h
theorem upd_map {ss : List S} {f : S → S} : Upd (fun _ s s' => s' = f s) ss (ss.map f):=⟨by simp, fun i s h => ⟨f s, by simp [h], rfl⟩⟩
theorem upd_move {victim who : Int} : ∀ (b : Bool) (ss : List S), Upd (fun _ s s' => s' = s ∨ (Find.fits s 0 victim = true ∧ s' = step s 9 who 0)) ss (M.moveL victim who b ss)
 | _, [] => ⟨rfl, fun i s h => by simp at h⟩
 | b, s :: l => by
  unfold M.moveL
  split
  ·rename_i hf
   obtain ⟨h1, h2⟩:=upd_move (victim:=victim) (who:=who) (!b) l
   refine ⟨by simp [h1], fun i t hi => ?_⟩
   cases i with
   | zero =>
    obtain rfl : s = t:=by simpa using hi
    refine ⟨_, rfl, ?_⟩
    cases b
    ·exact .inl rfl
    ·exact .inr ⟨hf, rfl⟩
   | succ i => simpa using h2 i t (by simpa using hi)
  ·obtain ⟨h1, h2⟩:=upd_move (victim:=victim) (who:=who) b l
   refine ⟨by simp [h1], fun i t hi => ?_⟩
   cases i with
   | zero =>
    obtain rfl : s = t:=by simpa using hi
    exact ⟨_, rfl, .inl rfl⟩
   | succ i => simpa using h2 i t (by simpa using hi)
theorem upd_reap {who : Int} : ∀ (a : List Bool) (n : Int) (ss : List S), Upd (fun _ s s' => (Find.fits s 6 who = false ∧ s' = s) ∨ (Find.fits s 6 who = true ∧ ((s.marked = false ∧ s.broken = false ∧ s' = step s 10 who 0) ∨ s' = emptied s))) ss (M.reapL who a n ss).1
 | _, _, [] => ⟨rfl, fun i s h => by simp at h⟩
 | a, n, s :: l => by
  unfold M.reapL
  split
  ·rename_i hf
   split
   ·rename_i hc
    obtain ⟨h1, h2⟩:=upd_reap (who:=who) a.tail n l
    refine ⟨by simp [h1], fun i t hi => ?_⟩
    cases i with
    | zero =>
     obtain rfl : s = t:=by simpa using hi
     simp at hc
     exact ⟨_, rfl, .inr ⟨hf, .inl ⟨hc.2.1, hc.2.2, rfl⟩⟩⟩
    | succ i => simpa using h2 i t (by simpa using hi)
   ·obtain ⟨h1, h2⟩:=upd_reap (who:=who) a.tail (n + 1) l
    refine ⟨by simp [h1], fun i t hi => ?_⟩
    cases i with
    | zero =>
     obtain rfl : s = t:=by simpa using hi
     exact ⟨_, rfl, .inr ⟨hf, .inr rfl⟩⟩
    | succ i => simpa using h2 i t (by simpa using hi)
  ·rename_i hf
   obtain ⟨h1, h2⟩:=upd_reap (who:=who) a n l
   refine ⟨by simp [h1], fun i t hi => ?_⟩
   cases i with
   | zero =>
    obtain rfl : s = t:=by simpa using hi
    exact ⟨_, rfl, .inl ⟨by simpa using hf, rfl⟩⟩
   | succ i => simpa using h2 i t (by simpa using hi)
theorem mem_get {α : Type} {l : List α} {x : α} (h : x ∈ l) : ∃ i : Nat, l[i]? = some x:=List.getElem?_of_mem h
theorem get_mem {α : Type} {l : List α} {x : α} {i : Nat} (h : l[i]? = some x) : x ∈ l:=List.mem_of_getElem? h
def quiet (s s' : S) : Prop:=s'.right = true ∧ ((s'.state = s.state ∧ s'.own = s.own) ∨ (nf s ∧ nf s'))
theorem quiet.trans {a b c : S} (h : quiet a b) (k : quiet b c) : quiet a c:=by
 refine ⟨k.1, ?_⟩
 have h2:=h.2
 have k2:=k.2
 unfold nf at *
 rcases h2 with h2 | h2 <;> rcases k2 with k2 | k2
 ·exact .inl ⟨k2.1.trans h2.1, k2.2.trans h2.2⟩
 ·exact .inr (by omega)
 ·exact .inr (by omega)
 ·exact .inr (by omega)
theorem quiet.refl {s : S} (h : s.right = true) : quiet s s:=⟨h, .inl ⟨rfl, rfl⟩⟩
theorem Mid.slots {m : M} (h : Mid m) {ss' : List S} (hu : Upd (fun _ s s' => quiet s s') m.ss ss') : Mid { m with ss:=ss' }:=by
 refine ⟨h.nk, by have:=hu.1; have:=h.ns; simp only; omega, fun s' hs' => ?_, h.lb, h.cls, fun s' hs' => ?_, fun i s' hi w => ?_, fun w k hk h2 => ?_, h.ats, h.ln, h.nd, h.dl, h.cap, h.cl⟩
 ·obtain ⟨i, hi⟩:=mem_get hs'
  obtain ⟨s, h1, h2⟩:=hu.back hi
  exact h2.1
 ·obtain ⟨i, hi⟩:=mem_get hs'
  obtain ⟨s, h1, h2⟩:=hu.back hi
  have h3:=h.sts s (get_mem h1)
  have h4:=h2.2
  unfold nf at *
  omega
 ·obtain ⟨s, h1, h2⟩:=hu.back hi
  rw [← h.fw i s h1 w]
  have h4:=h2.2
  unfold nf For at *
  omega
 ·obtain ⟨i, h3, h4⟩:=h.gi w k hk h2
  exact ⟨i, h3, by simpa [hu.1] using h4⟩
theorem emptied_nf (s : S) : nf (emptied s):=.inl rfl
theorem swept_nf {s : S} {c : Int} (h : Find.fits s 4 c = true) : nf s:=by
 simp [Find.fits, Find.swept] at h
 unfold nf
 split at h
 ·rename_i hs; exact .inr (.inl (by simpa using hs))
 ·exact .inr (.inr h.1)
theorem Mid.sweep {m : M} (h : Mid m) : Mid m.sweep:=by
 refine h.slots (upd_map.mono fun i s s' hi e => ?_)
 have hr:=h.rt s (get_mem hi)
 subst e
 split
 ·rename_i hf; exact ⟨emptied_right hr, .inr ⟨swept_nf hf, emptied_nf s⟩⟩
 ·exact quiet.refl hr
theorem first_some' {kind own : Int} : ∀ {ss : List S} {i : Nat}, firstAt kind own ss = some i → ∃ s, ss[i]? = some s ∧ Find.fits s kind own = true
 | [], i, h => by cases h
 | s :: l, i, h => by
  rw [firstAt] at h
  split at h
  ·rename_i hf; cases h; exact ⟨s, rfl, hf⟩
  ·cases hx : firstAt kind own l with
   | none => rw [hx] at h; cases h
   | some j =>
    rw [hx] at h
    simp at h
    subst h
    obtain ⟨t, h1, h2⟩:=first_some' hx
    exact ⟨t, by simpa using h1, h2⟩
theorem first_none' {kind own : Int} : ∀ {ss : List S}, firstAt kind own ss = none → ∀ s ∈ ss, Find.fits s kind own = false
 | [], _, s, hs => by cases hs
 | t :: l, h, s, hs => by
  rw [firstAt] at h
  split at h
  ·cases h
  ·rename_i hf
   have hx : firstAt kind own l = none:=by simpa using h
   rcases List.mem_cons.1 hs with rfl | hs
   ·simpa using hf
   ·exact first_none' hx s hs
theorem some_fits {s : S} (h : Find.fits s 3 0 = true) : (s.state = 2 ∧ s.broken = false) ∨ s.state = 0:=by
 simpa [Find.fits, Find.sound] using h
theorem Mid.grant1 {m : M} (h : Mid m) {who : Int} {l : List Int} (hl : m.line = who :: l) {i : Nat} {s : S} (hi : m.ss[i]? = some s) (hf : Find.fits s 3 0 = true) :
  Mid { m with line:=l, ss:=turnL m.ss i (if (m.ss[i]?.getD S.zero).state = 2 then 5 else 7) who 0, ks:=m.ks.set who.toNat { m.ks[who.toNat]?.getD Wk.zero with at':=2, slot:=i } }:=by
 obtain ⟨hw0, hw1⟩:=h.lb who (by rw [hl]; simp)
 obtain ⟨n, rfl⟩:=Int.eq_ofNat_of_zero_le hw0
 have hnl : n < m.ks.length:=by omega
 have hnk:=h.nk
 have hr:=h.rt s (get_mem hi)
 have ho : (0 : Int) ≤ (n : Int) ∧ (n : Int) ≤ 15:=by omega
 obtain ⟨k0, hk0⟩ : ∃ k, m.ks[n]? = some k:=⟨_, List.getElem?_eq_getElem hnl⟩
 have hk1 : k0.at' = 1:=(h.ln n k0 hk0).2 (by rw [hl]; simp)
 have hil : i < m.ss.length:=(List.getElem?_eq_some_iff.1 hi).1
 simp only [hi, Option.getD_some, Int.toNat_natCast, hk0]
 have hst : (step s (if s.state = 2 then 5 else 7) n 0).right = true ∧ ((step s (if s.state = 2 then 5 else 7) n 0).state = 4 ∨ (step s (if s.state = 2 then 5 else 7) n 0).state = 5) ∧ (step s (if s.state = 2 then 5 else 7) n 0).own = (n : Int):=by
  refine ⟨step_right (by split <;> simp [Done]) hr, ?_⟩
  rcases some_fits hf with ⟨h2, hb⟩ | h0
  ·rw [if_pos h2, step_keep hr ho h2 hb]; simp [«to»]
  ·rw [if_neg (by omega), step_hold hr ho h0]; simp [«to»]
 have hup : Upd (fun j u u' => (j = i ∧ u' = step s (if s.state = 2 then 5 else 7) n 0) ∨ (j ≠ i ∧ u' = u)) m.ss (turnL m.ss i (if s.state = 2 then 5 else 7) n 0):=upd_turn.mono fun j u u' hj e => by
  rcases e with ⟨rfl, e⟩ | e
  ·rw [hi] at hj; cases hj; exact .inl ⟨rfl, e⟩
  ·exact .inr e
 have hnd : (n : Int) ∉ l ∧ l.Nodup:=by have:=h.nd; rw [hl] at this; simpa using this
 have hcl : m.closed = 0:=Classical.byContradiction fun hc => by have:=h.cl hc; rw [hl] at this; cases this
 have hnfs : nf s:=by rcases some_fits hf with ⟨h2, hb⟩ | h0; exact .inr (.inl h2); exact .inl h0
 generalize step s (if s.state = 2 then 5 else 7) n 0 = t at *
 have hget : ∀ (w : Nat) (k : Wk), (m.ks.set n { k0 with at':=2, slot:=(i : Int) })[w]? = some k → (w = n ∧ k = { k0 with at':=2, slot:=(i : Int) }) ∨ (w ≠ n ∧ m.ks[w]? = some k):=fun w k hk => by
  rw [List.getElem?_set] at hk
  by_cases e : n = w
  ·subst e; simp [hnl] at hk; exact .inl ⟨rfl, hk.symm⟩
  ·rw [if_neg e] at hk; exact .inr ⟨fun h => e h.symm, hk⟩
 have hput : ∀ (w : Nat) (k : Wk), w ≠ n → m.ks[w]? = some k → (m.ks.set n { k0 with at':=2, slot:=(i : Int) })[w]? = some k:=fun w k hw hk => by
  rw [List.getElem?_set, if_neg (fun e => hw e.symm)]; exact hk
 have hputn : (m.ks.set n { k0 with at':=2, slot:=(i : Int) })[n]? = some { k0 with at':=2, slot:=(i : Int) }:=by rw [List.getElem?_set]; simp [hnl]
 refine ⟨by simpa using h.nk, by have:=hup.1; have:=h.ns; simp only; omega, fun s' hs' => ?_, fun x hx => ?_, h.cls, fun s' hs' => ?_, fun j s' hj w => ?_, fun w k hk h2 => ?_, fun k hk => ?_, fun w k hk => ?_, hnd.2, fun k hk => ?_, ?_, fun hc => absurd hcl hc⟩
 ·obtain ⟨j, hj⟩:=mem_get hs'
  obtain ⟨u, h1, h2⟩:=hup.back hj
  rcases h2 with ⟨rfl, rfl⟩ | ⟨_, rfl⟩
  ·rw [hi] at h1; cases h1; exact hst.1
  ·exact h.rt _ (get_mem h1)
 ·simpa using h.lb x (by rw [hl]; simp [hx])
 ·obtain ⟨j, hj⟩:=mem_get hs'
  obtain ⟨u, h1, h2⟩:=hup.back hj
  rcases h2 with ⟨rfl, rfl⟩ | ⟨_, rfl⟩
  ·rw [hi] at h1; cases h1; exact .inr hst.2.1
  ·exact h.sts _ (get_mem h1)
 ·obtain ⟨u, h1, h2⟩:=hup.back hj
  rcases h2 with ⟨rfl, e⟩ | ⟨hne, rfl⟩
  ·rw [hi] at h1
   cases h1
   subst e
   constructor
   ·rintro ⟨h3, h4⟩
    rw [hst.2.2] at h4
    obtain rfl : n = w:=by omega
    exact ⟨_, hputn, rfl, rfl⟩
   ·rintro ⟨k, hk, hk2, hk3⟩
    rcases hget w k hk with ⟨rfl, _⟩ | ⟨hw, hk'⟩
    ·exact ⟨hst.2.1, hst.2.2⟩
    ·exact absurd ((h.fw _ _ hi w).2 ⟨k, hk', hk2, hk3⟩) (nf_for hnfs)
  ·rw [h.fw j s' h1 w]
   constructor
   ·rintro ⟨k, hk, hk2, hk3⟩
    refine ⟨k, hput w k (fun e => ?_) hk, hk2, hk3⟩
    subst e
    rw [hk0] at hk; cases hk; omega
   ·rintro ⟨k, hk, hk2, hk3⟩
    rcases hget w k hk with ⟨rfl, rfl⟩ | ⟨hw, hk'⟩
    ·simp only at hk3; omega
    ·exact ⟨k, hk', hk2, hk3⟩
 ·rcases hget w k hk with ⟨rfl, rfl⟩ | ⟨hw, hk'⟩
  ·exact ⟨i, rfl, by simpa [hup.1] using hil⟩
  ·obtain ⟨j, h3, h4⟩:=h.gi w k hk' h2
   exact ⟨j, h3, by simpa [hup.1] using h4⟩
 ·obtain ⟨w, hw⟩:=mem_get hk
  rcases hget w k hw with ⟨rfl, rfl⟩ | ⟨_, hk'⟩
  ·exact .inr (.inr (.inl rfl))
  ·exact h.ats k (get_mem hk')
 ·rcases hget w k hk with ⟨rfl, rfl⟩ | ⟨hw, hk'⟩
  ·simp only
   constructor
   ·intro h; omega
   ·intro hm; exact absurd hm hnd.1
  ·rw [h.ln w k hk', hl]
   simp
   omega
 ·obtain ⟨w, hw⟩:=mem_get hk
  rcases hget w k hw with ⟨rfl, rfl⟩ | ⟨_, hk'⟩
  ·exact h.dl k0 (get_mem hk0)
  ·exact h.dl k (get_mem hk')
 ·have:=h.cap; rw [hl] at this; simp at this ⊢; omega
theorem grantL_mid : ∀ (l : List Int) (m : M), m.line = l → Mid m → Mid { m with ss:=(M.grantL l m.ss m.ks).1, ks:=(M.grantL l m.ss m.ks).2.1, line:=(M.grantL l m.ss m.ks).2.2 }
 | [], m, hl, h => by simpa [M.grantL, ← hl] using h
 | who :: l, m, hl, h => by
  unfold M.grantL
  split
  ·simpa [← hl] using h
  ·rename_i i hi
   obtain ⟨s, h1, h2⟩:=first_some' hi
   exact grantL_mid l _ rfl (h.grant1 hl h1 h2)
theorem Mid.grant {m : M} (h : Mid m) : Mid m.grant:=by
 unfold M.grant
 split
 ·exact grantL_mid _ m rfl h
 ·exact h
theorem Mid.tidy {m : M} (h : Mid m) : Mid m.tidy:=h.sweep.grant
theorem grantL_end : ∀ (l : List Int) (ss : List S) (ks : List Wk), (M.grantL l ss ks).2.2 = [] ∨ ∀ s ∈ (M.grantL l ss ks).1, Find.fits s 3 0 = false
 | [], ss, ks => .inl rfl
 | who :: l, ss, ks => by
  unfold M.grantL
  split
  ·rename_i hn; exact .inr (first_none' hn)
  ·exact grantL_end l _ _
theorem Mid.tidied {m : M} (h : Mid m) : Tidied m.tidy:=by
 have hc:=h.cls
 have hcl:=h.cl
 refine ⟨fun hl => ?_, fun h1 s hs => ?_, fun h2 s hs => ?_⟩
 ·unfold M.tidy M.grant at hl ⊢
  split at hl
  ·rename_i h0
   rw [if_pos h0]
   exact (grantL_end _ _ _).resolve_left hl
  ·rename_i h0
   exact absurd (hcl h0) hl
 ·have hcm : m.closed ≠ 0:=by unfold M.tidy M.grant at h1; split at h1 <;> exact h1
  have he : m.tidy.ss = m.sweep.ss:=by unfold M.tidy M.grant; rw [if_neg (show ¬ m.sweep.closed = 0 from hcm)]
  rw [he] at hs
  simp only [M.sweep, List.mem_map] at hs
  obtain ⟨t, ht, rfl⟩:=hs
  split
  ·simp [emptied, S.zero]
  ·rename_i hf
   intro e
   apply hf
   rcases hc with hc | hc | hc
   ·exact absurd hc hcm
   ·simp [Find.fits, Find.swept, e, hc]
   ·simp [Find.fits, Find.swept, e, hc]
 ·have hcm : m.closed = 2:=by unfold M.tidy M.grant at h2; split at h2 <;> exact h2
  have he : m.tidy.ss = m.sweep.ss:=by unfold M.tidy M.grant; rw [if_neg (show ¬ m.sweep.closed = 0 from fun e => by rw [show m.sweep.closed = m.closed from rfl] at e; omega)]
  rw [he] at hs
  simp only [M.sweep, List.mem_map] at hs
  obtain ⟨t, ht, rfl⟩:=hs
  split
  ·simp [emptied, S.zero]
  ·rename_i hf
   intro e
   apply hf
   simp [Find.fits, Find.swept, e, hcm]
structure Inv (m : M) : Prop extends Mid m, Tidied m
theorem Mid.inv {m : M} (h : Mid m) : Inv m.tidy:={ toMid:=h.tidy, toTidied:=h.tidied }
theorem tidy_cf (m : M) : m.tidy.cf = m.cf:=by unfold M.tidy M.grant; split <;> rfl
end Go.Proofs.YtpmkgddjgebojaaGreatDoor.Mod
namespace Go.Proofs.YtpmkgddjgebojaaGreatDoor.World11
open Go.RowKit Hp
def NextP (w : World) (wb rb : Nat) (v : Value) (l : List Bool) (e : Ending) (w' : World) : Prop :=
 e = .returned (.bool (l.headD true)) ∧ ∃ v' g' b', WAt w' wb rb v' l.tail g' b' ∧ (∀ k, Fp v' k → Fp v k) ∧ Chg (wfp wb rb v) w w'
theorem WAt.stepp {w w' : World} {wb rb : Nat} {v ans : Value} {l l' : List Bool} {g b : Int} {e : Ending} (h : WAt w wb rb v l g b) (hp : RingBool.PostP w rb v ans l' 1000 e w') : e = .returned ans ∧ ∃ v', WAt w' wb rb v' l' g b ∧ (∀ k, Fp v' k → Fp v k) ∧ Chg (wfp wb rb v) w w':=by
 obtain ⟨rfl, v', h1, h2, h3⟩:=hp
 have hlt:=World.block_lt_of_cell? _ _ h.c0
 have hb:=h3.block wb hlt h.sep
 refine ⟨rfl, v', ⟨(World.cell?_of_block (w:=w) hb).trans h.c0, (World.cell?_of_block (w:=w) hb).trans h.c1, (World.cell?_of_block (w:=w) hb).trans h.c2, (World.frozen?_of_block (w:=w) hb).trans h.f1, (World.frozen?_of_block (w:=w) hb).trans h.f2, h1, fun hk => ?_⟩, h2, h3.mono fun k _ hk => .inr hk⟩
 rcases hk with e | hk
 ·exact h.sep (.inl e)
 ·exact h.sep (.inr (h2 _ hk))
theorem wnext_none (w : World) (wb rb : Nat) (v : Value) (g b : Int) (h : WAt w wb rb v [] g b) :
  Calls Tryz.prog 97 #[.pointer (some ⟨wb, 0, none⟩)] w (NextP w wb rb v []):=by
 have h0:=h.c0
 have h1:=h.c1
 have h2:=h.f1
 go_enter Tryz.func97, Tryz.ntmps97
 go_wp2_with fail
 refine (RingBool.pop_none w rb v 1000 h.ring).mono ?_
 rintro e w' ⟨rfl, rfl⟩
 go_wp2_with fail
 go_ret
 exact ⟨rfl, v, _, _, h.good _, fun k hk => hk, (Chg.refl _ _).setCell _ _ (fun _ => .inl rfl)⟩
theorem wnext_good (w : World) (wb rb : Nat) (v : Value) (l : List Bool) (g b : Int) (h : WAt w wb rb v (true :: l) g b) :
  Calls Tryz.prog 97 #[.pointer (some ⟨wb, 0, none⟩)] w (NextP w wb rb v (true :: l)):=by
 have h0:=h.c0
 have hp:=RingBool.pop_somep w rb v true l 1000 h.ring
 go_enter Tryz.func97, Tryz.ntmps97
 go_wp2_with fail
 refine hp.mono ?_
 intro e w' hp'
 obtain ⟨rfl, v', hA, hF, hC⟩:=h.stepp hp'
 clear h0 hp' hp
 have h1:=hA.c1
 have h2:=hA.f1
 go_wp2_with fail
 go_ret
 exact ⟨rfl, v', _, _, hA.good _, hF, hC.setCell _ _ (fun _ => .inl rfl)⟩
theorem wnext_bad (w : World) (wb rb : Nat) (v : Value) (l : List Bool) (g b : Int) (h : WAt w wb rb v (false :: l) g b) :
  Calls Tryz.prog 97 #[.pointer (some ⟨wb, 0, none⟩)] w (NextP w wb rb v (false :: l)):=by
 have h0:=h.c0
 have hp:=RingBool.pop_somep w rb v false l 1000 h.ring
 go_enter Tryz.func97, Tryz.ntmps97
 go_wp2_with fail
 refine hp.mono ?_
 intro e w' hp'
 obtain ⟨rfl, v', hA, hF, hC⟩:=h.stepp hp'
 clear h0 hp' hp
 have h1:=hA.c2
 have h2:=hA.f2
 go_wp2_with fail
 go_ret
 exact ⟨rfl, v', _, _, hA.bad _, hF, hC.setCell _ _ (fun _ => .inl rfl)⟩
theorem wnext_any (w : World) (wb rb : Nat) (v : Value) (l : List Bool) (g b : Int) (h : WAt w wb rb v l g b) :
  Calls Tryz.prog 97 #[.pointer (some ⟨wb, 0, none⟩)] w (NextP w wb rb v l):=by
 cases l with
 | nil => exact wnext_none w wb rb v g b h
 | cons x l => cases x with
  | true => exact wnext_good w wb rb v l g b h
  | false => exact wnext_bad w wb rb v l g b h
end Go.Proofs.YtpmkgddjgebojaaGreatDoor.World11
namespace Go.Proofs.YtpmkgddjgebojaaGreatDoor.Mod
open Go.RowKit Hp Slot RowL Life
section
variable {W : World} {p : Pl} {m : M}
def MPostP (W : World) (p : Pl) (ans : Value) (m' : M) (e : Ending) (W' : World) : Prop :=
 e = .returned ans ∧ ∃ rv, MAt W' { p with rv:=rv } m' ∧ (∀ k, Fp rv k → Fp p.rv k) ∧ Chg (mfp p) W W'
theorem MPostP.post {ans : Value} {m' : M} {e : Ending} {W' : World} (h : MPostP W p ans m' e W') : MPost W p ans m' e W':=by
 obtain ⟨h0, rv, h1, h2, h3⟩:=h
 exact ⟨h0, p.lv, rv, h1, fun k hk => .inl hk, fun k hk => .inl (h2 k hk), h3⟩
theorem m_wnext (h : MAt W p m) : Calls Tryz.prog 97 #[.pointer (some ⟨p.wb, 0, none⟩)] W (MPostP W p (.bool m.good) m.next):=by
 obtain ⟨g, b, hw⟩:=h.wld
 refine (World11.wnext_any W p.wb p.rb p.rv m.ahead g b hw).mono ?_
 rintro e W' ⟨rfl, v', g', b', h1, h2, h3⟩
 refine ⟨rfl, v', h.toWorld h1 ?_ (fun k hk => .inl (h2 k hk)) h3, h2, h3.mono fun k _ hk => .inr (.inr (.inr (.inr (.inl hk))))⟩
 have:=h.ok.ahead
 simp; omega
end
end Go.Proofs.YtpmkgddjgebojaaGreatDoor.Mod
namespace Go.Proofs.YtpmkgddjgebojaaGreatDoor.Mod
open Go.RowKit Hp Slot RowL Life R8
theorem low_facts : ∀ n : Fin 256, ∀ most : Fin 9, lowFree (n : Nat) (most : Nat) = (if lowN 9 n < most then some (lowN 9 n) else none) ∧ (lowN 9 n < 8 → setBit (n : Nat) (lowN 9 n) = ((n : Nat) : Int) + pw (lowN 9 n)):=by decide +kernel
theorem has_facts : ∀ n : Fin 256, ∀ i : Fin 8, (((n : Nat) : Int) / (pw i : Int) % 2 == 1) = hasBit (n : Nat) i:=by decide +kernel
theorem low_free (n : Nat) (hn : n < 256) (more : Int) : lowFree n more = (if (lowN 9 n : Int) < more ∧ (lowN 9 n : Int) < 8 then some (lowN 9 n) else none):=by
 have h:=(low_facts ⟨n, hn⟩ ⟨(min more 8).toNat, by omega⟩).1
 simp only at h
 have e : lowFree n more = lowFree n (((min more 8).toNat : Nat) : Int):=by
  unfold lowFree
  congr 2
  omega
 rw [e, h]
 by_cases h1 : lowN 9 n < (min more 8).toNat
 ·rw [if_pos h1, if_pos (by omega)]
 ·rw [if_neg h1, if_neg (by omega)]
theorem row8_act {d : Nat} (hd : Done d) {s : S} {own more : Int} (h : s.right = true) : (row8 d s own more).2 = (act d s own more).2 ∧ ((act d s own more).2 = true → (row8 d s own more).1 = (act d s own more).1):=by
 rw [right_iff] at h
 obtain ⟨⟨q1, q2, q3, q4, q5, q6, q7⟩, a1, a2, a3, a4, a5⟩:=h
 obtain ⟨st, ow, sm, br, ma, us, ge, ep, ve⟩:=s
 simp only at q1 q2 q3 q4 q5 q6 q7 a1 a2 a3 a4 a5
 have hb : st ≠ 2 ∧ st ≠ 3 ∧ st ≠ 4 → br = false ∧ us = 0:=fun e => a3.resolve_left (by omega)
 have hm : st ≠ 2 → ma = false:=fun e => a2.resolve_left e
 have he : st ≠ 6 → ep = 0:=fun e => a4.resolve_left e
 clear a2 a3 a4 q5 q6 q7 q4
 rcases hd with rfl | rfl | rfl | rfl | rfl | rfl | rfl | rfl | rfl | rfl | rfl | rfl | rfl
 ·exact ⟨rfl, fun e => by simp [row8, act, plainS, «to»]⟩
 ·refine ⟨rfl, fun e => ?_⟩
  simp only [act, Bool.and_eq_true, beq_iff_eq] at e
  obtain ⟨rfl, rfl⟩:=e
  obtain ⟨rfl, rfl⟩:=hb (by omega)
  simp [row8, act, plainS, «to», leasedS, leased]
  first | done | omega
 ·exact ⟨rfl, fun e => by simp [row8, act, plainS, «to»]⟩
 ·refine ⟨rfl, fun e => ?_⟩
  simp only [act, Bool.and_eq_true, beq_iff_eq] at e
  obtain ⟨rfl, e2⟩:=e
  simp [row8, act, plainS, «to», leasedS, leased]
  first | done | omega
 ·refine ⟨rfl, fun e => ?_⟩
  simp only [act, Bool.and_eq_true, beq_iff_eq] at e
  obtain ⟨⟨rfl, rfl⟩, rfl⟩:=e
  obtain rfl:=hm (by omega)
  obtain rfl:=he (by omega)
  simp [row8, act, «to»]
 ·refine ⟨rfl, fun e => ?_⟩
  simp only [act, Bool.and_eq_true, beq_iff_eq] at e
  obtain ⟨rfl, e2⟩:=e
  obtain rfl:=he (by omega)
  simp [row8, act, «to»]
  omega
 ·exact ⟨rfl, fun e => by simp [row8, act, plainS, «to»]⟩
 ·refine ⟨rfl, fun e => ?_⟩
  simp only [act, beq_iff_eq] at e
  subst e
  obtain rfl:=he (by omega)
  simp [row8, act, «to»]
  omega
 ·exact ⟨rfl, fun e => rfl⟩
 ·refine ⟨?_, fun e => rfl⟩
  simp only [row8, act]
  rw [Bool.eq_iff_iff]
  simp only [Bool.and_eq_true, Bool.or_eq_true, Bool.not_eq_true', decide_eq_true_eq, beq_iff_eq]
  constructor
  ·rintro ⟨h1, h2⟩; exact ⟨h2, by omega⟩
  ·rintro ⟨h1, h2⟩; exact ⟨by omega, h1⟩
 ·obtain ⟨n, rfl⟩ : ∃ n : Nat, sm = (n : Int):=⟨sm.toNat, by omega⟩
  have hn : n < 256:=by omega
  have hl:=low_free n hn more
  have hs:=(low_facts ⟨n, hn⟩ 0).2
  simp only at hs
  simp only [row8, act, Int.toNat_natCast]
  rw [hl]
  by_cases h1 : ((st == 3 && ow == own) && !br) = true
  ·rw [if_pos h1, h1]
   by_cases h2 : (lowN 9 n : Int) < more ∧ (lowN 9 n : Int) < 8
   ·rw [if_pos h2]
    simp only [h2.1, h2.2, decide_true, Bool.and_self, true_and]
    intro _
    rw [hs (by omega)]
   ·rw [if_neg h2]
    simp only [Bool.true_and]
    refine ⟨?_, fun e => by cases e⟩
    rw [Bool.eq_false_iff]
    simpa using h2
  ·rw [if_neg h1]
   simp only [Bool.not_eq_true] at h1
   rw [h1]
   exact ⟨by simp, fun e => by cases e⟩
 ·simp only [row8, act]
  by_cases h1 : st ≠ 3 ∨ ow ≠ own ∨ more < 0 ∨ 7 < more
  ·rw [if_pos h1, if_neg (by simp; omega)]
   exact ⟨rfl, fun e => by cases e⟩
  ·rw [if_neg h1]
   obtain ⟨n, rfl⟩ : ∃ n : Nat, sm = (n : Int):=⟨sm.toNat, by omega⟩
   have h3 : st = 3 ∧ ow = own ∧ 0 ≤ more ∧ more < 8:=by omega
   have hh:=has_facts ⟨n, by omega⟩ ⟨more.toNat, by omega⟩
   simp only at hh
   rw [hh]
   cases hc : hasBit n more.toNat with
   | true =>
    rw [if_pos (by simp [h3])]
    refine ⟨rfl, fun _ => ?_⟩
    simp [dropBit, pw]
   | false =>
    rw [if_neg (by simp)]
    exact ⟨rfl, fun e => by cases e⟩
 ·simp only [row8, act]
  by_cases h4 : st = 4
  ·subst h4
   simp only [if_true]
   rw [if_neg (by simp)]
   refine ⟨by simp, fun e => ?_⟩
   simp [leasedS, plainS, leased, «to»]
   omega
  ·rw [if_neg h4]
   by_cases h5 : (st == 5 && ow == own) = true
   ·rw [if_pos h5, h5]
    exact ⟨rfl, fun _ => by simp [plainS, «to»]⟩
   ·rw [if_neg h5]
    refine ⟨?_, fun e => ?_⟩
    ·simp only [Bool.not_eq_true] at h5
     rw [h5]
     simp [h4]
    ·simp [h4] at e
theorem row8_version {d : Nat} (s : S) (own more : Int) : (row8 d s own more).1.version = s.version:=by
 unfold row8
 split <;> first | rfl | (split <;> rfl)
end Go.Proofs.YtpmkgddjgebojaaGreatDoor.Mod
