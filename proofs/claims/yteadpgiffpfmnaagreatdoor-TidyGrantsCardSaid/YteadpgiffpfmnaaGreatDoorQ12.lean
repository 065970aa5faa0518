/- Part 12 of the walks and plain laws that the last text joins. -/
import Derived.Test.YteadpgiffpfmnaaGreatDoorQ11
set_option maxRecDepth 100000
set_option maxHeartbeats 16000000
set_option linter.unusedVariables false
set_option linter.unusedSimpArgs false
namespace Go.Proofs.YteadpgiffpfmnaaGreatDoor.Ty
open Go.RowKit Hp Slot RowL Life Tk
def freeB (pre : List Int) (W w : Nat) (ep : Int) : Bool:=(List.range W).all fun o => o == w || !blocks (pre.getD (3 + o) 0) ep
def clearV (s : S) (w : Nat) : S:={ (actX 12 s w 0).1 with version:=(s.version + 1) % 32768 }
def keptV (s : S) (x : Int) : S:={ (actX (if s.state = 2 then 5 else 7) s x 0).1 with version:=(s.version + 1) % 32768 }
def clr (pre : List Int) (W w : Nat) (s : S) : S:=if s.state = 6 ∧ freeB pre W w s.epoch = true then clearV s w else s
def lw : List Int → Int
 | [] => 0
 | x :: l => (x + 1) + 16 * lw l
theorem freeB_iff {pre : List Int} {W w : Nat} {ep : Int} : freeB pre W w ep = true ↔ ∀ o, o < W → o ≠ w → blocks (pre.getD (3 + o) 0) ep = false:=by
 simp [freeB]
 constructor
 ·intro h o h1 h2
  rcases h o h1 with h3 | h3
  ·exact absurd h3 h2
  ·exact h3
 ·intro h o h1
  by_cases h2 : o = w
  ·exact .inl h2
  ·exact .inr (h o h1 h2)
theorem freeB_not {pre : List Int} {W w : Nat} {ep : Int} {o : Nat} (h1 : o < W) (h2 : o ≠ w) (h3 : blocks (pre.getD (3 + o) 0) ep = true) : freeB pre W w ep = false:=by
 cases h : freeB pre W w ep
 ·rfl
 ·rw [freeB_iff.1 h o h1 h2] at h3; cases h3
theorem freeB_congr {pre pre' : List Int} {W w : Nat} (h : ∀ o, o < W → o ≠ w → pre'.getD (3 + o) 0 = pre.getD (3 + o) 0) (ep : Int) : freeB pre' W w ep = freeB pre W w ep:=by
 rw [Bool.eq_iff_iff, freeB_iff, freeB_iff]
 constructor
 ·intro q o h1 h2; rw [← h o h1 h2]; exact q o h1 h2
 ·intro q o h1 h2; rw [h o h1 h2]; exact q o h1 h2
section
variable {c : Conf.Cf} {pre : List Int} {ss : List S} {t : Ty} {kd ow wd cl e E : Int} {k w : Nat}
theorem next_clear {s : S} (h : s.right = true) (hs : s.state = 6) (hw : w ≤ 15) : nextX s 12 w 0 = some (clearV s w):=by
 rw [next_is h (by omega) (by simp [actX, hs])]
 rfl
theorem clear_right {s : S} (h : s.right = true) (hs : s.state = 6) (hw : w ≤ 15) : (clearV s w).right = true:=next_right (.inr (.inr (.inr (.inr (.inl rfl))))) (next_clear h hs hw)
theorem clear_facts (s : S) (w : Nat) : (clearV s w).state = 0 ∧ (clearV s w).gen = s.gen:=⟨rfl, rfl⟩
theorem nxt_cast (w o : Nat) : ∃ o' : Nat, nxt w (o : Int) = o' ∧ o < o' ∧ o' ≠ w ∧ ∀ i, o < i → i < o' → i = w:=by
 unfold nxt
 by_cases h : (o : Int) + 1 = w
 ·rw [if_pos h]
  exact ⟨o + 2, by omega, by omega, by omega, fun i h1 h2 => by omega⟩
 ·rw [if_neg h]
  exact ⟨o + 1, by omega, by omega, by omega, fun i h1 h2 => by omega⟩
theorem nxt_first (w : Nat) : ∃ o' : Nat, nxt w (-1) = o' ∧ o' ≠ w ∧ ∀ i, i < o' → i = w:=by
 unfold nxt
 by_cases h : (-1 : Int) + 1 = w
 ·rw [if_pos h]
  exact ⟨1, by omega, by omega, fun i h1 => by omega⟩
 ·rw [if_neg h]
  exact ⟨0, by omega, by omega, fun i h1 => by omega⟩
theorem pins_all (h : Pool c pre ss) {s : S} (hs : ss[k]? = some s) : ∀ (n : Nat) {o : Nat} {t : Ty}, At c w cl e 6 (some ⟨5, w, k, s.word, true⟩) t → t.other = o → t.i = k → t.word = s.word → o < c.workers.toNat → c.workers.toNat ≤ o + n → o ≠ w →
  (∀ i, i < o → i ≠ w → blocks (pre.getD (3 + i) 0) s.epoch = false) →
  (freeB pre c.workers.toNat w s.epoch = true ∧ ∃ t', In n (t, cells pre ss) (t', cells pre ss) ∧ At c w cl e 7 (some ⟨5, w, k, s.word, true⟩) t' ∧ t'.i = k ∧ t'.word = s.word) ∨
  (freeB pre c.workers.toNat w s.epoch = false ∧ ∃ t', In n (t, cells pre ss) (t', cells pre ss) ∧ At c w cl e 5 (lk 5 w (k + 1) s.word) t'):=by
 intro n
 induction n with
 | zero => intro o t _ _ _ _ h1 h2; omega
 | succ n ih =>
  intro o t ha ho hi hwd h1 h2 hne hb
  have hep : t.ep = s.epoch:=by unfold Ty.ep; rw [hwd, dec_word (h.get hs)]
  have hrd : rd (cells pre ss) (pc t.other.toNat) = pre.getD (3 + o) 0:=by rw [ho]; exact rd_pre h (by unfold pc; omega)
  have hb1 : blocks (rd (cells pre ss) (pc t.other.toNat)) t.ep = blocks (pre.getD (3 + o) 0) s.epoch:=by rw [hrd, hep]
  cases hB : blocks (pre.getD (3 + o) 0) s.epoch <;> rw [hB] at hb1
  ·obtain ⟨o', e1, e2, e3, e4⟩:=nxt_cast w o
   have hb' : ∀ i, i < o' → i ≠ w → blocks (pre.getD (3 + i) 0) s.epoch = false:=by
    intro i q1 q2
    by_cases q3 : i < o
    ·exact hb i q3 q2
    ·by_cases q4 : i = o
     ·rw [q4]; exact hB
     ·exact absurd (e4 i (by omega) q1) q2
   have hnx : nxt t.w t.other = o':=by rw [ha.w, ho]; exact e1
   by_cases hlt : o' < c.workers.toNat
   ·have hW : decide ((o' : Int) < t.cf.workers) = true:=by rw [ha.cf]; simp; omega
    have hstep : t.step (cells pre ss) = ({ t with other:=(o' : Int) }, cells pre ss, 1):=by
     rw [st_6 ha.st]
     simp only [hb1, Bool.false_eq_true, if_false, Ty.another, hnx, hW, if_true]
    rcases ih (t:={ t with other:=(o' : Int) }) ⟨ha.cf, ha.w, ha.cl, ha.e, ha.st, ha.look⟩ rfl hi hwd hlt (by omega) e3 hb' with ⟨q1, t', q2, q3⟩ | ⟨q1, t', q2, q3⟩
    ·exact .inl ⟨q1, t', ((In.one hstep).trans q2).mono (by omega), q3⟩
    ·exact .inr ⟨q1, t', ((In.one hstep).trans q2).mono (by omega), q3⟩
   ·have hW : decide ((o' : Int) < t.cf.workers) = false:=by rw [ha.cf]; simp; omega
    have hstep : t.step (cells pre ss) = ({ t with other:=(o' : Int), st:=7 }, cells pre ss, 1):=by
     rw [st_6 ha.st]
     simp only [hb1, Bool.false_eq_true, if_false, Ty.another, hnx, hW]
    exact .inl ⟨freeB_iff.2 fun i q1 q2 => hb' i (by omega) q2, _, (In.one hstep).mono (by omega), ⟨ha.cf, ha.w, ha.cl, ha.e, rfl, ha.look⟩, hi, hwd⟩
  ·have hstep : t.step (cells pre ss) = ({ t with look:=lk 5 w (k + 1) s.word, st:=5 }, cells pre ss, 1):=by
    rw [st_6 ha.st]
    simp only [hb1, if_true, Ty.go, fd_is ha.look]
    rfl
   exact .inr ⟨freeB_not h1 hne hB, _, (In.one hstep).mono (by omega), ha.cf, ha.w, ha.cl, ha.e, rfl, rfl⟩
theorem old_miss (h : Pool c pre ss) (ha : At c w cl e 5 (lk 5 w k wd) t) {s : S} (hs : ss[k]? = some s) (hf : s.state ≠ 6) (hk : k + 1 < ns c) :
  ∃ t', In 1 (t, cells pre ss) (t', cells pre ss) ∧ At c w cl e 5 (lk 5 w (k + 1) wd) t':=by
 have h1:=seek_miss h ha.cf ha.look hs (show Find.fits s 5 w = false by simp [Find.fits, hf])
 rw [decide_eq_false (by omega)] at h1
 refine ⟨{ t with look:=lk 5 w (k + 1) wd }, In.one (k:=1) ?_, ha.cf, ha.w, ha.cl, ha.e, ha.st, rfl⟩
 unfold Ty.step; rw [ha.st]; simp only [h1, Bool.false_eq_true, if_false]; rw [← ha.st]
def aft (cl : Int) : Nat:=if cl = 0 then 8 else 15
theorem old_last (h : Pool c pre ss) (ha : At c w cl e 5 (lk 5 w k wd) t) {s : S} (hs : ss[k]? = some s) (hf : s.state ≠ 6) (hk : ns c ≤ k + 1) :
  ∃ t' lo, In 1 (t, cells pre ss) (t', cells pre ss) ∧ At c w cl e (aft cl) lo t':=by
 have h1:=seek_miss h ha.cf ha.look hs (show Find.fits s 5 w = false by simp [Find.fits, hf])
 rw [decide_eq_true hk] at h1
 refine ⟨{ t with look:=lk 5 w (k + 1) wd, st:=aft cl }, _, In.one (k:=1) ?_, ha.cf, ha.w, ha.cl, ha.e, rfl, rfl⟩
 unfold Ty.step; rw [ha.st]; simp only [h1]
 unfold aft
 by_cases hc : cl = 0 <;> simp [ha.cl, hc]
theorem old_end (ha : At c w cl e 5 (lk 5 w k wd) t) (hk : ns c ≤ k) (ws : List Int) : ∃ t' lo, In 1 (t, ws) (t', ws) ∧ At c w cl e (aft cl) lo t':=by
 have h1:=seek_end ha.cf ha.look hk ws
 refine ⟨{ t with st:=aft cl }, _, In.one (k:=0) ?_, ha.cf, ha.w, ha.cl, ha.e, rfl, ha.look⟩
 unfold Ty.step; rw [ha.st]; simp only [h1]
 unfold aft
 by_cases hc : cl = 0 <;> simp [ha.cl, hc]
theorem old_one (h : Pool c pre ss) (ha : At c w cl e 5 (lk 5 w k wd) t) {s : S} (hs : ss[k]? = some s) (hf : s.state = 6) (hw : w ≤ 15) :
  ∃ t' wd', In (c.workers.toNat + 2) (t, cells pre ss) (t', cells pre (ss.set k (clr pre c.workers.toNat w s))) ∧ At c w cl e 5 (lk 5 w (k + 1) wd') t':=by
 have h1:=seek_hit h ha.cf ha.look hs (show Find.fits s 5 w = true by simp [Find.fits, hf])
 have hk : k < ss.length:=(List.getElem?_eq_some_iff.1 hs).1
 have hsame : ss.set k s = ss:=by
  have : ss[k] = s:=(List.getElem?_eq_some_iff.1 hs).2
  rw [← this, List.set_getElem_self]
 have hclear : ∀ {t2 : Ty}, freeB pre c.workers.toNat w s.epoch = true → At c w cl e 7 (some ⟨5, w, k, s.word, true⟩) t2 → t2.i = k → t2.word = s.word →
   In 1 (t2, cells pre ss) ({ t2 with look:=lk 5 w (k + 1) s.word, st:=5 }, cells pre (ss.set k (clr pre c.workers.toNat w s))):=by
  intro t2 hb h2 hi hwd
  have hz:=swap_is h h2.cf (by rw [hi]; exact hs) hwd (next_clear (w:=w) (h.get hs) hf hw)
  refine In.one (k:=1) ?_
  unfold Ty.step; rw [h2.st]; simp only [h2.w, hz, Ty.go, fd_is h2.look, hi]
  unfold clr
  rw [if_pos ⟨hf, hb⟩]
  rfl
 obtain ⟨o, e1, e2, e3⟩:=nxt_first w
 by_cases hlt : o < c.workers.toNat
 ·let t1 : Ty:={ t with look:=some ⟨5, w, k, s.word, true⟩, i:=k, word:=s.word, other:=(o : Int), st:=6 }
  have s1 : t.step (cells pre ss) = (t1, cells pre ss, 1):=by
   have hnx : nxt t.w (-1) = o:=by rw [ha.w]; exact e1
   have hW : decide ((o : Int) < t.cf.workers) = true:=by rw [ha.cf]; simp; omega
   rw [st_5 ha.st]; simp only [h1, if_true, Ty.another, hnx, hW]
   try rfl
  rcases pins_all (w:=w) (cl:=cl) (e:=e) h hs c.workers.toNat (o:=o) (t:=t1) ⟨ha.cf, ha.w, ha.cl, ha.e, rfl, rfl⟩ rfl rfl rfl hlt (by omega) e2 (fun i q1 q2 => absurd (e3 i q1) q2) with ⟨q1, t', q2, q3, q4, q5⟩ | ⟨q1, t', q2, q3⟩
  ·exact ⟨_, _, (((In.one s1).trans q2).trans (hclear q1 q3 q4 q5)).mono (by omega), q3.cf, q3.w, q3.cl, q3.e, rfl, rfl⟩
  ·refine ⟨t', _, ?_, q3⟩
   have : clr pre c.workers.toNat w s = s:=by unfold clr; rw [if_neg (by rw [q1]; simp)]
   rw [this, hsame]
   exact ((In.one s1).trans q2).mono (by omega)
 ·let t1 : Ty:={ t with look:=some ⟨5, w, k, s.word, true⟩, i:=k, word:=s.word, other:=(o : Int), st:=7 }
  have s1 : t.step (cells pre ss) = (t1, cells pre ss, 1):=by
   have hnx : nxt t.w (-1) = o:=by rw [ha.w]; exact e1
   have hW : decide ((o : Int) < t.cf.workers) = false:=by rw [ha.cf]; simp; omega
   rw [st_5 ha.st]; simp only [h1, if_true, Ty.another, hnx, hW, Bool.false_eq_true, if_false]
   try rfl
  have hb : freeB pre c.workers.toNat w s.epoch = true:=freeB_iff.2 fun i q1 q2 => absurd (e3 i (by omega)) q2
  exact ⟨_, _, ((In.one s1).trans (hclear hb (t2:=t1) ⟨ha.cf, ha.w, ha.cl, ha.e, rfl, rfl⟩ rfl rfl)).mono (by omega), ha.cf, ha.w, ha.cl, ha.e, rfl, rfl⟩
theorem clr_right {s : S} (h : s.right = true) (hw : w ≤ 15) (W : Nat) : (clr pre W w s).right = true:=by
 unfold clr
 split
 ·rename_i hc; exact clear_right h hc.1 hw
 ·exact h
theorem clr_other {s : S} (h : s.state ≠ 6) (W : Nat) : clr pre W w s = s:=by unfold clr; rw [if_neg (fun q => h q.1)]
theorem old_all (hw : w ≤ 15) : ∀ (rest a : List S) {wd : Int} {t : Ty}, Pool c pre (a ++ rest) → At c w cl e 5 (lk 5 w a.length wd) t →
  ∃ t' lo, In ((c.workers.toNat + 2) * rest.length + 1) (t, cells pre (a ++ rest)) (t', cells pre (a ++ rest.map (clr pre c.workers.toNat w))) ∧ At c w cl e (aft cl) lo t' ∧ Pool c pre (a ++ rest.map (clr pre c.workers.toNat w)):=by
 intro rest
 induction rest with
 | nil =>
  intro a wd t h ha
  obtain ⟨t', lo, h1, h2⟩:=old_end ha (by have:=h.sl; simp at this; omega) (cells pre (a ++ []))
  exact ⟨t', lo, by simpa using h1, h2, by simpa using h⟩
 | cons s rest ih =>
  intro a wd t h ha
  have hns : a.length + (rest.length + 1) = ns c:=by have:=h.sl; simpa using this
  have hmul : (c.workers.toNat + 2) * (rest.length + 1) = (c.workers.toNat + 2) * rest.length + (c.workers.toNat + 2):=by rw [Nat.mul_add, Nat.mul_one]
  by_cases hs : s.state = 6
  ·obtain ⟨t1, wd1, h1, h2⟩:=old_one h ha (get_mid a s rest) hs hw
   rw [set_mid] at h1
   have hP : Pool c pre (a ++ clr pre c.workers.toNat w s :: rest):=by
    have:=h.set (i:=a.length) (clr_right (pre:=pre) (h.get (get_mid a s rest)) hw c.workers.toNat)
    rwa [set_mid] at this
   have e1 : a ++ clr pre c.workers.toNat w s :: rest = (a ++ [clr pre c.workers.toNat w s]) ++ rest:=by simp
   rw [e1] at h1 hP
   obtain ⟨t2, lo, h3, h4, h5⟩:=ih _ hP (by simpa using h2)
   refine ⟨t2, lo, ?_, h4, by simpa using h5⟩
   have:=(h1.trans h3).mono (b:=(c.workers.toNat + 2) * (rest.length + 1) + 1) (by omega)
   simpa using this
  ·have hcl:=clr_other (pre:=pre) (w:=w) hs c.workers.toNat
   by_cases hk : a.length + 1 < ns c
   ·obtain ⟨t1, h1, h2⟩:=old_miss h ha (get_mid a s rest) hs hk
    have e1 : a ++ s :: rest = (a ++ [s]) ++ rest:=by simp
    rw [e1] at h1
    rw [e1] at h
    obtain ⟨t2, lo, h3, h4, h5⟩:=ih _ h (by simpa using h2)
    refine ⟨t2, lo, ?_, h4, by simpa [hcl] using h5⟩
    have:=(h1.trans h3).mono (b:=(c.workers.toNat + 2) * (rest.length + 1) + 1) (by omega)
    simpa [hcl] using this
   ·have hr : rest = []:=by
     have : rest.length = 0:=by omega
     exact List.length_eq_zero_iff.1 this
    subst hr
    obtain ⟨t1, lo, h1, h2⟩:=old_last h ha (get_mid a s []) hs (by omega)
    refine ⟨t1, lo, ?_, h2, by simpa [hcl] using h⟩
    simp only [List.map_cons, List.map_nil, hcl]
    exact h1.mono (by omega)
inductive Kept (c : Conf.Cf) (w : Nat) : List Int → List Int → List S → List Int → List Int → List S → Prop
 | nil (pre : List Int) (ss : List S) : Kept c w [] pre ss [] pre ss
 | none (x : Int) (L pre : List Int) (ss : List S) : NoFit 3 w ss → Kept c w (x :: L) pre ss (x :: L) pre ss
 | take (x : Int) (L pre : List Int) (ss : List S) (j : Nat) (s : S) (L' pre' : List Int) (ss' : List S) : First 3 w ss j → ss[j]? = some s → Kept c w L ((pre.set 1 (lw L)).set (gc c x.toNat) (j + 1)) (ss.set j (keptV s x)) L' pre' ss' → Kept c w (x :: L) pre ss L' pre' ss'
theorem fits3 {s : S} (h : Find.fits s 3 ow = true) : (s.state = 2 ∧ s.broken = false) ∨ s.state = 0:=by
 simpa [Find.fits, Find.sound] using h
theorem next_kept {s : S} {x : Int} (h : s.right = true) (hf : Find.fits s 3 ow = true) (hx : 0 ≤ x ∧ x ≤ 15) : nextX s (if s.state = 2 then 5 else 7) x 0 = some (keptV s x):=by
 have hf:=fits3 hf
 by_cases h2 : s.state = 2
 ·have hb : s.broken = false:=by
   rcases hf with hf | hf
   ·exact hf.2
   ·omega
  unfold keptV
  rw [if_pos h2, next_is h hx (by simp [actX, Mod.act, h2, hb])]
 ·have h0 : s.state = 0:=by
   rcases hf with hf | hf
   ·exact absurd hf.1 h2
   ·exact hf
  unfold keptV
  rw [if_neg h2, next_is h hx (by simp [actX, Mod.act, h0])]
theorem kept_right {s : S} {x : Int} (h : s.right = true) (hf : Find.fits s 3 ow = true) (hx : 0 ≤ x ∧ x ≤ 15) : (keptV s x).right = true:=by
 have hn:=next_kept h hf hx
 by_cases h2 : s.state = 2
 ·rw [if_pos h2] at hn; exact next_right (.inl (by simp [Mod.Done])) hn
 ·rw [if_neg h2] at hn; exact next_right (.inl (by simp [Mod.Done])) hn
theorem kept_facts {s : S} (x : Int) (hf : Find.fits s 3 ow = true) : ((keptV s x).state = 4 ∧ s.state = 2 ∨ (keptV s x).state = 5 ∧ s.state = 0) ∧ (keptV s x).own = x ∧ (keptV s x).gen = s.gen:=by
 unfold keptV
 rcases fits3 hf with ⟨h2, hb⟩ | h0
 ·rw [if_pos h2]
  exact ⟨.inl ⟨rfl, h2⟩, rfl, rfl⟩
 ·rw [if_neg (by omega)]
  exact ⟨.inr ⟨rfl, h0⟩, rfl, rfl⟩
theorem lw_nonneg : ∀ {L : List Int}, (∀ x ∈ L, 0 ≤ x) → 0 ≤ lw L:=by
 intro L
 induction L with
 | nil => intro _; exact Int.le_refl _
 | cons x L ih =>
  intro h
  have h1:=h x (by simp)
  have h2:=ih fun y hy => h y (by simp [hy])
  simp only [lw]
  omega
theorem scan9 (h : Pool c pre ss) (d : Nat) : ∀ {t : Ty} {k : Nat}, At c w cl e 9 (lk 3 w k wd) t → k + d < ns c → (∀ i s, k ≤ i → i < k + d → ss[i]? = some s → Find.fits s 3 w = false) →
  In d (t, cells pre ss) ({ t with look:=lk 3 w (k + d) wd }, cells pre ss):=by
 induction d with
 | zero =>
  intro t k ha hk hn
  have hl:=ha.look
  have e : ({ t with look:=lk 3 w (k + 0) wd } : Ty) = t:=by
   obtain ⟨a1, a2, a3, a4, a5, a6, a7, a8, a9, a10, a11, a12⟩:=t
   simp only at hl
   subst hl
   rfl
  rw [e]
  exact In.refl _
 | succ d ih =>
  intro t k ha hk hn
  obtain ⟨s, hs⟩ : ∃ s, ss[k]? = some s:=⟨_, List.getElem?_eq_getElem (by rw [h.sl]; omega)⟩
  have h1:=seek_miss h ha.cf ha.look hs (hn k s (Nat.le_refl _) (by omega) hs)
  rw [decide_eq_false (by omega)] at h1
  have s1 : t.step (cells pre ss) = ({ t with look:=lk 3 w (k + 1) wd }, cells pre ss, 1):=by unfold Ty.step; rw [ha.st]; simp only [h1, Bool.false_eq_true, if_false]; rw [← ha.st]
  have h2:=ih (t:={ t with look:=lk 3 w (k + 1) wd }) (k:=k + 1) ⟨ha.cf, ha.w, ha.cl, ha.e, ha.st, rfl⟩ (by omega) (fun i s' h1 h2 => hn i s' (by omega) (by omega))
  simp only [show k + 1 + d = k + (d + 1) by omega] at h2
  exact ((In.one s1).trans h2).mono (by omega)
theorem rd_set_same {l : List Int} {i : Nat} {x : Int} (h : i < l.length) : rd (l.set i x) i = x:=by
 unfold rd
 rw [List.getD_eq_getElem?_getD, List.getElem?_set]
 simp [h]
theorem rd_set_ne {l : List Int} {i j : Nat} {x : Int} (h : i ≠ j) : rd (l.set i x) j = rd l j:=by
 unfold rd
 rw [List.getD_eq_getElem?_getD, List.getElem?_set, if_neg h, List.getD_eq_getElem?_getD]
theorem line_all : ∀ (L : List Int) {pre : List Int} {ss : List S} {t : Ty} {lo : Option Tk.Fd}, Pool c pre ss → 1 ≤ ns c → At c w cl e 8 lo t → rd pre 1 = lw L → (∀ x ∈ L, 0 ≤ x ∧ x < c.workers) → c.workers ≤ 8 →
  ∃ L' pre' ss' t' lo', Kept c w L pre ss L' pre' ss' ∧ In (L.length * (ns c + 5) + ns c + 2) (t, cells pre ss) (t', cells pre' ss') ∧ At c w cl e 15 lo' t' ∧ Pool c pre' ss' ∧ rd pre' 1 = lw L' ∧ (∀ x ∈ L', 0 ≤ x ∧ x < c.workers):=by
 intro L
 induction L with
 | nil =>
  intro pre ss t lo h h1 ha hq hx h8
  have hr : rd (cells pre ss) 1 = 0:=by rw [rd_pre h (by omega)]; exact hq
  refine ⟨[], pre, ss, { t with queue:=0, st:=15 }, lo, .nil _ _, (In.one (k:=1) ?_).mono (by omega), ⟨ha.cf, ha.w, ha.cl, ha.e, rfl, ha.look⟩, h, hq, hx⟩
  unfold Ty.step; rw [ha.st]; simp only [hr]; rfl
 | cons x L ih =>
  intro pre ss t lo h h1 ha hq hx h8
  have hxb:=hx x (by simp)
  have hL0 : 0 ≤ lw L:=lw_nonneg fun y hy => (hx y (by simp [hy])).1
  have hr : rd (cells pre ss) 1 = lw (x :: L):=by rw [rd_pre h (by omega)]; exact hq
  have hq1 : 0 < lw (x :: L):=by simp only [lw]; omega
  have hq2 : lw (x :: L) % 16 - 1 = x:=by simp only [lw]; omega
  have hq3 : lw (x :: L) / 16 = lw L:=by simp only [lw]; omega
  let t1 : Ty:={ t with queue:=lw (x :: L), head:=x, look:=lk 3 w 0 0, st:=9 }
  have s1 : t.step (cells pre ss) = (t1, cells pre ss, 1):=by
   have hw:=ha.w
   subst hw
   rw [st_8 ha.st]; simp only [hr, hq1, if_true, hq2, Ty.search]; rfl
  have A1 : At c w cl e 9 (lk 3 w 0 0) t1:=⟨ha.cf, ha.w, ha.cl, ha.e, rfl, rfl⟩
  have hmul : (L.length + 1) * (ns c + 5) = L.length * (ns c + 5) + (ns c + 5):=by rw [Nat.add_mul, Nat.one_mul]
  rcases first_or 3 w ss with hn | ⟨j, hf⟩
  ·have h2:=scan9 h (ns c - 1) A1 (by omega) (fun i s _ _ hs => hn i s hs)
   simp only [Nat.zero_add] at h2
   obtain ⟨s, hs⟩ : ∃ s, ss[ns c - 1]? = some s:=⟨_, List.getElem?_eq_getElem (by rw [h.sl]; omega)⟩
   have h3:=seek_miss (t:={ t1 with look:=lk 3 w (ns c - 1) 0 }) h A1.cf rfl hs (hn _ s hs)
   rw [decide_eq_true (by omega)] at h3
   have s2 : Ty.step { t1 with look:=lk 3 w (ns c - 1) 0 } (cells pre ss) = ({ t1 with look:=lk 3 w (ns c - 1 + 1) 0, st:=15 }, cells pre ss, 1):=by
    unfold Ty.step; simp only [t1] at h3 ⊢; simp only [h3]; rfl
   exact ⟨x :: L, pre, ss, _, _, .none x L pre ss hn, (((In.one s1).trans h2).trans (In.one s2)).mono (by simp only [List.length_cons]; omega), ⟨ha.cf, ha.w, ha.cl, ha.e, rfl, rfl⟩, h, hq, hx⟩
  ·obtain ⟨s, hs, hfs, hlo⟩:=id hf
   have hj : j < ns c:=by rw [← h.sl]; exact (List.getElem?_eq_some_iff.1 hs).1
   have h2:=scan9 h j A1 (by omega) (fun i s' _ hi hs' => hlo i s' (by omega) hs')
   simp only [Nat.zero_add] at h2
   have h3:=seek_hit (t:={ t1 with look:=lk 3 w j 0 }) h A1.cf rfl hs hfs
   let t2 : Ty:={ t1 with look:=some ⟨3, w, j, s.word, true⟩, i:=j, word:=s.word, st:=10 }
   have s2 : Ty.step { t1 with look:=lk 3 w j 0 } (cells pre ss) = (t2, cells pre ss, 1):=by
    unfold Ty.step; simp only [t1] at h3 ⊢; simp only [h3]; rfl
   have hr2:=h.get hs
   have hxn:=next_kept hr2 hfs (x:=x) ⟨hxb.1, by omega⟩
   have hxr:=kept_right hr2 hfs (x:=x) ⟨hxb.1, by omega⟩
   have his : t2.is = s.state:=by unfold Ty.is; simp only [t2, dec_word hr2]
   have hsw:=swap_is (t:=t2) h ha.cf hs rfl hxn
   have hP1 : Pool c pre (ss.set j (keptV s x)):=h.set hxr
   let t3 : Ty:={ t2 with st:=11 }
   have s3 : t2.step (cells pre ss) = (t3, cells pre (ss.set j (keptV s x)), 1):=by
    unfold Ty.step
    simp only [his]
    rw [show t2.head = x from rfl, hsw]
    rfl
   have hr3 : rd (cells pre (ss.set j (keptV s x))) 1 = lw (x :: L):=by rw [rd_pre hP1 (by omega)]; exact hq
   let t4 : Ty:={ t2 with st:=12 }
   have s4 : t3.step (cells pre (ss.set j (keptV s x))) = (t4, cells (pre.set 1 (lw L)) (ss.set j (keptV s x)), 1):=by
    unfold Ty.step
    simp only [t3, t2, t1, cas, hr3, hq3, if_true, set_pre hP1 (i:=1) (by omega)]
    rfl
   have hP2 : Pool c (pre.set 1 (lw L)) (ss.set j (keptV s x)):=hP1.setPre _ _
   have hg : gc c x.toNat < 3 + 2 * c.workers.toNat:=by unfold gc; omega
   have s5 : t4.step (cells (pre.set 1 (lw L)) (ss.set j (keptV s x))) = ({ t2 with st:=8 }, cells ((pre.set 1 (lw L)).set (gc c x.toNat) (j + 1)) (ss.set j (keptV s x)), 1):=by
    unfold Ty.step
    simp only [t4, t2, t1, ha.cf, set_pre hP2 hg]
   have hP3 : Pool c ((pre.set 1 (lw L)).set (gc c x.toNat) (j + 1)) (ss.set j (keptV s x)):=hP2.setPre _ _
   have hq4 : rd ((pre.set 1 (lw L)).set (gc c x.toNat) (j + 1)) 1 = lw L:=by
    rw [rd_set_ne (by unfold gc; omega), rd_set_same (by have:=h.pl; omega)]
   obtain ⟨L', pre', ss', t', lo', k1, k2, k3, k4, k5, k6⟩:=ih hP3 h1 (t:={ t2 with st:=8 }) (lo:=some ⟨3, w, j, s.word, true⟩) ⟨ha.cf, ha.w, ha.cl, ha.e, rfl, rfl⟩ hq4 (fun y hy => hx y (by simp [hy])) h8
   refine ⟨L', pre', ss', t', lo', .take x L pre ss j s L' pre' ss' hf hs k1, ?_, k3, k4, k5, k6⟩
   exact (((((((In.one s1).trans h2).trans (In.one s2)).trans (In.one s3)).trans (In.one s4)).trans (In.one s5)).trans k2).mono (by simp only [List.length_cons]; omega)
end
section
variable {c : Conf.Cf} {pre : List Int} {ss : List S} {t : Ty} {kd ow wd cl e E : Int} {k w : Nat}
theorem Kept.preL {L L' pre pre' : List Int} {ss ss' : List S} (h : Kept c w L pre ss L' pre' ss') : (∀ i, i ≠ 1 → i < 3 + c.workers.toNat → rd pre' i = rd pre i) ∧ pre'.length = pre.length ∧ ss'.length = ss.length:=by
 induction h with
 | nil pre ss => exact ⟨fun _ _ _ => rfl, rfl, rfl⟩
 | none x L pre ss h => exact ⟨fun _ _ _ => rfl, rfl, rfl⟩
 | take x L pre ss j s L' pre' ss' h1 h2 h3 ih =>
  refine ⟨fun i h4 h5 => ?_, by simpa using ih.2.1, by simpa using ih.2.2⟩
  rw [ih.1 i h4 h5, rd_set_ne (by unfold gc; omega), rd_set_ne (by omega)]
theorem Kept.slots {L L' pre pre' : List Int} {ss ss' : List S} (h : Kept c w L pre ss L' pre' ss') : ∀ (i : Nat) s', ss'[i]? = some s' → ∃ s, ss[i]? = some s ∧ (s' = s ∨ ∃ x, Find.fits s 3 w = true ∧ s' = keptV s x):=by
 induction h with
 | nil pre ss => exact fun i s' h => ⟨s', h, .inl rfl⟩
 | none x L pre ss h => exact fun i s' h => ⟨s', h, .inl rfl⟩
 | take x L pre ss j s L' pre' ss' h1 h2 h3 ih =>
  intro i s' hs'
  obtain ⟨s1, h4, h5⟩:=ih i s' hs'
  have hj : j < ss.length:=(List.getElem?_eq_some_iff.1 h2).1
  have hfj : Find.fits s 3 w = true:=by
   obtain ⟨s0, q1, q2, -⟩:=h1
   rw [h2] at q1; cases q1; exact q2
  by_cases hij : i = j
  ·subst hij
   rw [List.getElem?_set_self hj] at h4
   cases h4
   refine ⟨s, h2, .inr ?_⟩
   rcases h5 with rfl | ⟨y, h6, rfl⟩
   ·exact ⟨x, hfj, rfl⟩
   ·have hk:=(kept_facts x hfj).1
    have:=fits3 h6
    omega
  ·rw [List.getElem?_set_ne (fun q => hij q.symm)] at h4
   exact ⟨s1, h4, h5⟩
theorem Kept.stop {L L' pre pre' : List Int} {ss ss' : List S} (h : Kept c w L pre ss L' pre' ss') : L' = [] ∨ NoFit 3 w ss':=by
 induction h with
 | nil pre ss => exact .inl rfl
 | none x L pre ss h => exact .inr h
 | take x L pre ss j s L' pre' ss' h1 h2 h3 ih => exact ih
theorem Kept.same {L L' pre pre' : List Int} {ss ss' : List S} (h : Kept c w L pre ss L' pre' ss') (hs : L = [] ∨ NoFit 3 w ss) : L' = L ∧ pre' = pre ∧ ss' = ss:=by
 cases h with
 | nil pre ss => exact ⟨rfl, rfl, rfl⟩
 | none x L pre ss h => exact ⟨rfl, rfl, rfl⟩
 | take x L pre ss j s L' pre' ss' h1 h2 h3 =>
  rcases hs with hs | hs
  ·cases hs
  ·obtain ⟨s0, q1, q2, -⟩:=h1
   rw [hs j s0 q1] at q2; cases q2
theorem sweepAll_len (cl : Int) : ∀ (ss : List S) (E : Int), (sweepAll cl E ss).2.length = ss.length ∧ E ≤ (sweepAll cl E ss).1 ∧ (sweepAll cl E ss).1 ≤ E + ss.length:=by
 intro ss
 induction ss with
 | nil => intro E; simp [sweepAll]
 | cons s ss ih =>
  intro E
  have h1:=ih E
  have h2:=ih (E + 1)
  cases hf : Find.fits s 4 cl <;> simp only [sweepAll, hf, if_true, Bool.false_eq_true, if_false, List.length_cons] <;> omega
theorem sweepAll_get (cl : Int) : ∀ (ss : List S) (E : Int) (i : Nat) s', (sweepAll cl E ss).2[i]? = some s' → ∃ s, ss[i]? = some s ∧ ((Find.fits s 4 cl = false ∧ s' = s) ∨ (Find.fits s 4 cl = true ∧ ∃ E', E ≤ E' ∧ E' < E + ss.length ∧ s' = lim s E')):=by
 intro ss
 induction ss with
 | nil => intro E i s' h; simp [sweepAll] at h
 | cons s ss ih =>
  intro E i s' h
  cases hf : Find.fits s 4 cl
  ·simp only [sweepAll, hf, Bool.false_eq_true, if_false] at h
   cases i with
   | zero => simp at h; exact ⟨s, rfl, .inl ⟨hf, h.symm⟩⟩
   | succ i =>
    obtain ⟨s0, h1, h2⟩:=ih E i s' (by simpa using h)
    refine ⟨s0, by simpa using h1, ?_⟩
    rcases h2 with h2 | ⟨h2, E', h3, h4, h5⟩
    ·exact .inl h2
    ·exact .inr ⟨h2, E', h3, by simp; omega, h5⟩
  ·simp only [sweepAll, hf, if_true] at h
   cases i with
   | zero => simp at h; exact ⟨s, rfl, .inr ⟨hf, E, by omega, by simp; omega, h.symm⟩⟩
   | succ i =>
    obtain ⟨s0, h1, h2⟩:=ih (E + 1) i s' (by simpa using h)
    refine ⟨s0, by simpa using h1, ?_⟩
    rcases h2 with h2 | ⟨h2, E', h3, h4, h5⟩
    ·exact .inl h2
    ·exact .inr ⟨h2, E', by omega, by simp; omega, h5⟩
theorem sweepAll_none (cl : Int) : ∀ (ss : List S) (E : Int), (∀ s ∈ ss, Find.fits s 4 cl = false) → sweepAll cl E ss = (E, ss):=by
 intro ss
 induction ss with
 | nil => intro E _; rfl
 | cons s ss ih =>
  intro E h
  simp only [sweepAll, h s (by simp), Bool.false_eq_true, if_false, ih E fun s' hs => h s' (by simp [hs])]
structure Turn (c : Conf.Cf) (w : Nat) (cl E : Int) (L pre : List Int) (ss : List S) (L' pre' : List Int) (ss' : List S) (pre1 pre2 : List Int) : Prop where
 p1 : pre1 = (pre.set (pc w) (wrap64 (E + 1))).set 2 (sweepAll cl E ss).1
 k : (cl ≠ 0 ∧ L' = L ∧ pre2 = pre1 ∧ ss' = (sweepAll cl E ss).2.map (clr pre1 c.workers.toNat w)) ∨ (cl = 0 ∧ Kept c w L pre1 ((sweepAll cl E ss).2.map (clr pre1 c.workers.toNat w)) L' pre2 ss')
 p' : pre' = pre2.set (pc w) 0
def most (c : Conf.Cf) (n : Nat) : Nat:=(3 + 6 * ns c + ((c.workers.toNat + 2) * ns c + 1)) + (n * (ns c + 5) + ns c + 2) + 1
theorem turn (h : Pool c pre ss) (h1 : 1 ≤ ns c) (hcf : t.cf = c) (hw : t.w = w) (hst : t.st = 0) (hcl : rd pre 0 = cl) (hE : rd pre 2 = E) (h0 : 0 ≤ E) (h4 : E + ss.length ≤ 4095) (hk : w < c.workers.toNat) (h8 : c.workers ≤ 8) {L : List Int} (hq : rd pre 1 = lw L) (hL : ∀ x ∈ L, 0 ≤ x ∧ x < c.workers) :
  ∃ L' pre' ss' pre1 pre2 t' lo', In (most c L.length) (t, cells pre ss) (t', cells pre' ss') ∧ At c w cl E 16 lo' t' ∧ Pool c pre' ss' ∧ rd pre' 1 = lw L' ∧ (∀ x ∈ L', 0 ≤ x ∧ x < c.workers) ∧ Turn c w cl E L pre ss L' pre' ss' pre1 pre2:=by
 have hpl:=h.pl
 have s1 : t.step (cells pre ss) = ({ t with epoch:=E, st:=1 }, cells pre ss, 1):=by
  have : rd (cells pre ss) 2 = E:=by rw [rd_pre h (by omega)]; exact hE
  unfold Ty.step; rw [hst]; simp only [this]
 have hpw : pc w < 3 + 2 * c.workers.toNat:=by unfold pc; omega
 have s2 : Ty.step { t with epoch:=E, st:=1 } (cells pre ss) = ({ t with epoch:=E, st:=2 }, cells (pre.set (pc w) (wrap64 (E + 1))) ss, 1):=by
  unfold Ty.step; simp only [hw, set_pre h hpw]
 have hP0 : Pool c (pre.set (pc w) (wrap64 (E + 1))) ss:=h.setPre _ _
 have hp2 : pc w ≠ 2 ∧ pc w ≠ 1 ∧ pc w ≠ 0:=by unfold pc; omega
 have hcl0 : rd (cells (pre.set (pc w) (wrap64 (E + 1))) ss) 0 = cl:=by rw [rd_pre hP0 (by omega)]; show rd _ 0 = cl; rw [rd_set_ne hp2.2.2]; exact hcl
 let t3 : Ty:={ t with epoch:=E, closed:=cl, look:=lk 4 cl 0 0, st:=3 }
 have s3 : Ty.step { t with epoch:=E, st:=2 } (cells (pre.set (pc w) (wrap64 (E + 1))) ss) = (t3, cells (pre.set (pc w) (wrap64 (E + 1))) ss, 1):=by
  unfold Ty.step; simp only [hcl0, Ty.search]; rfl
 have hss : ss ≠ []:=by
  intro q
  have:=h.sl
  rw [q] at this
  simp at this
  omega
 have hE0 : rd (pre.set (pc w) (wrap64 (E + 1))) 2 = E:=by rw [rd_set_ne hp2.1]; exact hE
 obtain ⟨t4, i4, a4, P4⟩:=sweep_all (cl:=cl) (e:=E) (w:=w) ss [] (t:=t3) (wd:=0) (E:=E) hss (by simpa using hP0) ⟨hcf, hw, rfl, rfl, rfl, rfl⟩ hE0 h0 h4
 simp only [List.nil_append] at i4 P4
 generalize hpre1 : (pre.set (pc w) (wrap64 (E + 1))).set 2 (sweepAll cl E ss).1 = pre1 at *
 obtain ⟨t5, lo5, i5, a5, P5⟩:=old_all (cl:=cl) (e:=E) (w:=w) (by omega) (sweepAll cl E ss).2 [] (t:=t4) (wd:=0) (by simpa using P4) (by simpa using a4)
 simp only [List.nil_append] at i5 P5
 have hlen : (sweepAll cl E ss).2.length = ns c:=by rw [(sweepAll_len cl ss E).1]; exact h.sl
 have hA : In (3 + 6 * ns c + ((c.workers.toNat + 2) * ns c + 1)) (t, cells pre ss) (t5, cells pre1 ((sweepAll cl E ss).2.map (clr pre1 c.workers.toNat w))):=by
  have:=((((In.one s1).trans (In.one s2)).trans (In.one s3)).trans i4).trans i5
  refine this.mono ?_
  rw [hlen, h.sl]
  omega
 have hend : ∀ {t6 : Ty} {lo6 : Option Tk.Fd} {pre2 : List Int} {ss' : List S}, At c w cl E 15 lo6 t6 → Pool c pre2 ss' → In 1 (t6, cells pre2 ss') ({ t6 with st:=16 }, cells (pre2.set (pc w) 0) ss'):=by
  intro t6 lo6 pre2 ss' a6 P6
  refine In.one (k:=1) ?_
  unfold Ty.step; rw [a6.st]; simp only [a6.w, set_pre P6 hpw]
 have hq1 : rd pre1 1 = lw L:=by
  rw [← hpre1, rd_set_ne (by omega), rd_set_ne hp2.2.1]; exact hq
 by_cases hc0 : cl = 0
 ·have haf : aft cl = 8:=by unfold aft; rw [if_pos hc0]
  rw [haf] at a5
  obtain ⟨L', pre2, ss', t6, lo6, k1, i6, a6, P6, q6, x6⟩:=line_all L P5 h1 a5 hq1 hL h8
  refine ⟨L', pre2.set (pc w) 0, ss', pre1, pre2, _, lo6, ((hA.trans i6).trans (hend a6 P6)), ⟨a6.cf, a6.w, a6.cl, a6.e, rfl, a6.look⟩, P6.setPre _ _, ?_, x6, ⟨hpre1.symm, .inr ⟨hc0, k1⟩, rfl⟩⟩
  rw [rd_set_ne hp2.2.1]; exact q6
 ·have haf : aft cl = 15:=by unfold aft; rw [if_neg hc0]
  rw [haf] at a5
  refine ⟨L, pre1.set (pc w) 0, _, pre1, pre1, _, lo5, ((hA.trans (hend a5 P5)).mono (by unfold most; omega)), ⟨a5.cf, a5.w, a5.cl, a5.e, rfl, a5.look⟩, P5.setPre _ _, ?_, hL, ⟨hpre1.symm, .inl ⟨hc0, rfl, rfl, rfl⟩, rfl⟩⟩
  rw [rd_set_ne hp2.2.1]; exact hq1
structure Tidy (c : Conf.Cf) (w : Nat) (cl : Int) (L pre : List Int) (ss : List S) : Prop where
 sw : ∀ s ∈ ss, Find.fits s 4 cl = false
 old : ∀ s ∈ ss, s.state = 6 → freeB pre c.workers.toNat w s.epoch = false
 line : cl = 0 → L = [] ∨ NoFit 3 w ss
theorem ext_rd {l l' : List Int} (hl : l.length = l'.length) (h : ∀ i, i < l.length → rd l i = rd l' i) : l = l':=by
 apply List.ext_getElem hl
 intro i h1 h2
 have:=h i h1
 unfold rd at this
 rw [List.getD_eq_getElem?_getD, List.getD_eq_getElem?_getD, List.getElem?_eq_getElem h1, List.getElem?_eq_getElem h2] at this
 exact this
theorem Turn.preT {L L' pre pre' pre1 pre2 : List Int} {ss' : List S} (h : Turn c w cl E L pre ss L' pre' ss' pre1 pre2) (hpl : pre.length = 3 + 2 * c.workers.toNat) (hk : w < c.workers.toNat) :
  pre'.length = pre.length ∧ rd pre' 0 = rd pre 0 ∧ rd pre' 2 = (sweepAll cl E ss).1 ∧ rd pre' (pc w) = 0 ∧ (∀ o, o < c.workers.toNat → o ≠ w → rd pre' (3 + o) = rd pre (3 + o) ∧ rd pre1 (3 + o) = rd pre (3 + o) ∧ rd pre2 (3 + o) = rd pre (3 + o)):=by
 obtain ⟨p1, k, p'⟩:=h
 have h2 : pre2.length = pre1.length ∧ ∀ i, i ≠ 1 → i < 3 + c.workers.toNat → rd pre2 i = rd pre1 i:=by
  rcases k with ⟨-, -, rfl, -⟩ | ⟨-, k⟩
  ·exact ⟨rfl, fun _ _ _ => rfl⟩
  ·exact ⟨k.preL.2.1, k.preL.1⟩
 have l1 : pre1.length = pre.length:=by rw [p1]; simp
 have r1 : ∀ i, i ≠ 2 → i ≠ pc w → rd pre1 i = rd pre i:=by
  intro i q1 q2
  rw [p1, rd_set_ne (by omega), rd_set_ne (by omega)]
 unfold pc at *
 refine ⟨by rw [p']; simp; omega, ?_, ?_, ?_, fun o q1 q2 => ⟨?_, ?_, ?_⟩⟩
 ·rw [p', rd_set_ne (by omega), h2.2 0 (by omega) (by omega), r1 0 (by omega) (by omega)]
 ·rw [p', rd_set_ne (by omega), h2.2 2 (by omega) (by omega), p1, rd_set_same (by simp; omega)]
 ·rw [p', rd_set_same (by omega)]
 ·rw [p', rd_set_ne (by omega), h2.2 _ (by omega) (by omega), r1 _ (by omega) (by omega)]
 ·rw [r1 _ (by omega) (by omega)]
 ·rw [h2.2 _ (by omega) (by omega), r1 _ (by omega) (by omega)]
theorem Turn.slot {L L' pre pre' pre1 pre2 : List Int} {ss' : List S} (h : Turn c w cl E L pre ss L' pre' ss' pre1 pre2) {i : Nat} {s' : S} (hs' : ss'[i]? = some s') :
  ∃ s s1, ss[i]? = some s ∧ ((Find.fits s 4 cl = false ∧ s1 = s) ∨ (Find.fits s 4 cl = true ∧ ∃ E', E ≤ E' ∧ E' < E + ss.length ∧ s1 = lim s E')) ∧
   (s' = clr pre1 c.workers.toNat w s1 ∨ cl = 0 ∧ ∃ x, Find.fits (clr pre1 c.workers.toNat w s1) 3 w = true ∧ s' = keptV (clr pre1 c.workers.toNat w s1) x):=by
 have key : ∀ {s2 : S}, ((sweepAll cl E ss).2.map (clr pre1 c.workers.toNat w))[i]? = some s2 → ∃ s s1, ss[i]? = some s ∧ ((Find.fits s 4 cl = false ∧ s1 = s) ∨ (Find.fits s 4 cl = true ∧ ∃ E', E ≤ E' ∧ E' < E + ss.length ∧ s1 = lim s E')) ∧ s2 = clr pre1 c.workers.toNat w s1:=by
  intro s2 h2
  rw [List.getElem?_map] at h2
  obtain ⟨s1, h3, rfl⟩:=Option.map_eq_some_iff.1 h2
  obtain ⟨s, h4, h5⟩:=sweepAll_get cl ss E i s1 h3
  exact ⟨s, s1, h4, h5, rfl⟩
 rcases h.k with ⟨hc, -, -, rfl⟩ | ⟨hc, k⟩
 ·obtain ⟨s, s1, h1, h2, rfl⟩:=key hs'
  exact ⟨s, s1, h1, h2, .inl rfl⟩
 ·obtain ⟨s2, h1, h2⟩:=k.slots i s' hs'
  obtain ⟨s, s1, h3, h4, rfl⟩:=key h1
  refine ⟨s, s1, h3, h4, ?_⟩
  rcases h2 with rfl | ⟨x, h5, h6⟩
  ·exact .inl rfl
  ·exact .inr ⟨hc, x, h5, h6⟩
theorem clr_state (pre : List Int) (W w : Nat) (s : S) : (s.state = 6 ∧ freeB pre W w s.epoch = true ∧ clr pre W w s = clearV s w) ∨ (clr pre W w s = s ∧ (s.state = 6 → freeB pre W w s.epoch = false)):=by
 by_cases h : s.state = 6 ∧ freeB pre W w s.epoch = true
 ·exact .inl ⟨h.1, h.2, by unfold clr; rw [if_pos h]⟩
 ·refine .inr ⟨by unfold clr; rw [if_neg h], fun h6 => ?_⟩
  cases hb : freeB pre W w s.epoch
  ·rfl
  ·exact absurd ⟨h6, hb⟩ h
theorem fits4_state {s : S} (h : s.state ≠ 2 ∧ s.state ≠ 3) (cl : Int) : Find.fits s 4 cl = false:=by
 simp [Find.fits, Find.swept, h.1, h.2]
theorem Turn.tidy {L L' pre pre' pre1 pre2 : List Int} {ss' : List S} (h : Turn c w cl E L pre ss L' pre' ss' pre1 pre2) (hpl : pre.length = 3 + 2 * c.workers.toNat) (hk : w < c.workers.toNat) : Tidy c w cl L' pre' ss':=by
 have hp:=h.preT hpl hk
 have hfr : ∀ ep, freeB pre' c.workers.toNat w ep = freeB pre1 c.workers.toNat w ep:=fun ep => freeB_congr (fun o q1 q2 => by
  have:=hp.2.2.2.2 o q1 q2
  exact this.1.trans this.2.1.symm) ep
 refine ⟨fun s' hs' => ?_, fun s' hs' h6 => ?_, fun hc => ?_⟩
 ·obtain ⟨i, hi⟩:=List.mem_iff_getElem?.1 hs'
  obtain ⟨s, s1, h1, h2, h3⟩:=h.slot hi
  have hb : Find.fits (clr pre1 c.workers.toNat w s1) 4 cl = false:=by
   rcases clr_state pre1 c.workers.toNat w s1 with ⟨-, -, q⟩ | ⟨q, -⟩
   ·rw [q]; exact fits4_state (by rw [(clear_facts s1 w).1]; omega) cl
   ·rw [q]
    rcases h2 with ⟨h2, rfl⟩ | ⟨h2, E', -, -, rfl⟩
    ·exact h2
    ·exact lim_unswept s E'
  rcases h3 with rfl | ⟨hc, x, h5, rfl⟩
  ·exact hb
  ·have:=(kept_facts x h5).1
   exact fits4_state (by omega) cl
 ·obtain ⟨i, hi⟩:=List.mem_iff_getElem?.1 hs'
  obtain ⟨s, s1, h1, h2, h3⟩:=h.slot hi
  rw [hfr]
  rcases h3 with rfl | ⟨hc, x, h5, rfl⟩
  ·rcases clr_state pre1 c.workers.toNat w s1 with ⟨-, -, q⟩ | ⟨q, q2⟩
   ·rw [q, (clear_facts s1 w).1] at h6; omega
   ·rw [q] at h6 ⊢; exact q2 h6
  ·have:=(kept_facts x h5).1
   omega
 ·rcases h.k with ⟨hc2, -⟩ | ⟨-, k⟩
  ·exact absurd hc hc2
  ·exact k.stop
theorem Turn.same {L L' pre pre' pre1 pre2 : List Int} {ss' : List S} (h : Turn c w cl E L pre ss L' pre' ss' pre1 pre2) (hpl : pre.length = 3 + 2 * c.workers.toNat) (hk : w < c.workers.toNat) (hT : Tidy c w cl L pre ss) (hE : rd pre 2 = E) (hp0 : rd pre (pc w) = 0) : L' = L ∧ pre' = pre ∧ ss' = ss:=by
 have hp:=h.preT hpl hk
 have hsw:=sweepAll_none cl ss E hT.sw
 have hmap : ss.map (clr pre1 c.workers.toNat w) = ss:=by
  refine (List.map_congr_left (fun s hs => ?_)).trans (List.map_id ss)
  show clr pre1 c.workers.toNat w s = s
  rcases clr_state pre1 c.workers.toNat w s with ⟨h6, q, -⟩ | ⟨q, -⟩
  ·have h7:=hT.old s hs h6
   rw [← freeB_congr (pre:=pre) (pre':=pre1) (fun o q1 q2 => (hp.2.2.2.2 o q1 q2).2.1)] at h7
   rw [h7] at q; cases q
  ·exact q
 have hpre1 : ∀ i, i ≠ pc w → rd pre1 i = rd pre i:=by
  intro i q
  rw [h.p1, hsw]
  by_cases h2 : i = 2
  ·rw [h2, rd_set_same (by simp; omega)]; exact hE.symm
  ·rw [rd_set_ne (by omega), rd_set_ne (by omega)]
 have hl1 : pre1.length = pre.length:=by rw [h.p1]; simp
 have hfin : ∀ {pre2 : List Int}, pre2 = pre1 → pre' = pre2.set (pc w) 0 → pre' = pre:=by
  intro pre2 e1 e2
  refine ext_rd hp.1 fun i hi => ?_
  by_cases q : i = pc w
  ·rw [q, hp.2.2.2.1, hp0]
  ·rw [e2, rd_set_ne (fun x => q x.symm), e1, hpre1 i q]
 have hk2:=h.k
 rw [hsw, hmap] at hk2
 rcases hk2 with ⟨hc, h1, h2, h3⟩ | ⟨hc, k⟩
 ·exact ⟨h1, hfin h2 h.p', h3⟩
 ·obtain ⟨h1, h2, h3⟩:=k.same (hT.line hc)
  exact ⟨h1, hfin h2 h.p', h3⟩
theorem alone_all (h : Pool c pre ss) (h1 : 1 ≤ ns c) (hcl : rd pre 0 = cl) (hE : rd pre 2 = E) (h0 : 0 ≤ E) (h4 : E + 2 * ss.length ≤ 4095) (hk : w < c.workers.toNat) (h8 : c.workers ≤ 8) {L : List Int} (hq : rd pre 1 = lw L) (hL : ∀ x ∈ L, 0 ≤ x ∧ x < c.workers) :
  ∃ n L' pre' ss' pre1 pre2 t', n ≤ most c L.length + 1 + (most c L'.length + 1) ∧ it n (Ty.new c w, cells pre ss) = (t', cells pre' ss') ∧ t'.st = 17 ∧ Pool c pre' ss' ∧ rd pre' 1 = lw L' ∧ (∀ x ∈ L', 0 ≤ x ∧ x < c.workers) ∧ Turn c w cl E L pre ss L' pre' ss' pre1 pre2:=by
 obtain ⟨L', pre', ss', pre1, pre2, t1, lo1, i1, a1, P1, q1, x1, T1⟩:=turn (t:=Ty.new c w) (cl:=cl) (E:=E) (w:=w) h h1 rfl rfl rfl hcl hE h0 (by omega) hk h8 hq hL
 have hp:=T1.preT h.pl hk
 have hsl:=sweepAll_len cl ss E
 have hr2 : rd (cells pre' ss') 2 = (sweepAll cl E ss).1:=by rw [rd_pre P1 (by omega)]; exact hp.2.2.1
 by_cases he : (sweepAll cl E ss).1 = E
 ·have s2 : t1.step (cells pre' ss') = ({ t1 with st:=17 }, cells pre' ss', 1):=by
   unfold Ty.step; rw [a1.st]; simp only [hr2, a1.e, he, if_true]
  obtain ⟨n, hn, hi⟩:=i1.trans (In.one s2)
  exact ⟨n, L', pre', ss', pre1, pre2, _, by omega, hi, rfl, P1, q1, x1, T1⟩
 ·have s2 : t1.step (cells pre' ss') = ({ t1 with st:=0 }, cells pre' ss', 1):=by
   unfold Ty.step; rw [a1.st]; simp only [hr2, a1.e, he, if_false]
  have hlen : ss'.length = ss.length:=by rw [P1.sl, h.sl]
  obtain ⟨L2, pre3, ss3, pre4, pre5, t3, lo3, i3, a3, P3, q3, x3, T3⟩:=turn (t:={ t1 with st:=0 }) (cl:=cl) (E:=(sweepAll cl E ss).1) (w:=w) P1 h1 a1.cf a1.w rfl (hp.2.1.trans hcl) hp.2.2.1 (by omega) (by omega) hk h8 q1 x1
  obtain ⟨e1, e2, e3⟩:=T3.same P1.pl hk (T1.tidy h.pl hk) hp.2.2.1 hp.2.2.2.1
  rw [e2, e3] at i3
  have s4 : t3.step (cells pre' ss') = ({ t3 with st:=17 }, cells pre' ss', 1):=by
   unfold Ty.step; rw [a3.st]; simp only [hr2, a3.e, if_true]
  obtain ⟨n, hn, hi⟩:=((i1.trans (In.one s2)).trans i3).trans (In.one s4)
  exact ⟨n, L', pre', ss', pre1, pre2, _, by omega, hi, rfl, P1, q1, x1, T1⟩
end
section
variable {c : Conf.Cf} {pre pre' pre1 pre2 : List Int} {ss ss' : List S} {t : Ty} {kd ow wd cl e E : Int} {k w : Nat} {L L' : List Int}
theorem leaves1 (hT : Tidy c w cl L' pre' ss') (hcl : cl = 0 ∨ cl = 1 ∨ cl = 2) {s : S} (hs : s ∈ ss') : ¬ (s.state = 2 ∧ (s.broken = true ∨ cl ≠ 0)) ∧ ¬ (s.state = 3 ∧ cl = 2) ∧ ¬ (s.state = 6 ∧ freeB pre' c.workers.toNat w s.epoch = true):=by
 have h1:=hT.sw s hs
 refine ⟨?_, ?_, ?_⟩
 ·rintro ⟨h2, h3⟩
  simp [Find.fits, Find.swept, h2] at h1
  rcases h3 with h3 | h3
  ·rw [h1.1] at h3; cases h3
  ·omega
 ·rintro ⟨h2, h3⟩
  simp [Find.fits, Find.swept, h2, h3] at h1
 ·rintro ⟨h2, h3⟩
  rw [hT.old s hs h2] at h3; cases h3
theorem leaves2 (hT : Tidy c w cl L' pre' ss') (hc : cl = 0) (hq : lw L' ≠ 0) {s : S} (hs : s ∈ ss') : ¬ (s.state = 2 ∨ s.state = 0):=by
 rcases hT.line hc with h | h
 ·rw [h] at hq; exact absurd rfl hq
 ·obtain ⟨i, hi⟩:=List.mem_iff_getElem?.1 hs
  have h1:=h i s hi
  have h2:=hT.sw s hs
  rintro (h3 | h3)
  ·simp [Find.fits, Find.swept, Find.sound, h3] at h1 h2
   rw [h1] at h2
   simp at h2
  ·simp [Find.fits, Find.sound, h3] at h1
theorem Turn.len (h : Turn c w cl E L pre ss L' pre' ss' pre1 pre2) : ss'.length = ss.length:=by
 rcases h.k with ⟨-, -, -, rfl⟩ | ⟨-, k⟩
 ·rw [List.length_map, (sweepAll_len cl ss E).1]
 ·rw [k.preL.2.2, List.length_map, (sweepAll_len cl ss E).1]
theorem Turn.slot' (h : Turn c w cl E L pre ss L' pre' ss' pre1 pre2) {i : Nat} {s : S} (hs : ss[i]? = some s) :
  ∃ s' s1, ss'[i]? = some s' ∧ ((Find.fits s 4 cl = false ∧ s1 = s) ∨ (Find.fits s 4 cl = true ∧ ∃ E', E ≤ E' ∧ E' < E + ss.length ∧ s1 = lim s E')) ∧
   (s' = clr pre1 c.workers.toNat w s1 ∨ cl = 0 ∧ ∃ x, Find.fits (clr pre1 c.workers.toNat w s1) 3 w = true ∧ s' = keptV (clr pre1 c.workers.toNat w s1) x):=by
 have hlt : i < ss'.length:=by rw [h.len]; exact (List.getElem?_eq_some_iff.1 hs).1
 obtain ⟨s0, s1, h1, h2, h3⟩:=h.slot (List.getElem?_eq_getElem hlt)
 rw [hs] at h1
 cases h1
 exact ⟨_, s1, List.getElem?_eq_getElem hlt, h2, h3⟩
theorem keeps (h : Turn c w cl E L pre ss L' pre' ss' pre1 pre2) {i : Nat} {s : S} (hs : ss[i]? = some s) (hk : s.state = 3 ∧ cl ≠ 2 ∨ s.state = 1 ∨ s.state = 4 ∨ s.state = 5) : ss'[i]? = some s:=by
 obtain ⟨s', s1, h1, h2, h3⟩:=h.slot' hs
 have hf : Find.fits s 4 cl = false:=by
  simp [Find.fits, Find.swept]
  split
  ·omega
  ·intro h5; omega
 rcases h2 with ⟨-, rfl⟩ | ⟨h2, -⟩
 ·have hc : clr pre1 c.workers.toNat w s1 = s1:=clr_other (by omega) _
  rw [hc] at h3
  rcases h3 with rfl | ⟨-, x, h4, -⟩
  ·exact h1
  ·have:=fits3 h4
   omega
 ·rw [hf] at h2; cases h2
def gone (s s' : S) : Bool:=(s.state == 2 || s.state == 3) && (s'.state != 2 && (s'.state != 3 && s'.state != 4))
theorem gone_iff (h : Turn c w cl E L pre ss L' pre' ss' pre1 pre2) {i : Nat} {s s' : S} (hs : ss[i]? = some s) (hs' : ss'[i]? = some s') : gone s s' = Find.fits s 4 cl ∧ s'.gen = s.gen:=by
 obtain ⟨s0, s1, h1, h2, h3⟩:=h.slot' hs
 rw [hs'] at h1
 cases h1
 have hcg : ∀ s1 : S, (clr pre1 c.workers.toNat w s1).gen = s1.gen:=by
  intro s1
  rcases clr_state pre1 c.workers.toNat w s1 with ⟨-, -, q⟩ | ⟨q, -⟩
  ·rw [q]; rfl
  ·rw [q]
 have hgen : s'.gen = (clr pre1 c.workers.toNat w s1).gen:=by
  rcases h3 with rfl | ⟨-, x, h4, rfl⟩
  ·rfl
  ·exact (kept_facts x h4).2.2
 rcases h2 with ⟨hf, rfl⟩ | ⟨hf, E', -, -, rfl⟩
 ·refine ⟨?_, hgen.trans (hcg _)⟩
  rw [hf]
  rcases clr_state pre1 c.workers.toNat w s1 with ⟨h6, -, q⟩ | ⟨q, -⟩
  ·unfold gone
   simp [h6]
  ·rw [q] at h3
   rcases h3 with rfl | ⟨-, x, h4, rfl⟩
   ·unfold gone
    by_cases a : s'.state = 2 <;> by_cases b : s'.state = 3 <;> simp [a, b]
   ·have:=(kept_facts x h4).1
    unfold gone
    rcases this with ⟨q1, q2⟩ | ⟨q1, q2⟩ <;> simp [q1, q2]
 ·refine ⟨?_, (hgen.trans (hcg _)).trans rfl⟩
  rw [hf]
  have hst:=swept_state hf
  have h0 : (clr pre1 c.workers.toNat w (lim s E')).state = 6 ∨ (clr pre1 c.workers.toNat w (lim s E')).state = 0:=by
   rcases clr_state pre1 c.workers.toNat w (lim s E') with ⟨-, -, q⟩ | ⟨q, -⟩
   ·rw [q]; exact .inr rfl
   ·rw [q]; exact .inl rfl
  have h5 : s'.state = 6 ∨ s'.state = 0 ∨ s'.state = 5:=by
   rcases h3 with rfl | ⟨-, x, h4, rfl⟩
   ·rcases h0 with h0 | h0
    ·exact .inl h0
    ·exact .inr (.inl h0)
   ·have:=(kept_facts x h4).1
    omega
  unfold gone
  rcases hst with a | a <;> rcases h5 with b | b | b <;> simp [a, b]
def goneN : List S → List S → Int
 | s :: ss, s' :: ss' => (if gone s s' then 1 else 0) + goneN ss ss'
 | _, _ => 0
theorem sweep_count (cl : Int) : ∀ (ss ss' : List S) (E : Int), ss.length = ss'.length → (∀ (i : Nat) s s', ss[i]? = some s → ss'[i]? = some s' → gone s s' = Find.fits s 4 cl) → (sweepAll cl E ss).1 = E + goneN ss ss':=by
 intro ss
 induction ss with
 | nil => intro ss' E h _; cases ss' <;> simp [sweepAll, goneN]
 | cons s ss ih =>
  intro ss' E h hg
  cases ss' with
  | nil => simp at h
  | cons s' ss' =>
   have h0:=hg 0 s s' rfl rfl
   have hi:=fun E => ih ss' E (by simpa using h) (fun i a b ha hb => hg (i + 1) a b (by simpa using ha) (by simpa using hb))
   cases hf : Find.fits s 4 cl <;> simp only [sweepAll, goneN, h0, hf, if_true, Bool.false_eq_true, if_false] <;> rw [hi] <;> omega
theorem epochs (h : Turn c w cl E L pre ss L' pre' ss' pre1 pre2) (hpl : pre.length = 3 + 2 * c.workers.toNat) (hk : w < c.workers.toNat) : rd pre' 2 = E + goneN ss ss':=by
 rw [(h.preT hpl hk).2.2.1]
 exact sweep_count cl ss ss' E h.len.symm fun i s s' h1 h2 => (gone_iff h h1 h2).1
theorem no_limbo (hT : Tidy c w cl L' pre' ss') (hp : ∀ o, o < c.workers.toNat → rd pre' (3 + o) = 0) {s : S} (hs : s ∈ ss') : s.state ≠ 6:=by
 intro h6
 have h1:=hT.old s hs h6
 have : freeB pre' c.workers.toNat w s.epoch = true:=freeB_iff.2 fun o h1 _ => by
  have:=hp o h1
  unfold rd at this
  rw [this]
  simp [blocks]
 rw [this] at h1; cases h1
theorem Tidy.other (hT : Tidy c w cl L' pre' ss') (hp : ∀ o, o < c.workers.toNat → rd pre' (3 + o) = 0) (w2 : Nat) : Tidy c w2 cl L' pre' ss' :=
 ⟨hT.sw, fun s hs h6 => absurd h6 (no_limbo hT hp hs), fun hc => (hT.line hc).imp id fun h i s hs => h i s hs⟩
structure Grants (c : Conf.Cf) (w : Nat) (L pre : List Int) (ss : List S) (L' pre' : List Int) (ss' : List S) (js : List Nat) : Prop where
 nd : js.Nodup
 len : js.length ≤ L.length
 rest : L' = L.drop js.length
 got : ∀ (i j : Nat) x, js[i]? = some j → L[i]? = some x → rd pre' (gc c x.toNat) = j + 1 ∧ ∃ s', ss'[j]? = some s' ∧ (s'.state = 4 ∨ s'.state = 5) ∧ s'.own = x
 none : ∀ x, x ∉ L.take js.length → 0 ≤ x → rd pre' (gc c x.toNat) = rd pre (gc c x.toNat)
 same : ∀ j, j ∉ js → ss'[j]? = ss[j]?
 fit : ∀ j, j ∈ js → ∃ s, ss[j]? = some s ∧ Find.fits s 3 w = true
theorem Kept.grants (h : Kept c w L pre ss L' pre' ss') (hnd : L.Nodup) (hL : ∀ x ∈ L, 0 ≤ x ∧ x < c.workers) (hpl : pre.length = 3 + 2 * c.workers.toNat) : ∃ js, Grants c w L pre ss L' pre' ss' js:=by
 induction h with
 | nil pre ss => exact ⟨[], List.nodup_nil, Nat.zero_le _, rfl, fun i j x h => (by simp at h), fun _ _ _ => rfl, fun _ _ => rfl, fun j h => (by simp at h)⟩
 | none x L pre ss h => exact ⟨[], List.nodup_nil, Nat.zero_le _, rfl, fun i j x h => (by simp at h), fun _ _ _ => rfl, fun _ _ => rfl, fun j h => (by simp at h)⟩
 | take x L pre ss j s L' pre' ss' h1 h2 h3 ih =>
  have hx:=hL x (by simp)
  have hnd2:=List.nodup_cons.1 hnd
  obtain ⟨js, g⟩:=ih hnd2.2 (fun y hy => hL y (by simp [hy])) (by simpa using hpl)
  have hfs : Find.fits s 3 w = true:=by
   obtain ⟨s0, q1, q2, -⟩:=h1
   rw [h2] at q1; cases q1; exact q2
  have hj : j < ss.length:=(List.getElem?_eq_some_iff.1 h2).1
  have hkf:=kept_facts x hfs
  have hnj : j ∉ js:=by
   intro hm
   obtain ⟨s1, q1, q2⟩:=g.fit j hm
   rw [List.getElem?_set_self hj] at q1
   cases q1
   have:=fits3 q2
   omega
  have hset : ∀ y : Int, 0 ≤ y → y ≠ x → rd ((pre.set 1 (lw L)).set (gc c x.toNat) (j + 1)) (gc c y.toNat) = rd pre (gc c y.toNat):=by
   intro y h0 hne
   rw [rd_set_ne (by unfold gc; omega), rd_set_ne (by unfold gc; omega)]
  refine ⟨j :: js, List.nodup_cons.2 ⟨hnj, g.nd⟩, by have:=g.len; simp; omega, by rw [g.rest]; simp, ?_, ?_, ?_, ?_⟩
  ·intro i j' y hj' hy
   cases i with
   | zero =>
    simp at hj' hy
    subst hj'
    subst hy
    have hxn : x ∉ L.take js.length:=fun hm => hnd2.1 (List.mem_of_mem_take hm)
    refine ⟨?_, keptV s x, ?_, by omega, hkf.2.1⟩
    ·rw [g.none x hxn hx.1, rd_set_same (by simp; unfold gc; omega)]
    ·rw [g.same j hnj, List.getElem?_set_self hj]
   | succ i => exact g.got i j' y (by simpa using hj') (by simpa using hy)
  ·intro y hy h0
   simp only [List.length_cons, List.take_succ_cons, List.mem_cons, not_or] at hy
   rw [g.none y hy.2 h0, hset y h0 hy.1]
  ·intro i hi
   simp only [List.mem_cons, not_or] at hi
   rw [g.same i hi.2, List.getElem?_set_ne (fun q => hi.1 q.symm)]
  ·intro i hi
   rcases List.mem_cons.1 hi with rfl | hi
   ·exact ⟨s, h2, hfs⟩
   ·obtain ⟨s1, q1, q2⟩:=g.fit i hi
    have hne : j ≠ i:=fun q => hnj (q ▸ hi)
    rw [List.getElem?_set_ne hne] at q1
    exact ⟨s1, q1, q2⟩
theorem nodup_inj : ∀ {L : List Int}, L.Nodup → ∀ {i j : Nat} {x : Int}, L[i]? = some x → L[j]? = some x → i = j:=by
 intro L
 induction L with
 | nil => intro _ i j x h; simp at h
 | cons y L ih =>
  intro hn i j x h1 h2
  have hn:=List.nodup_cons.1 hn
  cases i with
  | zero =>
   cases j with
   | zero => rfl
   | succ j =>
    simp at h1 h2
    subst h1
    exact absurd (List.mem_of_getElem? h2) hn.1
  | succ i =>
   cases j with
   | zero =>
    simp at h1 h2
    subst h2
    exact absurd (List.mem_of_getElem? h1) hn.1
   | succ j => exact congrArg Nat.succ (ih hn.2 (i:=i) (j:=j) (x:=x) (by simpa using h1) (by simpa using h2))
structure Granted (c : Conf.Cf) (cl : Int) (L : List Int) (ss : List S) (L' pre' : List Int) (ss' : List S) (js : List Nat) : Prop where
 nd : js.Nodup
 len : js.length ≤ L.length
 rest : L' = L.drop js.length
 lt : ∀ j ∈ js, j < ss.length
 got : ∀ (i j : Nat) x, js[i]? = some j → L[i]? = some x → rd pre' (gc c x.toNat) = j + 1 ∧ ∃ s', ss'[j]? = some s' ∧ (s'.state = 4 ∨ s'.state = 5) ∧ s'.own = x
 none : ∀ (i : Nat) x, js.length ≤ i → L[i]? = some x → rd pre' (gc c x.toNat) = 0
 same : ∀ (j : Nat) s', j ∉ js → ss'[j]? = some s' → s'.state = 4 ∨ s'.state = 5 → ss[j]? = some s'
 shut : cl = 0 ∨ js = []
theorem grants (h : Turn c w cl E L pre ss L' pre' ss' pre1 pre2) (hpl : pre.length = 3 + 2 * c.workers.toNat) (hk : w < c.workers.toNat) (hnd : L.Nodup) (hL : ∀ x ∈ L, 0 ≤ x ∧ x < c.workers) (h0 : ∀ o, o < c.workers.toNat → rd pre (gc c o) = 0) :
  ∃ js, Granted c cl L ss L' pre' ss' js:=by
 have hsame2 : ∀ (j : Nat) s', ((sweepAll cl E ss).2.map (clr pre1 c.workers.toNat w))[j]? = some s' → s'.state = 4 ∨ s'.state = 5 → ss[j]? = some s':=by
  intro j s' hs' h45
  rw [List.getElem?_map] at hs'
  obtain ⟨s1, q1, rfl⟩:=Option.map_eq_some_iff.1 hs'
  obtain ⟨s, q2, q3⟩:=sweepAll_get cl ss E j s1 q1
  rcases clr_state pre1 c.workers.toNat w s1 with ⟨-, -, q⟩ | ⟨q, -⟩
  ·rw [q, (clear_facts s1 w).1] at h45; omega
  ·rw [q] at h45 ⊢
   rcases q3 with ⟨-, rfl⟩ | ⟨-, E', -, -, rfl⟩
   ·exact q2
   ·rw [(lim_facts s E').1] at h45; omega
 have hgr1 : ∀ o, o < c.workers.toNat → rd pre1 (gc c o) = 0:=by
  intro o ho
  rw [h.p1, rd_set_ne (by unfold gc; omega), rd_set_ne (by unfold gc pc; omega)]
  exact h0 o ho
 have hgr2 : ∀ o, o < c.workers.toNat → rd pre' (gc c o) = rd pre2 (gc c o):=by
  intro o ho
  rw [h.p', rd_set_ne (by unfold gc pc; omega)]
 rcases h.k with ⟨hc, h1, h2, h3⟩ | ⟨hc, hK⟩
 ·refine ⟨[], List.nodup_nil, Nat.zero_le _, by rw [h1]; rfl, fun j h => (by simp at h), fun i j x h => (by simp at h), ?_, ?_, .inr rfl⟩
  ·intro i x _ hx
   have:=hL x (List.mem_of_getElem? hx)
   rw [hgr2 _ (by omega), h2]
   exact hgr1 _ (by omega)
  ·intro j s' _ hs' h45
   rw [h3] at hs'
   exact hsame2 j s' hs' h45
 ·obtain ⟨js, g⟩:=hK.grants hnd hL (by rw [h.p1]; simpa using hpl)
  refine ⟨js, g.nd, g.len, g.rest, ?_, ?_, ?_, ?_, .inl hc⟩
  ·intro j hj
   obtain ⟨s, q1, -⟩:=g.fit j hj
   have:=(List.getElem?_eq_some_iff.1 q1).1
   rwa [List.length_map, (sweepAll_len cl ss E).1] at this
  ·intro i j x hj hx
   have:=hL x (List.mem_of_getElem? hx)
   rw [hgr2 _ (by omega)]
   exact g.got i j x hj hx
  ·intro i x hi hx
   have hb:=hL x (List.mem_of_getElem? hx)
   have hnt : x ∉ L.take js.length:=by
    intro hm
    obtain ⟨k, hk2⟩:=List.mem_iff_getElem?.1 hm
    rw [List.getElem?_take] at hk2
    split at hk2
    ·rename_i hlt
     have:=nodup_inj hnd hk2 hx
     omega
    ·cases hk2
   rw [hgr2 _ (by omega), g.none x hnt hb.1]
   exact hgr1 _ (by omega)
  ·intro j s' hj hs' h45
   rw [g.same j hj] at hs'
   exact hsame2 j s' hs' h45
end
def dg (q : Int) : Nat → Int
 | 0 => q
 | k + 1 => dg (q / 16) k
def LineOk (c : Conf.Cf) (q : Int) : Prop:=∀ k, 0 < dg q k → 1 ≤ dg q k % 16 ∧ dg q k % 16 ≤ c.workers
structure MemOk (c : Conf.Cf) (ws : List Int) : Prop where
 p : ∀ o : Nat, o < c.workers.toNat → rd ws (pc o) ≤ 9223372036854775807
 q : rd ws 1 ≤ 9223372036854775807
 l : LineOk c (rd ws 1)
section
variable {c : Conf.Cf} {ws : List Int} {t : Ty}
theorem MemOk.qok (h : MemOk c ws) : QOk c ws:=fun h0 => h.l 0 h0
theorem LineOk.pop {q : Int} (h : LineOk c q) : LineOk c (q / 16):=fun k hk => h (k + 1) hk
theorem lineOk_lw : ∀ {L : List Int}, (∀ x ∈ L, 0 ≤ x ∧ x < c.workers) → c.workers ≤ 8 → LineOk c (lw L):=by
 intro L
 induction L with
 | nil =>
  intro _ _ k hk
  have : ∀ k, dg 0 k = 0:=by
   intro k
   induction k with
   | zero => rfl
   | succ k ih => exact ih
  simp only [lw] at hk
  rw [this] at hk
  omega
 | cons x L ih =>
  intro h h8 k hk
  have hx:=h x (by simp)
  have hL:=ih (fun y hy => h y (by simp [hy])) h8
  have h0 : 0 ≤ lw L:=lw_nonneg fun y hy => (h y (by simp [hy])).1
  cases k with
  | zero => simp only [dg, lw] at hk ⊢; omega
  | succ k =>
   have e : dg (lw (x :: L)) (k + 1) = dg (lw L) k:=by
    show dg (lw (x :: L) / 16) k = _
    rw [show lw (x :: L) / 16 = lw L by simp only [lw]; omega]
   rw [e] at hk ⊢
   exact hL k hk
theorem wrap_le (x : Int) : wrap64 x ≤ 9223372036854775807:=by unfold wrap64; omega
theorem MemOk.hi (h : MemOk c ws) {i : Nat} (hi : 3 + c.workers.toNat ≤ i) (x : Int) : MemOk c (ws.set i x) :=
 ⟨fun o ho => by rw [rd_set_ne (by unfold pc; omega)]; exact h.p o ho, by rw [rd_set_ne (by omega)]; exact h.q, by rw [rd_set_ne (by omega)]; exact h.l⟩
theorem MemOk.two (h : MemOk c ws) (x : Int) : MemOk c (ws.set 2 x) :=
 ⟨fun o ho => by rw [rd_set_ne (by unfold pc; omega)]; exact h.p o ho, by rw [rd_set_ne (by omega)]; exact h.q, by rw [rd_set_ne (by omega)]; exact h.l⟩
theorem MemOk.pin (h : MemOk c ws) {i : Nat} (hi : 3 ≤ i) {x : Int} (hx : x ≤ 9223372036854775807) : MemOk c (ws.set i x):=by
 refine ⟨fun o ho => ?_, by rw [rd_set_ne (by omega)]; exact h.q, by rw [rd_set_ne (by omega)]; exact h.l⟩
 by_cases e : i = pc o
 ·subst e
  by_cases hl : pc o < ws.length
  ·rw [rd_set_same hl]; exact hx
  ·rw [List.set_eq_of_length_le (by omega)]; exact h.p o ho
 ·rw [rd_set_ne e]; exact h.p o ho
theorem MemOk.cas (h : MemOk c ws) {i : Nat} (hi : 3 + c.workers.toNat ≤ i) (a b : Int) : MemOk c (Tk.cas ws i a b).2:=by
 unfold Tk.cas
 split
 ·exact h.hi hi _
 ·exact h
theorem MemOk.pop (h : MemOk c ws) (hl : 1 < ws.length) (q : Int) : MemOk c (Tk.cas ws 1 q (q / 16)).2:=by
 unfold Tk.cas
 split
 ·rename_i e
  have h1:=h.q
  have h2:=h.l
  rw [e] at h1 h2
  refine ⟨fun o ho => by rw [rd_set_ne (by unfold pc; omega)]; exact h.p o ho, ?_, ?_⟩
  ·rw [rd_set_same hl]; omega
  ·rw [rd_set_same hl]; exact h2.pop
 ·exact h
def RtIn (t : Ty) : Prop:=∀ r, t.rt = some r → 3 + t.cf.workers.toNat ≤ r.cell
theorem rt_cell (r : Rt) (ws : List Int) : (r.step ws).2.1.cell = r.cell:=by
 unfold Rt.step
 split <;> (try split) <;> (try split) <;> rfl
theorem MemOk.rt (h : MemOk c ws) {r : Rt} (hr : 3 + c.workers.toNat ≤ r.cell) : MemOk c (r.step ws).2.2.1:=by
 unfold Rt.step
 split
 ·split
  ·split
   ·exact h.hi hr _
   ·exact h
  ·exact h
 ·exact h
 ·split
  ·exact h.cas hr _ _
  ·exact h
 ·exact h.two _
 ·exact h
theorem MemOk.swap (h : MemOk t.cf ws) (d : Nat) (own : Int) : MemOk t.cf (t.swap d own ws).2.1:=by
 unfold Ty.swap
 split
 ·exact h.cas (by unfold sc; omega) _ _
 ·exact h
theorem seek_rt (t : Ty) (ws : List Int) : (t.seek ws).2.2.1.rt = t.rt ∧ (t.seek ws).2.2.1.cf = t.cf:=by
 unfold Ty.seek
 dsimp only
 split <;> exact ⟨rfl, rfl⟩
theorem RtIn.step (h : RtIn t) (hr : t.st = 4 → ∃ r, t.rt = some r) : RtIn (t.step ws).1:=by
 have hs:=seek_rt t ws
 have h4 : t.st = 4 → RtIn (t.step ws).1:=by
  intro hk
  obtain ⟨r, hr⟩:=hr hk
  have hret : t.ret = r:=by unfold Ty.ret; rw [hr]; rfl
  have hc:=h r hr
  have hcell:=rt_cell r ws
  rw [st_4 hk, hret]
  dsimp only
  split
  ·intro r' e; cases e; rw [hcell]; exact hc
  ·intro r' e; cases e; rw [hcell]; exact hc
 have h3 : t.st = 3 → RtIn (t.step ws).1:=by
  intro hk
  rw [st_3 hk]
  dsimp only
  split
  ·intro r e
   cases e
   rw [show ({ (t.seek ws).2.2.1 with rt:=some (Rt.new (sc t.cf (t.seek ws).2.2.1.i) (t.seek ws).2.2.1.word), st:=4 } : Ty).cf = t.cf from hs.2]
   simp only [Rt.new, sc]
   omega
  ·split
   ·intro r e
    rw [show ((t.seek ws).2.2.1.search 5 5 t.w).cf = t.cf from hs.2]
    exact h r (by rw [← hs.1]; exact e)
   ·intro r e
    rw [hs.2]
    exact h r (by rw [← hs.1]; exact e)
 by_cases e3 : t.st = 3
 ·exact h3 e3
 by_cases e4 : t.st = 4
 ·exact h4 e4
 have key : (t.step ws).1.rt = t.rt ∧ (t.step ws).1.cf = t.cf:=by
  unfold Ty.step
  split <;> (try dsimp only [Ty.search, Ty.again, Ty.go, Ty.another]) <;> (try (exfalso; first | exact e3 (by assumption) | exact e4 (by assumption))) <;> (repeat' split) <;> first | exact ⟨rfl, rfl⟩ | exact hs
 intro r e
 rw [key.2]
 exact h r (by rw [← key.1]; exact e)
theorem MemOk.step (h : MemOk t.cf ws) (hok : TyOk t ws.length) (hi : RtIn t) : MemOk t.cf (t.step ws).2.1:=by
 have hst:=hok.st
 have hl : 1 < ws.length:=by have:=hok.len; omega
 have hcases : t.st = 0 ∨ t.st = 1 ∨ t.st = 2 ∨ t.st = 3 ∨ t.st = 4 ∨ t.st = 5 ∨ t.st = 6 ∨ t.st = 7 ∨ t.st = 8 ∨ t.st = 9 ∨ t.st = 10 ∨ t.st = 11 ∨ t.st = 12 ∨ t.st = 13 ∨ t.st = 14 ∨ t.st = 15 ∨ t.st = 16 ∨ t.st = 17:=by omega
 rcases hcases with hk | hk | hk | hk | hk | hk | hk | hk | hk | hk | hk | hk | hk | hk | hk | hk | hk | hk
 ·rw [st_0 hk]; exact h
 ·rw [st_1 hk]; exact h.pin (by unfold pc; omega) (wrap_le _)
 ·rw [st_2 hk]; exact h
 ·rw [st_3 hk]; dsimp only; (repeat' split) <;> exact h
 ·obtain ⟨r, hr⟩:=hok.hasr hk
  have hret : t.ret = r:=by unfold Ty.ret; rw [hr]; rfl
  rw [st_4 hk, hret]
  have:=h.rt (hi r hr)
  dsimp only
  split <;> exact this
 ·rw [st_5 hk]; dsimp only; (repeat' split) <;> exact h
 ·rw [st_6 hk]; dsimp only; (repeat' split) <;> exact h
 ·rw [st_7 hk]; exact h.swap _ _
 ·rw [st_8 hk]; split <;> exact h
 ·rw [st_9 hk]; dsimp only; (repeat' split) <;> exact h
 ·rw [st_10 hk]
  generalize (if t.is = 2 then (5 : Nat) else 7) = d
  dsimp only; split <;> exact h.swap _ _
 ·rw [st_11 hk]; dsimp only; split <;> exact h.pop hl _
 ·rw [st_12 hk]; exact h.hi (by unfold gc; omega) _
 ·rw [st_13 hk]; dsimp only; split <;> exact h
 ·rw [st_14 hk]
  generalize (if t.is = 4 then (6 : Nat) else 8) = d
  dsimp only; split <;> exact h.swap _ _
 ·rw [st_15 hk]; exact h.pin (by unfold pc; omega) (by omega)
 ·rw [st_16 hk]; split <;> exact h
 ·rw [st_17 hk]; exact h
theorem fin_of {n : Nat} {x : Ty × List Int} {t' : Ty} {ws' : List Int} (h : it n x = (t', ws')) (h17 : t'.st = 17) (hn : n ≤ 2000) : it 2000 x = (t', ws'):=by
 rw [show 2000 = n + (2000 - n) by omega, it_add, h]
 exact it_done _ h17
theorem step_touch (t : Ty) (ws : List Int) : (t.step ws).2.2 ≤ 1:=by
 have hf : ∀ (f : Tk.Fd) (c : Conf.Cf), (f.step c ws).2.2 ≤ 1:=by
  intro f c
  unfold Fd.step
  split
  ·exact Nat.zero_le _
  ·split <;> exact Nat.le_refl _
 have hs : (t.seek ws).2.2.2 ≤ 1:=hf _ _
 have hr : (t.ret.step ws).2.2.2 ≤ 1:=by
  unfold Rt.step
  split <;> (try split) <;> (try split) <;> simp
 have hw : ∀ d own, (t.swap d own ws).2.2 ≤ 1:=by
  intro d own
  unfold Ty.swap
  split <;> simp
 unfold Ty.step
 split <;> (try dsimp only) <;> (repeat' split) <;> first | exact Nat.le_refl _ | exact hs | exact hr | exact hw _ _ | exact Nat.zero_le _
end
end Go.Proofs.YteadpgiffpfmnaaGreatDoor.Ty
namespace Go.Proofs.YteadpgiffpfmnaaGreatDoor.Cl
open Go.RowKit Hp RowL Conf
theorem slice_at {w : World} {a : Option Addr} {c : Nat} {l : List Int} (h : SliceAt w (.slice a l.length c) (l.map (Value.int .i64))) {k : Nat} (hk : k < l.length) :
  ∃ g off, a = some ⟨g, off, none⟩ ∧ w.cell? ⟨g, off + k, none⟩ = some (.i l[k]):=by
 obtain ⟨a', c', he, h1, h2⟩:=h
 injection he with e1 e2 e3
 subst e1
 rcases h2 with h2 | ⟨g, off, rfl, h3⟩
 ·have hz : l = []:=by
   cases l
   ·rfl
   ·simp at h2
  subst hz
  simp at hk
 ·exact ⟨g, off, rfl, h3 k _ (by rw [List.getElem?_map, List.getElem?_eq_getElem hk]; rfl)⟩
theorem has_any (w : World) (a : Option Addr) (c : Nat) (l : List Int) (who : Int) (h : SliceAt w (.slice a l.length c) (l.map (Value.int .i64))) (hl : l.length ≤ 1000) :
  Calls Tryz.prog 33 #[.slice a l.length c, .i who] w fun e w' => e = .returned (.bool (decide (who ∈ l))) ∧ w = w':=by
 go_enter Tryz.func33, Tryz.ntmps33
 go_wp2_with fail
 go_loopw [5] (fun i wr => ∃ k : Nat, k ≤ l.length ∧ i = .i k ∧ w = wr ∧ who ∉ l.take k) (fun i _ => l.length - (intOf i).toNat)
 case atStart => exact ⟨0, by omega, rfl, rfl, by simp⟩
 case round =>
  obtain ⟨k, hk, rfl, rfl, hn⟩:=hrel
  by_cases hlt : k < l.length
  ·obtain ⟨g, off, rfl, hc⟩:=slice_at h hlt
   have k0 : (0 : Int) ≤ (k : Int):=by omega
   have k1 : (k : Int) < (l.length : Int):=by omega
   have k2 : k ≤ 1000:=by omega
   have htk : l.take (k + 1) = l.take k ++ [l[k]]:=by rw [List.take_add_one, List.getElem?_eq_getElem hlt]; rfl
   have hmem : l[k] ∈ l:=List.getElem_mem hlt
   generalize l[k] = x at *
   by_cases hx : x = who
   ·subst hx
    have H:=Lib.hid hmem
    clear htk hn hmem
    go_wp2_with fail
    go_ret
    exact ⟨Base.ret_bool (by rw [decide_eq_true H.out]), rfl⟩
   ·have hxb : (x == who) = false:=by simpa using hx
    have hn2 : who ∉ l.take (k + 1):=by rw [htk]; simp [hn]; exact fun e => hx e.symm
    have H:=Lib.hid hn2
    clear htk hn hmem hn2
    go_wp2_with fail
    go_roundw
    case rel => exact ⟨k + 1, by omega, by go_num, by first | rfl | trivial, H.out⟩
    case measure => simp [intOf]; omega
  ·have hke : k = l.length:=by omega
   subst hke
   rw [List.take_length] at hn
   have H:=Lib.hid hn
   clear hn
   go_wp2_with fail
   go_ret
   exact ⟨Base.ret_bool (by rw [decide_eq_false H.out]), rfl⟩
theorem lw_snoc (x : Int) : ∀ l : List Int, Ty.lw (l ++ [x]) = Ty.lw l + (x + 1) * 16 ^ l.length:=by
 intro l
 induction l with
 | nil => simp [Ty.lw]
 | cons y l ih =>
  simp only [List.cons_append, Ty.lw, ih, List.length_cons]
  rw [Int.pow_succ, Int.mul_add, ← Int.mul_assoc, Int.mul_comm 16 (x + 1), Int.mul_assoc, Int.mul_comm 16 (16 ^ l.length)]
  omega
theorem lw_bound : ∀ l : List Int, (∀ x ∈ l, 0 ≤ x ∧ x ≤ 14) → 0 ≤ Ty.lw l ∧ Ty.lw l < 16 ^ l.length:=by
 intro l
 induction l with
 | nil => intro _; simp [Ty.lw]
 | cons y l ih =>
  intro h
  have hy:=h y (by simp)
  have hl:=ih fun x hx => h x (by simp [hx])
  simp only [Ty.lw, List.length_cons]
  rw [Int.pow_succ]
  omega
theorem pow_bound {k : Nat} (h : k ≤ 8) : 1 ≤ (16 : Int) ^ k ∧ (16 : Int) ^ k ≤ 4294967296:=by
 have hc : k = 0 ∨ k = 1 ∨ k = 2 ∨ k = 3 ∨ k = 4 ∨ k = 5 ∨ k = 6 ∨ k = 7 ∨ k = 8:=by omega
 rcases hc with rfl | rfl | rfl | rfl | rfl | rfl | rfl | rfl | rfl <;> decide
theorem mul_bound {x p : Int} (hx : 0 ≤ x ∧ x ≤ 14) (hp : 1 ≤ p ∧ p ≤ 4294967296) : 0 ≤ (x + 1) * p ∧ (x + 1) * p ≤ 64424509440:=by
 refine ⟨Int.mul_nonneg (by omega) (by omega), ?_⟩
 have h1 : (x + 1) * p ≤ 15 * p:=Int.mul_le_mul_of_nonneg_right (by omega) (by omega)
 omega
theorem wrap_id {x : Int} (h : 0 ≤ x ∧ x ≤ 1000000000000) : wrap64 x = x:=by unfold wrap64; omega
theorem line_word_any (w : World) (a : Option Addr) (c : Nat) (l : List Int) (h : SliceAt w (.slice a l.length c) (l.map (Value.int .i64))) (hl : l.length ≤ 8) (hx : ∀ x ∈ l, 0 ≤ x ∧ x ≤ 14) :
  Calls Tryz.prog 34 #[.slice a l.length c] w fun e w' => e = .returned (.i (Ty.lw l)) ∧ w = w':=by
 go_enter Tryz.func34, Tryz.ntmps34
 go_wp2_with fail
 go_loopw [3, 4, 5] (fun n p i wr => ∃ k : Nat, k ≤ l.length ∧ n = .i (Ty.lw (l.take k)) ∧ p = .i (16 ^ k) ∧ i = .i k ∧ w = wr) (fun _ _ i _ => l.length - (intOf i).toNat)
 case atStart => exact ⟨0, by omega, rfl, rfl, rfl, rfl⟩
 case round =>
  obtain ⟨k, hk, rfl, rfl, rfl, rfl⟩:=hrel
  by_cases hlt : k < l.length
  ·obtain ⟨g, off, rfl, hc⟩:=slice_at h hlt
   have k0 : (0 : Int) ≤ (k : Int):=by omega
   have k1 : (k : Int) < (l.length : Int):=by omega
   have k2 : k ≤ 8:=by omega
   have htk : l.take (k + 1) = l.take k ++ [l[k]]:=by rw [List.take_add_one, List.getElem?_eq_getElem hlt]; rfl
   have hkl : (l.take k).length = k:=by rw [List.length_take]; omega
   have hb:=lw_bound (l.take k) fun x hm => hx x (List.mem_of_mem_take hm)
   have hxb:=hx _ (List.getElem_mem hlt)
   have hs : Ty.lw (l.take (k + 1)) = Ty.lw (l.take k) + (l[k] + 1) * 16 ^ k:=by rw [htk, lw_snoc, hkl]
   have hp:=pow_bound k2
   have hp1 : (16 : Int) ^ (k + 1) = 16 ^ k * 16:=Int.pow_succ _ _
   rw [hkl] at hb
   generalize l[k] = x at *
   have hm:=mul_bound hxb hp
   generalize hP : (16 : Int) ^ k = P at *
   generalize hM : (x + 1) * P = M at *
   generalize Ty.lw (l.take k) = n at *
   have w1 : wrap64 (x + 1) = x + 1:=wrap_id (by omega)
   have w2 : wrap64 ((x + 1) * P) = M:=by rw [hM]; exact wrap_id (by omega)
   have w3 : wrap64 (n + M) = n + M:=wrap_id (by omega)
   have w4 : wrap64 (P * 16) = P * 16:=wrap_id (by omega)
   have H:=Lib.hid (And.intro hs hp1)
   clear htk hs hp1 hM hP hb hm hp hxb
   go_wp2_with fail
   go_roundw
   case rel => exact ⟨k + 1, by omega, by rw [H.out.1, w3], by rw [H.out.2, w4], by go_num, by first | rfl | trivial⟩
   case measure => simp [intOf]; omega
  ·have hke : k = l.length:=by omega
   subst hke
   rw [List.take_length]
   go_wp2_with fail
   go_ret
   exact ⟨rfl, rfl⟩
theorem rblocks_any (w : World) (x e : Int) (hx : x ≤ 9223372036854775807) : Calls Tryz.prog 39 #[.i x, .i e] w fun r w' => r = .returned (.bool (Ty.blocks x e)) ∧ w = w':=by
 by_cases h : 0 < x
 ·by_cases h2 : x - 1 ≤ e
  ·go_enter Tryz.func39, Tryz.ntmps39
   go_wp2
   go_ret
   exact ⟨Base.ret_bool (by unfold Ty.blocks; rw [decide_eq_true (by omega)]), rfl⟩
  ·go_enter Tryz.func39, Tryz.ntmps39
   go_wp2
   go_ret
   exact ⟨Base.ret_bool (by unfold Ty.blocks; rw [decide_eq_false (by omega)]), rfl⟩
 ·go_enter Tryz.func39, Tryz.ntmps39
  go_wp2
  go_ret
  exact ⟨Base.ret_bool (by unfold Ty.blocks; rw [decide_eq_false (by omega)]), rfl⟩
def freeL (l : List Int) (self : Nat) (e : Int) : Bool:=(List.range l.length).all fun i => i == self || !Ty.blocks (l.getD i 0) e
theorem rfree_any (w : World) (a : Option Addr) (c : Nat) (l : List Int) (self : Nat) (e : Int) (h : SliceAt w (.slice a l.length c) (l.map (Value.int .i64))) (hl : l.length ≤ 1000) (hx : ∀ x ∈ l, x ≤ 9223372036854775807) :
  Calls Tryz.prog 16 #[.slice a l.length c, .i self, .i e] w fun r w' => r = .returned (.bool (freeL l self e)) ∧ Below w.heap.size w w':=by
 have hfr : freeL l self e = true ↔ ∀ i, i < l.length → i ≠ self → Ty.blocks (l.getD i 0) e = false:=by
  simp [freeL]
  constructor
  ·intro h o h1 h2
   rcases h o h1 with h3 | h3
   ·exact absurd h3 h2
   ·exact h3
  ·intro h o h1
   by_cases h2 : o = self
   ·exact .inl h2
   ·exact .inr (h o h1 h2)
 have HF:=Lib.hid hfr
 clear hfr
 generalize freeL l self e = fr at *
 go_enter Tryz.func16, Tryz.ntmps16
 go_wp2_with fail
 go_loopw [7] (fun i wr => ∃ k : Nat, k ≤ l.length ∧ i = .i k ∧ Below w.heap.size w wr ∧ ∀ j, j < k → j ≠ self → Ty.blocks (l.getD j 0) e = false) (fun i _ => l.length - (intOf i).toNat)
 case atStart => exact ⟨0, by omega, rfl, Below.refl _ _, fun j hj => by omega⟩
 case round =>
  obtain ⟨k, hk, rfl, hB, hn⟩:=hrel
  by_cases hlt : k < l.length
  ·obtain ⟨g, off, rfl, hc⟩:=slice_at h hlt
   have hc:=Field.bkeep hB hc
   have k0 : (0 : Int) ≤ (k : Int):=by omega
   have k1 : (k : Int) < (l.length : Int):=by omega
   have k2 : k ≤ 1000:=by omega
   have hxk:=hx _ (List.getElem_mem hlt)
   have hgd : l.getD k 0 = l[k]:=by rw [List.getD_eq_getElem?_getD, List.getElem?_eq_getElem hlt]; rfl
   generalize l[k] = x at *
   have hbl:=fun w => rblocks_any w x e hxk
   by_cases hb : Ty.blocks x e = true
   ·rw [hb] at hbl
    by_cases hs : k = self
    ·subst hs
     have hn2 : ∀ j, j < k + 1 → j ≠ k → Ty.blocks (l.getD j 0) e = false:=fun j h1 h2 => hn j (by omega) h2
     have H:=Lib.hid hn2
     have HB:=Lib.hid hB
     clear hn hn2 hgd hxk hB
     go_wp2_with fail
     refine (hbl _).mono ?_
     rintro r w' ⟨rfl, rfl⟩
     go_wp2_with fail
     go_roundw
     case rel => exact ⟨k + 1, by omega, by go_num, HB.out, H.out⟩
     case measure => simp [intOf]; omega
    ·have hsi : ((k : Int) == (self : Int)) = false:=by simp; omega
     have hsn : ((k : Int) != (self : Int)) = true:=by simp; omega
     have hfr : fr = false:=by
      cases hf : fr
      ·rfl
      ·have:=HF.out.1 hf k hlt hs
       rw [hgd, hb] at this; cases this
     have HB:=Lib.hid hB
     subst hfr
     clear hn hgd hxk hs hB
     go_wp2_with fail
     refine (hbl _).mono ?_
     rintro r w' ⟨rfl, rfl⟩
     go_wp2_with fail
     go_ret
     exact ⟨rfl, HB.out⟩
   ·have hb : Ty.blocks x e = false:=by simpa using hb
    rw [hb] at hbl
    have hn2 : ∀ j, j < k + 1 → j ≠ self → Ty.blocks (l.getD j 0) e = false:=by
     intro j h1 h2
     by_cases h3 : j = k
     ·subst h3; rw [hgd]; exact hb
     ·exact hn j (by omega) h2
    have H:=Lib.hid hn2
    have HB:=Lib.hid hB
    clear hn hn2 hgd hxk hB
    go_wp2_with fail
    refine (hbl _).mono ?_
    rintro r w' ⟨rfl, rfl⟩
    go_wp2_with fail
    go_roundw
    case rel => exact ⟨k + 1, by omega, by go_num, HB.out, H.out⟩
    case measure => simp [intOf]; omega
  ·have hke : k = l.length:=by omega
   subst hke
   have hfr : fr = true:=HF.out.2 hn
   subst hfr
   have HB:=Lib.hid hB
   clear hn hB
   go_wp2_with fail
   go_ret
   exact ⟨rfl, HB.out⟩
end Go.Proofs.YteadpgiffpfmnaaGreatDoor.Cl
namespace Go.Proofs.YteadpgiffpfmnaaGreatDoor.Cl
open Go.RowKit Hp Slot RowL Life
structure PreY (c : Conf.Cf) (pre L : List Int) : Prop where
 len : pre.length = 3 + 2 * c.workers.toNat
 closed : 0 ≤ pre.getD 0 0 ∧ pre.getD 0 0 ≤ 2
 line : pre.getD 1 0 = Ty.lw L
 ep : 0 ≤ pre.getD 2 0 ∧ pre.getD 2 0 ≤ 255
 pin : ∀ j, 3 ≤ j → 0 ≤ pre.getD j 0 ∧ pre.getD j 0 ≤ 255
 gr : ∀ j, 3 + c.workers.toNat ≤ j → pre.getD j 0 = 0
 nd : L.Nodup
 lx : ∀ x ∈ L, 0 ≤ x ∧ x < c.workers
 ll : L.length ≤ 8
theorem PreOk.line {c : Conf.Cf} {pre L : List Int} (h : PreOk c pre) (h1 : L.Nodup) (h2 : ∀ x ∈ L, 0 ≤ x ∧ x < c.workers) (h3 : L.length ≤ 8) : PreY c (pre.set 1 (Ty.lw L)) L:=by
 refine ⟨by simpa using h.len, ?_, ?_, ?_, ?_, ?_, h1, h2, h3⟩
 ·rw [getD_set, if_neg (by omega)]; exact h.closed
 ·rw [getD_set, if_pos ⟨rfl, by have:=h.len; omega⟩]
 ·rw [getD_set, if_neg (by omega)]; exact h.ep
 ·intro j hj; rw [getD_set, if_neg (by omega)]; exact h.pin j hj
 ·intro j hj; rw [getD_set, if_neg (by omega)]; exact h.gr j hj
def WaitsPost (W : World) (c : Conf.Cf) (n : Nat) (e : Ending) (W' : World) : Prop :=
 ∃ g pre ss L, e = .returned (.tuple #[c.val, .slice (some ⟨g, 0, none⟩) (Tk.cells pre ss).length (Tk.cells pre ss).length]) ∧ WRow W' g (Tk.cells pre ss) ∧ Tk.Pool c pre ss ∧ PreY c pre L ∧ W.heap.size ≤ g ∧ Below W.heap.size W W' ∧ (n = 0 → ∀ j, 3 ≤ j → pre.getD j 0 = 0)
theorem own_slice {w : World} {a : Option Addr} {c : Nat} {l : List Int} (h : OwnS w (.slice a l.length c) l.length 1 (l.map (Value.int .i64))) (hn : l.length ≤ 1000) : SliceAt w (.slice a l.length c) (l.map (Value.int .i64)):=by
 refine ⟨a, c, by simp, by simp [maxLen]; omega, ?_⟩
 by_cases h0 : l.length = 0
 ·left; simpa using h0
 ·right
  obtain ⟨g, o, cap, e, h1, h2, h3, h4, h5, h6⟩:=h.some (by omega)
  cases e
  exact ⟨g, o, rfl, fun j u hu => h6 j u hu⟩
structure WtAt (W : World) (c : Conf.Cf) (cb gb : Nat) (ws : List Int) (w : World) : Prop where
 b : Below W.heap.size W w
 cr : RowAt w cb c.cells 30
 rr : RowAt w (W.heap.size + 1) zero5 30
 wr : WRow w gb ws
 ng : W.heap.size + 1 < gb ∧ gb < cb
theorem WtAt.keep {W : World} {c : Conf.Cf} {cb gb : Nat} {ws : List Int} {w w' : World} (h : WtAt W c cb gb ws w) (hb : Below (cb + 1) w w') : WtAt W c cb gb ws w' :=
 ⟨h.b.trans (hb.mono (by have:=h.ng; omega)), (hb.block cb (by omega)).trans h.cr, (hb.block _ (by have:=h.ng; omega)).trans h.rr, (hb.block gb (by have:=h.ng; omega)).trans h.wr, h.ng⟩
theorem WtAt.lt {W : World} {c : Conf.Cf} {cb gb : Nat} {ws : List Int} {w : World} (h : WtAt W c cb gb ws w) : cb + 1 ≤ w.heap.size:=RowAt.lt h.cr
theorem WtAt.below {W : World} {c : Conf.Cf} {cb gb : Nat} {ws : List Int} {w w' : World} (h : WtAt W c cb gb ws w) (hb : Below w.heap.size w w') : WtAt W c cb gb ws w':=h.keep (hb.mono h.lt)
theorem waits_any (W : World) (g : Gv) (hgv : GvAt W g) {a0 : Option Addr} {len cap b0 off : Nat} {l : List Int} (hl : Base.IntsAt .u8 W a0 len cap b0 off l) (h8 : len ≤ 8) :
  Calls Tryz.prog 10 #[g.val, .slice a0 len cap] W (WaitsPost W (confOf g.b0 g.b1 g.b2 g.b3 g.b4) g.ps.length):=by
 have hmd:=fun w h => made_pins w g h
 have hcr:=confOf_right g.b0 g.b1 g.b2 g.b3 g.b4
 generalize confOf g.b0 g.b1 g.b2 g.b3 g.b4 = c at *
 have hA : Below W.heap.size W ((W.alloc (.cells g.cells 27)).alloc (.cells zero5 30)):=((Below.refl _ _).alloc (Nat.le_refl _) _).alloc (by simp) _
 have hg : RowAt ((W.alloc (.cells g.cells 27)).alloc (.cells zero5 30)) W.heap.size g.cells 27:=RowAt.below (heap_alloc_new W _) ((Below.refl _ _).alloc (Nat.le_refl _) _)
 have hr : RowAt ((W.alloc (.cells g.cells 27)).alloc (.cells zero5 30)) (W.heap.size + 1) zero5 30:=by
  have h:=heap_alloc_new (W.alloc (.cells g.cells 27)) (.cells zero5 30)
  simpa [RowAt] using h
 have hG:=hgv.below hA
 go_enter Tryz.func10, Tryz.ntmps10
 go_upto_region 1 with (fail)
 generalize ((W.alloc (.cells g.cells 27)).alloc (.cells zero5 30)) = w1 at *
 refine wp_region_lit ?_
 refine grow hg 27 (.tmp 2) Tryz.underlying27 ?_
 try simp only [Act.put, sA, sZ, sS]
 refine gcall 32 #[.tmp 13] #[27] #[g.val] (enters_of Tryz.func32 (by kernel_rfl) rfl) ?_
 refine (hmd _ hG).mono ?_
 rintro e w2 ⟨gb, pre, ss, rfl, hw2, hp, hq, hgb, hb2, hz⟩
 refine ⟨_, rfl, ?_⟩
 have hB2:=hA.trans (hb2.mono hA.size)
 dsimp only
 refine gl (.tuple #[c.val, .slice (some ⟨gb, 0, none⟩) (Tk.cells pre ss).length (Tk.cells pre ss).length]) ?_
 refine gl c.val ?_
 refine gl (.slice (some ⟨gb, 0, none⟩) (Tk.cells pre ss).length (Tk.cells pre ss).length) ?_
 refine gbox (ob:=.cells zero5 30) (Z:=zero5) (cs:=c.cells) (t:=30) 30 (.tmp 6) (.tmp 15) rfl ?_
 refine gl (.slice (some ⟨gb, 0, none⟩) (Tk.cells pre ss).length (Tk.cells pre ss).length) ?_
 try simp only [Act.put, sA, sZ, sS]
 rw [setRow_new]
 have M : WtAt W c w2.heap.size gb (Tk.cells pre ss) (w2.alloc (.cells c.cells 30)):=⟨hB2.alloc hB2.size _, heap_alloc_new w2 _, RowAt.below (RowAt.below hr hb2) ((Below.refl _ _).alloc (Nat.le_refl _) _), RowAt.below hw2 ((Below.refl _ _).alloc (Nat.le_refl _) _), ⟨by have:=RowAt.lt hr; omega, RowAt.lt hw2⟩⟩
 generalize (w2.alloc (.cells c.cells 30)) = w3 at *
 generalize w2.heap.size = cb at *
 have hlen : (Tk.cells pre ss).length = Tk.sc c (Tk.ns c):=by unfold Tk.cells Tk.sc; have:=hp.pl; have:=hp.sl; simp; omega
 obtain ⟨⟨wk0, wk1⟩, sl0, sl1⟩:=right_small hcr
 have hn6 : 6 ≤ (Tk.cells pre ss).length:=by rw [hlen]; unfold Tk.sc Tk.ns; omega
 have HM:=Lib.hid M
 have HP:=Lib.hid (And.intro hp (And.intro hq hz))
 have HN:=Lib.hid hlen
 clear hmd hG hg hr hw2 hA hB2 hb2 hgb hgv M hp hq hz hlen
 go_wp2_with fail
 go_loopw [8, 9] (fun v i wr => ∃ (k : Nat) (L : List Int), k ≤ len ∧ i = .i k ∧ RowKit.Hid (OwnS wr v L.length 1 (L.map (Value.int .i64))) ∧ RowKit.Hid (∀ x, Fp v x → cb + 1 ≤ x) ∧ RowKit.Hid (WtAt W c cb gb (Tk.cells pre ss) wr) ∧ RowKit.Hid (L.Nodup ∧ (∀ x ∈ L, 0 ≤ x ∧ x < c.workers) ∧ L.length ≤ k)) (fun _ i _ => len - (intOf i).toNat)
 case atStart => exact ⟨0, [], by omega, rfl, ownS_nil _ 1, fun x h => absurd h (fp_nil x), HM.out, List.nodup_nil, fun x h => (by simp at h), Nat.le_refl _⟩
 case round =>
  obtain ⟨k, L, hk, rfl, hown, hfp, hM, hL⟩:=hrel
  obtain ⟨a, cp, rfl⟩:=hown.out.form
  clear HM
  by_cases hlt : k < len
  ·obtain ⟨x, -, hwf, hcx, rfl, hbl⟩:=hl.get hlt
   have hx:=Base.wf_u8_bounds hwf
   have ex:=Field.bkeep hM.out.b hcx
   have c0 : wr.cell? ⟨cb, 0, none⟩ = some (.i c.workers):=RowAt.cell hM.out.cr 0
   have k0 : (0 : Int) ≤ (k : Int):=by omega
   have k1 : (k : Int) < (len : Int):=by omega
   have k2 : k ≤ 8:=by omega
   obtain ⟨i, hi, hilt⟩ : ∃ i : Nat, x.tmod c.workers = (i : Int) ∧ (i : Int) < c.workers:=⟨(x % c.workers).toNat, by rw [Int.tmod_eq_emod_of_nonneg hx.1]; have:=Int.emod_nonneg x (show c.workers ≠ 0 by omega); omega, by have:=Int.emod_nonneg x (show c.workers ≠ 0 by omega); have:=Int.emod_lt_of_pos x (show 0 < c.workers by omega); omega⟩
   have hne : ¬ c.workers = 0:=by omega
   have hnb : (c.workers == 0) = false:=by simpa using hne
   have x0:=hx.1
   have x1 : x < 256:=by omega
   have hLL:=hL.out.2.2
   have hat : SliceAt wr.drew (.slice a L.length cp) (L.map (Value.int .i64)):=own_slice hown.out (by omega)
   have hhs:=has_any wr.drew a cp L (i : Int) hat (by omega)
   have hM4:=hM.out.below (Below.refl _ _).drew
   have hO4:=hown.out.stable (w':=wr.drew) (Nat.le_refl _) (fun x hx => rfl)
   by_cases hin : (i : Int) ∈ L
   ·rw [decide_eq_true hin] at hhs
    clear hat hwf hcx hx hin
    go_wp2_with fail
    go_region
    go_wp2_with fail
    refine hhs.mono ?_
    rintro e w4 ⟨rfl, rfl⟩
    have HM4:=Lib.hid hM4
    have HO4:=Lib.hid hO4
    have HL4:=Lib.hid (show L.Nodup ∧ (∀ x ∈ L, 0 ≤ x ∧ x < c.workers) ∧ L.length ≤ k + 1 from ⟨hL.out.1, hL.out.2.1, by omega⟩)
    clear hhs hM4 hO4 hM hown hL hLL
    go_wp2_with fail
    go_roundw
    case rel => exact ⟨k + 1, L, by omega, by go_num, HO4, hfp, HM4, HL4⟩
    case measure => simp [intOf]; omega
   ·rw [decide_eq_false hin] at hhs
    have hL' : (L ++ [(i : Int)]).Nodup ∧ (∀ x ∈ L ++ [(i : Int)], 0 ≤ x ∧ x < c.workers) ∧ (L ++ [(i : Int)]).length ≤ k + 1:=by
     refine ⟨List.nodup_append.2 ⟨hL.out.1, by simp, fun a ha b hb => ?_⟩, fun y hy => ?_, by simp; omega⟩
     ·simp at hb
      subst hb
      exact fun e => hin (e ▸ ha)
     ·rcases List.mem_append.1 hy with hy | hy
      ·exact hL.out.2.1 y hy
      ·simp at hy
       subst hy
       exact ⟨by omega, hilt⟩
    have HL':=Lib.hid hL'
    clear hat hwf hcx hx hin hL'
    go_wp2_with fail
    go_region
    go_wp2_with fail
    refine hhs.mono ?_
    rintro e w4 ⟨rfl, rfl⟩
    clear hhs hL
    go_upto_region 9 with (fail)
    refine wp_region_lit ?_
    refine gl (.slice a L.length cp) ?_
    refine gl (.i i) ?_
    try simp only [Act.put, sA, sZ, sS]
    refine wpList_push rfl (.tmp 37) rfl (i : Int) rfl rfl (.tmp 36) (.tmp 38) rfl (.slice a L.length cp) L.length L hO4 (by omega) rfl rfl ?_
    intro a' c' w9 hown' hfp' hch
    have hM9:=hM4.keep (hch.below (B:=cb + 1) hM4.lt (fun q hq => hfp.out q hq))
    have hF9 : ∀ x, Fp (.slice a' (L.length + 1) c') x → cb + 1 ≤ x:=fun q hq => (hfp' q hq).elim (hfp.out q) (fun h => by have:=hM4.lt; omega)
    have hll : L.length + 1 = (L ++ [(i : Int)]).length:=by simp
    have HO9:=Lib.hid (show OwnS w9 (.slice a' (L ++ [(i : Int)]).length c') (L ++ [(i : Int)]).length 1 ((L ++ [(i : Int)]).map (Value.int .i64)) by rw [← hll]; exact hown')
    have HF9:=Lib.hid hF9
    have HM9:=Lib.hid hM9
    have HLL:=Lib.hid hll
    clear hown' hfp' hch hM9 hF9 hll hM4 hO4 hM hown hfp hLL
    try simp only [Act.put, sA, sZ, sS]
    try dsimp only
    go_wp2_with fail
    go_roundw
    case rel => exact ⟨k + 1, L ++ [(i : Int)], by omega, by go_num, by rw [← HLL.out] at HO9 ⊢; exact HO9, HF9, HM9, HL'⟩
    case measure => simp [intOf]; omega
  ·have hke : k = len:=by omega
   subst hke
   have hLL:=hL.out
   have hwd:=line_word_any wr a cp L (own_slice hown.out (by omega)) (by omega) (fun x hx => by have:=hLL.2.1 x hx; omega)
   obtain ⟨v1, q1⟩ : ∃ v, wr.cell? ⟨gb, 1, none⟩ = some (.i v):=⟨_, hM.out.wr.get (List.getElem?_eq_getElem (by omega))⟩
   have z1 : wr.frozen? ⟨gb, 1, none⟩ = false:=RowAt.frozen hM.out.wr 1
   obtain ⟨hp, hq, hz⟩:=HP.out
   have hset:=Tk.set_pre hp (i:=1) (by omega) (Ty.lw L)
   have hp4:=hp.setPre 1 (Ty.lw L)
   have hq4:=hq.line hLL.1 hLL.2.1 (by omega)
   have hz4 : g.ps.length = 0 → ∀ j, 3 ≤ j → (pre.set 1 (Ty.lw L)).getD j 0 = 0:=fun h0 j hj => by rw [getD_set, if_neg (by omega)]; exact hz h0 j hj
   have hln : (Tk.cells (pre.set 1 (Ty.lw L)) ss).length = (Tk.cells pre ss).length:=by unfold Tk.cells; simp
   have hn1 : (1 : Int) < (Tk.cells pre ss).length:=by omega
   have hw5:=hM.out.wr.set 1 (Ty.lw L)
   rw [hset] at hw5
   have hcr5 : RowAt (wr.setCell ⟨gb, 1, none⟩ (.i (Ty.lw L))) cb c.cells 30:=setOther (p:=⟨gb, 1, none⟩) hM.out.cr _ (by show cb ≠ gb; have:=hM.out.ng; omega)
   have hrr5 : RowAt (wr.setCell ⟨gb, 1, none⟩ (.i (Ty.lw L))) (W.heap.size + 1) zero5 30:=setOther (p:=⟨gb, 1, none⟩) hM.out.rr _ (by show W.heap.size + 1 ≠ gb; have:=hM.out.ng; omega)
   have hB5 : Below W.heap.size W (wr.setCell ⟨gb, 1, none⟩ (.i (Ty.lw L))):=hM.out.b.setCell (p:=⟨gb, 1, none⟩) (by show W.heap.size ≤ gb; have:=hM.out.ng; omega) _
   have hng:=hM.out.ng
   have H5:=Lib.hid (And.intro hw5 (And.intro hB5 (And.intro hp4 (And.intro hq4 hz4))))
   have HLN:=Lib.hid hln
   clear hset hp4 hq4 hz4 hln hw5 hB5 hLL hp hq hz hM hL hown hfp
   go_wp2_with fail
   refine hwd.mono ?_
   rintro e w4 ⟨rfl, rfl⟩
   clear hwd
   go_upto_region 11 with (fail)
   generalize (wr.setCell ⟨gb, 1, none⟩ (.i (Ty.lw L))) = w5 at *
   refine wp_region_lit ?_
   refine grow hcr5 30 (.tmp 6) Tryz.underlying30 ?_
   try simp only [Act.put, sA, sZ, sS]
   refine gl (.slice (some ⟨gb, 0, none⟩) (Tk.cells pre ss).length (Tk.cells pre ss).length) ?_
   try simp only [Act.put, sA, sZ, sS]
   refine gSt hrr5 c.cells 30 (.tmp 4) (.tmp 44) ?_
   try simp only [Act.put, sA, sZ, sS]
   refine gl (.slice (some ⟨gb, 0, none⟩) (Tk.cells pre ss).length (Tk.cells pre ss).length) ?_
   try simp only [Act.put, sA, sZ, sS]
   go_wp2_with fail
   refine bR2 (W.heap.size + 1) (hrr5.set _) Tryz.underlying30 ?_
   obtain ⟨hw5, hB5, hp4, hq4, hz4⟩:=H5.out
   have hw6 : WRow (w5.setRow (W.heap.size + 1) c.cells) gb (Tk.cells (pre.set 1 (Ty.lw L)) ss):=(setRow_other _ _ _ _ (by omega)).trans hw5
   refine ⟨gb, _, ss, L, ?_, hw6, hp4, hq4, by omega, bSetRow hB5 (by omega) _, hz4⟩
   rw [HLN.out]
   rfl
theorem Kept_len {c : Conf.Cf} {w : Nat} {L L' pre pre' : List Int} {ss ss' : List S} (h : Ty.Kept c w L pre ss L' pre' ss') : L'.length ≤ L.length:=by
 induction h with
 | nil pre ss => exact Nat.le_refl _
 | none x L pre ss h => exact Nat.le_refl _
 | take x L pre ss j s L' pre' ss' h1 h2 h3 ih => simp; omega
structure Fin (c : Conf.Cf) (k : Nat) (pre : List Int) (ss : List S) (L : List Int) (pre' : List Int) (ss' : List S) (L' : List Int) : Prop where
 p : Tk.Pool c pre' ss'
 q : Tk.rd pre' 1 = Ty.lw L'
 x : ∀ x ∈ L', 0 ≤ x ∧ x < c.workers
 t : ∃ pre1 pre2, Ty.Turn c k (Tk.rd pre 0) (Tk.rd pre 2) L pre ss L' pre' ss' pre1 pre2
theorem fin_run {c : Conf.Cf} {k : Nat} {pre : List Int} {ss : List S} {L : List Int} (hp : Tk.Pool c pre ss) (hq : PreY c pre L) (hr : c.right = true) (hk : k < c.workers.toNat) :
  ∃ pre' ss' L' t', Ty.it 2000 (Ty.Ty.new c k, Tk.cells pre ss) = (t', Tk.cells pre' ss') ∧ t'.st = 17 ∧ Fin c k pre ss L pre' ss' L':=by
 obtain ⟨⟨wk0, wk1⟩, sl0, sl1⟩:=right_small hr
 have hns : 1 ≤ Tk.ns c ∧ Tk.ns c ≤ 16:=by unfold Tk.ns; omega
 have hsl:=hp.sl
 have he:=hq.ep
 have hrd : ∀ i, Tk.rd pre i = pre.getD i 0:=fun i => rfl
 obtain ⟨n, L', pre', ss', pre1, pre2, t', hn, hi, h17, P', q', x', T'⟩:=Ty.alone_all (w:=k) (cl:=Tk.rd pre 0) (E:=Tk.rd pre 2) hp hns.1 rfl rfl (by rw [hrd]; omega) (by rw [hrd, hsl]; omega) hk wk1 (L:=L) (by rw [hrd]; exact hq.line) hq.lx
 have hl' : L'.length ≤ L.length:=by
  rcases T'.k with ⟨-, h, -, -⟩ | ⟨-, h⟩
  ·rw [h]; exact Nat.le_refl _
  ·exact Kept_len h
 refine ⟨pre', ss', L', t', Ty.fin_of hi h17 ?_, h17, P', q', x', pre1, pre2, T'⟩
 have hll:=hq.ll
 have hm : ∀ m, m ≤ 8 → Ty.most c m ≤ 900:=by
  intro m hm
  unfold Ty.most
  have h1 : c.workers.toNat ≤ 8:=by omega
  have h2 : (c.workers.toNat + 2) * Tk.ns c ≤ 10 * 16:=Nat.mul_le_mul (by omega) hns.2
  have h3 : m * (Tk.ns c + 5) ≤ 8 * 21:=Nat.mul_le_mul hm (by omega)
  omega
 have h1:=hm L.length hll
 have h2:=hm L'.length (by omega)
 omega
theorem Kept_bd {c : Conf.Cf} {w : Nat} {L L' pre pre' : List Int} {ss ss' : List S} (h : Ty.Kept c w L pre ss L' pre' ss') {B : Int} (hp : ∀ i, Tk.rd pre i ≤ B) (hL : ∀ x ∈ L, 0 ≤ x ∧ x ≤ 14) (hl : L.length ≤ 8) (hB : 4294967296 ≤ B) (hs : ss.length ≤ 1000) : ∀ i, Tk.rd pre' i ≤ B:=by
 induction h with
 | nil pre ss => exact hp
 | none x L pre ss h => exact hp
 | take x L pre ss j s L' pre' ss' h1 h2 h3 ih =>
  have hj : j < ss.length:=(List.getElem?_eq_some_iff.1 h2).1
  have hb:=lw_bound L (fun y hy => hL y (by simp [hy]))
  have hpw:=pow_bound (k:=L.length) (by simp at hl; omega)
  refine ih (fun i => ?_) (fun y hy => hL y (by simp [hy])) (by simp at hl; omega) (by simpa using hs)
  have hset : ∀ (l : List Int) (a : Nat) (v : Int), v ≤ B → (∀ i, Tk.rd l i ≤ B) → ∀ i, Tk.rd (l.set a v) i ≤ B:=by
   intro l a v hv hl i
   by_cases e : a = i
   ·subst e
    by_cases hh : a < l.length
    ·rw [Ty.rd_set_same hh]; exact hv
    ·rw [List.set_eq_of_length_le (by omega)]; exact hl a
   ·rw [Ty.rd_set_ne e]; exact hl i
  exact hset _ _ _ (by omega) (hset _ _ _ (by omega) hp) i
theorem set_bd {B : Int} (l : List Int) (a : Nat) {v : Int} (hv : v ≤ B) (hl : ∀ i, Tk.rd l i ≤ B) : ∀ i, Tk.rd (l.set a v) i ≤ B:=by
 intro i
 by_cases e : a = i
 ·subst e
  by_cases hh : a < l.length
  ·rw [Ty.rd_set_same hh]; exact hv
  ·rw [List.set_eq_of_length_le (by omega)]; exact hl a
 ·rw [Ty.rd_set_ne e]; exact hl i
theorem PreY.bd {c : Conf.Cf} {pre L : List Int} (h : PreY c pre L) (h8 : c.workers ≤ 8) : ∀ i, Tk.rd pre i ≤ 4294967296:=by
 intro i
 have hb:=lw_bound L (fun y hy => by have:=h.lx y hy; omega)
 have hpw:=pow_bound h.ll
 have e : Tk.rd pre i = pre.getD i 0:=rfl
 rw [e]
 rcases (by omega : i = 0 ∨ i = 1 ∨ i = 2 ∨ 3 ≤ i) with rfl | rfl | rfl | h3
 ·have:=h.closed; omega
 ·rw [h.line]; omega
 ·have:=h.ep; omega
 ·have:=h.pin i h3; omega
theorem words_bd {c : Conf.Cf} {pre : List Int} {ss : List S} (hp : Tk.Pool c pre ss) (h : ∀ i, Tk.rd pre i ≤ 4294967296) : ∀ x ∈ Tk.cells pre ss, x < 9223372036854775808:=by
 intro x hx
 unfold Tk.cells at hx
 rcases List.mem_append.1 hx with hx | hx
 ·obtain ⟨i, hi⟩:=List.getElem?_of_mem hx
  have e : Tk.rd pre i = x:=by unfold Tk.rd; rw [List.getD_eq_getElem?_getD, hi]; rfl
  have:=h i
  omega
 ·obtain ⟨s, hs, rfl⟩:=List.mem_map.1 hx
  have:=word_bd (hp.ok s hs)
  omega
theorem Fin.bd {c : Conf.Cf} {k : Nat} {pre : List Int} {ss : List S} {L : List Int} {pre' : List Int} {ss' : List S} {L' : List Int} (h : Fin c k pre ss L pre' ss' L') (hp : Tk.Pool c pre ss) (hq : PreY c pre L) (hr : c.right = true) : ∀ x ∈ Tk.cells pre' ss', x < 9223372036854775808:=by
 obtain ⟨⟨wk0, wk1⟩, sl0, sl1⟩:=right_small hr
 obtain ⟨pre1, pre2, T⟩:=h.t
 refine words_bd h.p ?_
 have hsl:=hp.sl
 have hns : Tk.ns c ≤ 16:=by unfold Tk.ns; omega
 have hE:=hq.ep
 have e2 : Tk.rd pre 2 = pre.getD 2 0:=rfl
 have hsw:=Ty.sweepAll_len (Tk.rd pre 0) ss (Tk.rd pre 2)
 have h1 : ∀ i, Tk.rd pre1 i ≤ 4294967296:=by
  rw [T.p1]
  exact set_bd _ _ (by omega) (set_bd _ _ (by unfold wrap64; omega) (hq.bd wk1))
 have h2 : ∀ i, Tk.rd pre2 i ≤ 4294967296:=by
  rcases T.k with ⟨-, -, e, -⟩ | ⟨-, K⟩
  ·rw [e]; exact h1
  ·exact Kept_bd K h1 (fun y hy => by have:=hq.lx y hy; omega) hq.ll (by omega) (by rw [List.length_map]; omega)
 rw [T.p']
 exact set_bd _ _ (by omega) h2
theorem memOk_of {c : Conf.Cf} {pre L : List Int} {ss : List S} (hp : Tk.Pool c pre ss) (hq : PreY c pre L) (h8 : c.workers ≤ 8) : Ty.MemOk c (Tk.cells pre ss):=by
 have hb:=hq.bd h8
 refine ⟨fun o ho => ?_, ?_, ?_⟩
 ·rw [Tk.rd_pre hp (by unfold Ty.pc; omega)]
  have:=hb (Ty.pc o)
  unfold Tk.rd at this
  omega
 ·rw [Tk.rd_pre hp (by omega)]
  have:=hb 1
  unfold Tk.rd at this
  omega
 ·rw [Tk.rd_pre hp (by omega), hq.line]
  exact Ty.lineOk_lw hq.lx h8
theorem goneN_snoc : ∀ (a b : List S) (s s' : S), a.length = b.length → Ty.goneN (a ++ [s]) (b ++ [s']) = Ty.goneN a b + (if Ty.gone s s' then 1 else 0):=by
 intro a
 induction a with
 | nil =>
  intro b s s' h
  cases b with
  | nil => simp [Ty.goneN]
  | cons y b => simp at h
 | cons x a ih =>
  intro b s s' h
  cases b with
  | nil => simp at h
  | cons y b =>
   simp only [List.cons_append, Ty.goneN, ih b s s' (by simpa using h)]
   omega
def goneTo (ss ss' : List S) (q : Nat) : Int:=Ty.goneN (ss.take q) (ss'.take q)
theorem goneTo_step {ss ss' : List S} {q : Nat} {s s' : S} (h : ss[q]? = some s) (h' : ss'[q]? = some s') : goneTo ss ss' (q + 1) = goneTo ss ss' q + (if Ty.gone s s' then 1 else 0):=by
 have e1 : ss.take (q + 1) = ss.take q ++ [s]:=by rw [List.take_add_one, h]; rfl
 have e2 : ss'.take (q + 1) = ss'.take q ++ [s']:=by rw [List.take_add_one, h']; rfl
 have l1:=(List.getElem?_eq_some_iff.1 h).1
 have l2:=(List.getElem?_eq_some_iff.1 h').1
 unfold goneTo
 rw [e1, e2, goneN_snoc _ _ _ _ (by rw [List.length_take, List.length_take]; omega)]
theorem goneTo_all {ss ss' : List S} {q : Nat} (h : ss.length ≤ q) (h' : ss'.length ≤ q) : goneTo ss ss' q = Ty.goneN ss ss':=by
 unfold goneTo
 rw [List.take_of_length_le h, List.take_of_length_le h']
theorem goneTo_bd (ss ss' : List S) : ∀ q, 0 ≤ goneTo ss ss' q ∧ goneTo ss ss' q ≤ q:=by
 intro q
 have key : ∀ (a b : List S), 0 ≤ Ty.goneN a b ∧ Ty.goneN a b ≤ a.length:=by
  intro a
  induction a with
  | nil => intro b; cases b <;> simp [Ty.goneN]
  | cons x a ih =>
   intro b
   cases b with
   | nil => simp [Ty.goneN]; omega
   | cons y b =>
    have:=ih b
    simp only [Ty.goneN, List.length_cons]
    split <;> omega
 have:=key (ss.take q) (ss'.take q)
 unfold goneTo
 rw [List.length_take] at this
 omega
end Go.Proofs.YteadpgiffpfmnaaGreatDoor.Cl
namespace Go.Proofs.YteadpgiffpfmnaaGreatDoor.Cl
open Go.RowKit Hp RowL Conf Tk Slot Life
def ptrOf : Option Nat → Value
 | some b => .pointer (some ⟨b, 0, none⟩)
 | none => .pointer none
def tfp (tb : Nat) (lo ro : Option Nat) (k : Nat) : Prop:=k = tb ∨ lo = some k ∨ ro = some k
def Grow (W : World) (lo lo' : Option Nat) : Prop:=lo' = lo ∨ ∃ b, lo' = some b ∧ W.heap.size ≤ b
section
variable {W : World} {tb mb wb : Nat} {lo ro : Option Nat}
theorem Grow.refl : Grow W lo lo:=.inl rfl
theorem Grow.trans {W1 : World} {l1 l2 : Option Nat} (h : Grow W lo l1) (h2 : Grow W1 l1 l2) (hs : W.heap.size ≤ W1.heap.size) : Grow W lo l2:=by
 rcases h2 with rfl | ⟨b, h2, h3⟩
 ·exact h
 ·exact .inr ⟨b, h2, by omega⟩
theorem Grow.fp {W1 : World} {l1 r1 : Option Nat} (hl : Grow W lo l1) (hr : Grow W ro r1) {k : Nat} (h : tfp tb l1 r1 k) : tfp tb lo ro k ∨ W.heap.size ≤ k:=by
 rcases h with rfl | h | h
 ·exact .inl (.inl rfl)
 ·rcases hl with rfl | ⟨b, h2, h3⟩
  ·exact .inl (.inr (.inl h))
  ·rw [h] at h2; cases h2; exact .inr h3
 ·rcases hr with rfl | ⟨b, h2, h3⟩
  ·exact .inl (.inr (.inr h))
  ·rw [h] at h2; cases h2; exact .inr h3
end
def TR (W : World) (tb mb wb : Nat) (lo ro : Option Nat) (W' : World) (lo' ro' : Option Nat) : Prop:=Grow W lo lo' ∧ Grow W ro ro' ∧ Chg (fun k => tfp tb lo ro k ∨ cfp mb wb k) W W'
section
variable {W w w' : World} {tb mb wb : Nat} {lo ro l1 r1 l2 r2 : Option Nat}
theorem TR.refl : TR W tb mb wb lo ro W lo ro:=⟨Grow.refl, Grow.refl, Chg.refl _ _⟩
theorem TR.trans (h : TR W tb mb wb lo ro w l1 r1) (h2 : TR w tb mb wb l1 r1 w' l2 r2) : TR W tb mb wb lo ro w' l2 r2:=by
 refine ⟨h.1.trans h2.1 h.2.2.size, h.2.1.trans h2.2.1 h.2.2.size, h.2.2.trans h2.2.2 (fun k hk e => ?_)⟩
 rcases e with e | e
 ·rcases Grow.fp (W1:=w) (tb:=tb) h.1 h.2.1 e with e | e
  ·exact .inl e
  ·omega
 ·exact .inr e
theorem TR.chg {F : Nat → Prop} (h : TR W tb mb wb lo ro w l1 r1) (hc : Chg F w w') (hF : ∀ k, F k → tfp tb l1 r1 k ∨ cfp mb wb k) : TR W tb mb wb lo ro w' l1 r1:=h.trans ⟨Grow.refl, Grow.refl, hc.mono (fun k _ e => hF k e)⟩
theorem TR.below (h : TR W tb mb wb lo ro w l1 r1) (hb : Below w.heap.size w w') : TR W tb mb wb lo ro w' l1 r1:=h.trans ⟨Grow.refl, Grow.refl, Chg.ofBelow hb⟩
theorem TR.set (h : TR W tb mb wb lo ro w l1 r1) (i : Nat) (v : Value) : TR W tb mb wb lo ro (w.setCell ⟨tb, i, none⟩ v) l1 r1:=h.trans ⟨Grow.refl, Grow.refl, (Chg.refl _ _).setCell ⟨tb, i, none⟩ _ (fun _ => .inl (.inl rfl))⟩
theorem TR.mem (h : TR W tb mb wb lo ro w l1 r1) (hc : Chg (cfp mb wb) w w') : TR W tb mb wb lo ro w' l1 r1:=h.chg hc (fun _ e => .inr e)
end
def nx (word : Int) (d : Nat) (own more : Int) : Option S:=(dec word).bind fun s => Tk.nextX s d own more
def nxW : Option S → Int
 | some s => s.word
 | none => 0
theorem nx_none {word : Int} {d : Nat} {own more : Int} (h : dec word = none) : nx word d own more = none:=by unfold nx; rw [h]; rfl
theorem nx_some {word : Int} {d : Nat} {own more : Int} {s : S} (h : dec word = some s) : nx word d own more = Tk.nextX s d own more:=by unfold nx; rw [h]; rfl
theorem rd_some {ws : List Int} {i : Nat} (h : i < ws.length) : ws[i]? = some (Tk.rd ws i):=by
 unfold Tk.rd
 rw [List.getD_eq_getElem?_getD, List.getElem?_eq_getElem h]
 rfl
end Go.Proofs.YteadpgiffpfmnaaGreatDoor.Cl
namespace Go.Proofs.YteadpgiffpfmnaaGreatDoor.Cl
open Go.RowKit Hp RowL Conf Tk
def ycells (t : Ty.Ty) (lo ro : Option Nat) : Array Value:=#[.i t.cf.workers, .i t.cf.slots, .i t.cf.streams, .i t.cf.waiters, .i t.cf.uses, .i t.w, .i t.st, .i t.epoch, .i t.closed, .i t.queue, ptrOf lo, .i t.i, .i t.word, .i t.other, .i t.head, ptrOf ro]
def YRow (W : World) (tb : Nat) (t : Ty.Ty) (lo ro : Option Nat) : Prop:=RowAt W tb (ycells t lo ro) 88
structure TyAt (W : World) (tb mb wb : Nat) (lo ro : Option Nat) (t : Ty.Ty) (ws : List Int) (tc : Int) : Prop where
 row : YRow W tb t lo ro
 look : ∀ f, t.look = some f → ∃ fb, lo = some fb ∧ FdAt W fb t.cf f
 ret : ∀ r, t.rt = some r → ∃ rb, ro = some rb ∧ RtAt W rb r
 la : ∀ b, lo = some b → Apart b mb wb ∧ b ≠ tb ∧ b < W.heap.size
 ra : ∀ b, ro = some b → Apart b mb wb ∧ b ≠ tb ∧ b < W.heap.size
 lr : ∀ a b, lo = some a → ro = some b → a ≠ b
 mem : CAt W mb wb ws tc
 ap : Apart tb mb wb
 laid : Slot.Laid W
def YPost (W : World) (tb mb wb : Nat) (lo ro : Option Nat) (v : Value) (t : Ty.Ty) (ws : List Int) (tc : Int) (e : Ending) (W' : World) : Prop :=
 e = .returned v ∧ ∃ lo' ro', TyAt W' tb mb wb lo' ro' t ws tc ∧ Grow W lo lo' ∧ Grow W ro ro' ∧ Chg (fun k => tfp tb lo ro k ∨ cfp mb wb k) W W'
section
variable {W W' : World} {tb mb wb : Nat} {lo ro : Option Nat} {t : Ty.Ty} {ws : List Int} {tc : Int}
theorem TyAt.lt (h : TyAt W tb mb wb lo ro t ws tc) : tb < W.heap.size:=RowAt.lt h.row
theorem TyAt.cell (h : TyAt W tb mb wb lo ro t ws tc) (i : Nat) : W.cell? ⟨tb, i, none⟩ = (ycells t lo ro)[i]?:=RowAt.cell h.row i
theorem TyAt.frozen (h : TyAt W tb mb wb lo ro t ws tc) (i : Nat) : W.frozen? ⟨tb, i, none⟩ = false:=RowAt.frozen h.row i
theorem TyAt.chg {F : Nat → Prop} (h : TyAt W tb mb wb lo ro t ws tc) (hc : Chg F W W') (h0 : ¬ F 0) (hF : ∀ k, tfp tb lo ro k → ¬ F k) {ws' : List Int} {tc' : Int} (hm : CAt W' mb wb ws' tc') : TyAt W' tb mb wb lo ro t ws' tc':=by
 have hs:=hc.size
 refine ⟨(hc.block _ h.lt (hF _ (.inl rfl))).trans h.row, ?_, ?_, ?_, ?_, h.lr, hm, h.ap, h.laid.stable (hc.block 0 (h.laid.lt (by decide)) h0)⟩
 ·intro f hf
  obtain ⟨fb, h1, h2⟩:=h.look f hf
  exact ⟨fb, h1, h2.chg hc (hF _ (.inr (.inl h1)))⟩
 ·intro r hr
  obtain ⟨rb, h1, h2⟩:=h.ret r hr
  exact ⟨rb, h1, h2.chg hc (hF _ (.inr (.inr h1)))⟩
 ·intro b hb
  obtain ⟨h1, h2, h3⟩:=h.la b hb
  exact ⟨h1, h2, by omega⟩
 ·intro b hb
  obtain ⟨h1, h2, h3⟩:=h.ra b hb
  exact ⟨h1, h2, by omega⟩
theorem TyAt.below (h : TyAt W tb mb wb lo ro t ws tc) (hb : Below W.heap.size W W') : TyAt W' tb mb wb lo ro t ws tc:=by
 have hc : Chg (fun _ => False) W W':=Chg.ofBelow hb
 exact h.chg hc (fun e => e) (fun _ _ e => e) (h.mem.below hb)
theorem TyAt.mems (h : TyAt W tb mb wb lo ro t ws tc) (hc : Chg (cfp mb wb) W W') {ws' : List Int} {tc' : Int} (hm : CAt W' mb wb ws' tc') : TyAt W' tb mb wb lo ro t ws' tc':=by
 refine h.chg hc (fun e => e.elim h.ap.m0 h.ap.w0) (fun k hk e => ?_) hm
 rcases hk with rfl | hk | hk
 ·exact e.elim h.ap.m h.ap.w
 ·exact e.elim (h.la k hk).1.m (h.la k hk).1.w
 ·exact e.elim (h.ra k hk).1.m (h.ra k hk).1.w
theorem TyAt.put (h : TyAt W tb mb wb lo ro t ws tc) (i : Nat) (v : Value) (t' : Ty.Ty) (hrow : (ycells t lo ro).setIfInBounds i v = ycells t' lo ro) (hcf : t'.cf = t.cf) (hl : t'.look = t.look) (hr : t'.rt = t.rt) : TyAt (W.setCell ⟨tb, i, none⟩ v) tb mb wb lo ro t' ws tc:=by
 have hc : Chg (fun k => k = tb) W (W.setCell ⟨tb, i, none⟩ v):=(Chg.refl _ _).setCell _ _ (fun _ => rfl)
 have hs:=hc.size
 refine ⟨?_, ?_, ?_, ?_, ?_, h.lr, h.mem.far tb i v (fun e => h.ap.m e.symm) (fun e => h.ap.w e.symm), h.ap, h.laid.stable (hc.block 0 (h.laid.lt (by decide)) h.ap.f0)⟩
 ·have:=RowAt.setc h.row i v
  rw [hrow] at this
  exact this
 ·intro f hf
  rw [hl] at hf
  obtain ⟨fb, h1, h2⟩:=h.look f hf
  rw [hcf]
  exact ⟨fb, h1, h2.chg hc (h.la fb h1).2.1⟩
 ·intro r hq
  rw [hr] at hq
  obtain ⟨rb, h1, h2⟩:=h.ret r hq
  exact ⟨rb, h1, h2.chg hc (h.ra rb h1).2.1⟩
 ·intro b hb
  obtain ⟨h1, h2, h3⟩:=h.la b hb
  exact ⟨h1, h2, by omega⟩
 ·intro b hb
  obtain ⟨h1, h2, h3⟩:=h.ra b hb
  exact ⟨h1, h2, by omega⟩
theorem TyAt.putLook (h : TyAt W tb mb wb lo ro t ws tc) {fb : Nat} {f : Tk.Fd} (hf : FdAt W fb t.cf f) (ha : Apart fb mb wb) (hne : fb ≠ tb) (hr : ro ≠ some fb) : TyAt (W.setCell ⟨tb, 10, none⟩ (.pointer (some ⟨fb, 0, none⟩))) tb mb wb (some fb) ro { t with look:=some f } ws tc:=by
 have hc : Chg (fun k => k = tb) W (W.setCell ⟨tb, 10, none⟩ (.pointer (some ⟨fb, 0, none⟩))):=(Chg.refl _ _).setCell _ _ (fun _ => rfl)
 have hs:=hc.size
 refine ⟨RowAt.setc h.row 10 _, ?_, ?_, ?_, ?_, ?_, h.mem.far tb 10 _ (fun e => h.ap.m e.symm) (fun e => h.ap.w e.symm), h.ap, h.laid.stable (hc.block 0 (h.laid.lt (by decide)) h.ap.f0)⟩
 ·intro f' hf'
  cases hf'
  exact ⟨fb, rfl, hf.chg hc hne⟩
 ·intro r hq
  obtain ⟨rb, h1, h2⟩:=h.ret r hq
  exact ⟨rb, h1, h2.chg hc (h.ra rb h1).2.1⟩
 ·intro b hb
  cases hb
  have:=hf.lt
  exact ⟨ha, hne, by omega⟩
 ·intro b hb
  obtain ⟨h1, h2, h3⟩:=h.ra b hb
  exact ⟨h1, h2, by omega⟩
 ·intro a b h1 h2 h3
  cases h1
  exact hr (by rw [h2, h3])
theorem TyAt.putRet (h : TyAt W tb mb wb lo ro t ws tc) {rb : Nat} {r : Rt} (hf : RtAt W rb r) (ha : Apart rb mb wb) (hne : rb ≠ tb) (hr : lo ≠ some rb) : TyAt (W.setCell ⟨tb, 15, none⟩ (.pointer (some ⟨rb, 0, none⟩))) tb mb wb lo (some rb) { t with rt:=some r } ws tc:=by
 have hc : Chg (fun k => k = tb) W (W.setCell ⟨tb, 15, none⟩ (.pointer (some ⟨rb, 0, none⟩))):=(Chg.refl _ _).setCell _ _ (fun _ => rfl)
 have hs:=hc.size
 refine ⟨RowAt.setc h.row 15 _, ?_, ?_, ?_, ?_, ?_, h.mem.far tb 15 _ (fun e => h.ap.m e.symm) (fun e => h.ap.w e.symm), h.ap, h.laid.stable (hc.block 0 (h.laid.lt (by decide)) h.ap.f0)⟩
 ·intro f hq
  obtain ⟨fb, h1, h2⟩:=h.look f hq
  exact ⟨fb, h1, h2.chg hc (h.la fb h1).2.1⟩
 ·intro f' hf'
  cases hf'
  exact ⟨rb, rfl, hf.chg hc hne⟩
 ·intro b hb
  obtain ⟨h1, h2, h3⟩:=h.la b hb
  exact ⟨h1, h2, by omega⟩
 ·intro b hb
  cases hb
  have:=hf.lt
  exact ⟨ha, hne, by omega⟩
 ·intro a b h1 h2 h3
  cases h2
  exact hr (by rw [h1, h3])
theorem TyAt.fstep (h : TyAt W tb mb wb lo ro t ws tc) {fb : Nat} (hl : lo = some fb) (hc : Chg (fun k => k = fb ∨ cfp mb wb k) W W') {f : Tk.Fd} (hf : FdAt W' fb t.cf f) {ws' : List Int} {tc' : Int} (hm : CAt W' mb wb ws' tc') : TyAt W' tb mb wb lo ro { t with look:=some f } ws' tc':=by
 have hs:=hc.size
 have hA:=(h.la fb hl)
 refine ⟨(hc.block _ h.lt (fun e => e.elim (fun e => hA.2.1 e.symm) fun e => e.elim h.ap.m h.ap.w)).trans h.row, ?_, ?_, ?_, ?_, h.lr, hm, h.ap, h.laid.stable (hc.block 0 (h.laid.lt (by decide)) (fun e => e.elim hA.1.f0 fun e => e.elim h.ap.m0 h.ap.w0))⟩
 ·intro f' hf'
  cases hf'
  exact ⟨fb, hl, hf⟩
 ·intro r hq
  obtain ⟨rb, h1, h2⟩:=h.ret r hq
  exact ⟨rb, h1, h2.chg hc (fun e => e.elim (fun e => h.lr fb rb hl h1 e.symm) fun e => e.elim (h.ra rb h1).1.m (h.ra rb h1).1.w)⟩
 ·intro b hb
  obtain ⟨h1, h2, h3⟩:=h.la b hb
  exact ⟨h1, h2, by omega⟩
 ·intro b hb
  obtain ⟨h1, h2, h3⟩:=h.ra b hb
  exact ⟨h1, h2, by omega⟩
theorem TyAt.rstep (h : TyAt W tb mb wb lo ro t ws tc) {rb : Nat} (hl : ro = some rb) (hc : Chg (fun k => k = rb ∨ cfp mb wb k) W W') {r : Rt} (hf : RtAt W' rb r) {ws' : List Int} {tc' : Int} (hm : CAt W' mb wb ws' tc') : TyAt W' tb mb wb lo ro { t with rt:=some r } ws' tc':=by
 have hs:=hc.size
 have hA:=(h.ra rb hl)
 refine ⟨(hc.block _ h.lt (fun e => e.elim (fun e => hA.2.1 e.symm) fun e => e.elim h.ap.m h.ap.w)).trans h.row, ?_, ?_, ?_, ?_, h.lr, hm, h.ap, h.laid.stable (hc.block 0 (h.laid.lt (by decide)) (fun e => e.elim hA.1.f0 fun e => e.elim h.ap.m0 h.ap.w0))⟩
 ·intro f hq
  obtain ⟨fb, h1, h2⟩:=h.look f hq
  exact ⟨fb, h1, h2.chg hc (fun e => e.elim (fun e => h.lr fb rb h1 hl e) fun e => e.elim (h.la fb h1).1.m (h.la fb h1).1.w)⟩
 ·intro f' hf'
  cases hf'
  exact ⟨rb, hl, hf⟩
 ·intro b hb
  obtain ⟨h1, h2, h3⟩:=h.la b hb
  exact ⟨h1, h2, by omega⟩
 ·intro b hb
  obtain ⟨h1, h2, h3⟩:=h.ra b hb
  exact ⟨h1, h2, by omega⟩
end
end Go.Proofs.YteadpgiffpfmnaaGreatDoor.Cl
namespace Go.Proofs.YteadpgiffpfmnaaGreatDoor.Cl
open Go.RowKit Hp Slot RowL Life
theorem TyAt.newApart {W : World} {tb mb wb : Nat} {lo ro : Option Nat} {t : Ty.Ty} {ws : List Int} {tc : Int} (h : TyAt W tb mb wb lo ro t ws tc) {b : Nat} (hb : W.heap.size ≤ b) : Apart b mb wb ∧ b ≠ tb ∧ ro ≠ some b ∧ lo ≠ some b:=by
 have h1:=h.mem.lt
 have h2:=h.lt
 have h0 : 0 < W.heap.size:=h.laid.lt (by decide)
 refine ⟨⟨by omega, by omega, by omega, h.ap.m0, h.ap.w0⟩, by omega, fun e => ?_, fun e => ?_⟩
 ·have:=(h.ra b e).2.2
  omega
 ·have:=(h.la b e).2.2
  omega
theorem yrest_step {W : World} {tb mb wb : Nat} {lo ro : Option Nat} {t : Ty.Ty} {ws : List Int} {tc : Int} (h : TyAt W tb mb wb lo ro t ws tc) : Calls Tryz.prog 77 #[.pointer (some ⟨tb, 0, none⟩), .pointer (some ⟨mb, 0, none⟩)] W (YPost W tb mb wb lo ro (.tuple #[]) t ws tc):=by
 have H:=Lib.hid h
 clear h
 go_enter Tryz.func77, Tryz.ntmps77
 first | go_end0 | (go_wp2_with fail; first | go_end0 | refine bodyPost_ret (results_none rfl _ _ _) rfl ?_)
 exact ⟨rfl, lo, ro, H.out, Grow.refl, Grow.refl, Chg.refl _ _⟩
theorem ysearch_any {W : World} {tb mb wb : Nat} {lo ro : Option Nat} {t : Ty.Ty} {ws : List Int} {tc : Int} (h : TyAt W tb mb wb lo ro t ws tc) (st : Nat) (kind own : Int) : Calls Tryz.prog 93 #[.pointer (some ⟨tb, 0, none⟩), .i st, .i kind, .i own] W (YPost W tb mb wb lo ro (.tuple #[]) (t.search st kind own) ws tc):=by
 have hn:=fun W => fnew_any W t.cf kind own
 simp only [Conf.Cf.val, Conf.Cf.cells] at hn
 have c0 : W.cell? ⟨tb, 0, none⟩ = some (.i t.cf.workers):=h.cell 0
 have c1 : W.cell? ⟨tb, 1, none⟩ = some (.i t.cf.slots):=h.cell 1
 have c2 : W.cell? ⟨tb, 2, none⟩ = some (.i t.cf.streams):=h.cell 2
 have c3 : W.cell? ⟨tb, 3, none⟩ = some (.i t.cf.waiters):=h.cell 3
 have c4 : W.cell? ⟨tb, 4, none⟩ = some (.i t.cf.uses):=h.cell 4
 have H:=Lib.hid h
 clear h
 go_enter Tryz.func93, Tryz.ntmps93
 go_wp2_with fail
 refine (hn _).mono ?_
 rintro e w5 ⟨fb, rfl, hF, hge, hb5⟩
 have h5:=H.out.below hb5
 have d6 : w5.cell? ⟨tb, 6, none⟩ = some (.i t.st):=h5.cell 6
 have d10 : w5.cell? ⟨tb, 10, none⟩ = some (ptrOf lo):=h5.cell 10
 have df6:=h5.frozen 6
 have df10:=h5.frozen 10
 have H5:=Lib.hid h5
 have HF:=Lib.hid hF
 have HB:=Lib.hid hb5
 clear h5 hF hb5 hn c0 c1 c2 c3 c4
 go_wp2_with fail
 first | go_end0 | refine bodyPost_ret (results_none rfl _ _ _) rfl ?_
 obtain ⟨n1, n2, n3, n4⟩:=H.out.newApart hge
 refine ⟨rfl, some fb, ro, (H5.out.putLook HF.out n1 n2 n3).put 6 (.i st) (t.search st kind own) rfl rfl rfl rfl, .inr ⟨fb, rfl, hge⟩, Grow.refl, ?_⟩
 exact ((Chg.ofBelow (F:=fun k => tfp tb lo ro k ∨ cfp mb wb k) HB.out).setCell ⟨tb, 10, none⟩ _ (fun _ => .inl (.inl rfl))).setCell ⟨tb, 6, none⟩ _ (fun _ => .inl (.inl rfl))
theorem yseek_any {W : World} {tb mb wb : Nat} {lo ro : Option Nat} {t : Ty.Ty} {ws : List Int} {tc : Int} (h : TyAt W tb mb wb lo ro t ws tc) (hok : Ty.TyOk t ws.length) (ht : 0 ≤ tc ∧ tc ≤ 4000000000000000000) (h1 : 3 ≤ t.st) (h8 : t.st ≤ 14) :
  Calls Tryz.prog 94 #[.pointer (some ⟨tb, 0, none⟩), .pointer (some ⟨mb, 0, none⟩)] W (YPost W tb mb wb lo ro (.tuple #[.bool (t.seek ws).1, .bool (t.seek ws).2.1]) (t.seek ws).2.2.1 ws (tc + (t.seek ws).2.2.2)):=by
 obtain ⟨f, hl⟩:=hok.has h1 h8
 obtain ⟨fb, rfl, hF⟩:=h.look f hl
 have hA:=h.la fb rfl
 rw [Ty.seek_eq hl]
 have hst:=fstep_all h.laid hF h.mem ⟨hok.c.w, hok.c.s⟩ hA.1 ht (hok.look f hl) hok.len
 clear hF
 generalize f.step t.cf ws = q at *
 obtain ⟨b, f', n⟩:=q
 dsimp only at *
 have c10 : W.cell? ⟨tb, 10, none⟩ = some (.pointer (some ⟨fb, 0, none⟩)):=h.cell 10
 have H:=Lib.hid h
 clear h
 cases hfd : f'.found
 ·simp only [Bool.false_eq_true, if_false]
  go_enter Tryz.func94, Tryz.ntmps94
  go_wp2_with fail
  refine hst.mono ?_
  rintro e w5 ⟨rfl, hF5, hM5, hC5⟩
  have h5:=H.out.fstep rfl hC5 hF5 hM5
  have d10 : w5.cell? ⟨tb, 10, none⟩ = some (.pointer (some ⟨fb, 0, none⟩)):=h5.cell 10
  have hfo:=found_any hF5
  rw [hfd] at hfo
  have H5:=Lib.hid h5
  have HC:=Lib.hid (hC5.mono (G:=fun k => tfp tb (some fb) ro k ∨ cfp mb wb k) fun k _ e => e.elim (fun e => .inl (.inr (.inl (by rw [e])))) .inr)
  clear h5 hst c10 hF5 hM5 hC5
  cases b
  all_goals
   go_wp2_with fail
   refine hfo.mono ?_
   rintro e w6 ⟨rfl, hb6⟩
   clear hfo
   go_wp2_with fail
   go_ret2
   exact ⟨rfl, some fb, ro, H5.out.below hb6, Grow.refl, Grow.refl, HC.out.trans (Chg.ofBelow hb6) (fun _ _ e => e)⟩
 ·simp only [if_true]
  go_enter Tryz.func94, Tryz.ntmps94
  go_wp2_with fail
  refine hst.mono ?_
  rintro e w5 ⟨rfl, hF5, hM5, hC5⟩
  have h5:=H.out.fstep rfl hC5 hF5 hM5
  have d10 : w5.cell? ⟨tb, 10, none⟩ = some (.pointer (some ⟨fb, 0, none⟩)):=h5.cell 10
  have hfo:=found_any hF5
  rw [hfd] at hfo
  have H5:=Lib.hid h5
  have HC:=Lib.hid (hC5.mono (G:=fun k => tfp tb (some fb) ro k ∨ cfp mb wb k) fun k _ e => e.elim (fun e => .inl (.inr (.inl (by rw [e])))) .inr)
  clear h5 hst c10 hF5 hM5 hC5
  cases b
  all_goals
   go_wp2_with fail
   refine hfo.mono ?_
   rintro e w6 ⟨rfl, hb6⟩
   have h6:=H5.out.below hb6
   have e11 : w6.cell? ⟨tb, 11, none⟩ = some (.i t.i):=h6.cell 11
   have e12 : w6.cell? ⟨tb, 12, none⟩ = some (.i t.word):=h6.cell 12
   have ef11:=h6.frozen 11
   have ef12:=h6.frozen 12
   have H6:=Lib.hid h6
   have C6:=Lib.hid (HC.out.trans (Chg.ofBelow hb6) (fun _ _ e => e))
   clear hfo h6 hb6
   go_wp2_with fail
   go_ret2
   exact ⟨rfl, some fb, ro, (H6.out.put 11 (.i f'.at') { t with look:=some f', i:=f'.at' } rfl rfl rfl rfl).put 12 (.i f'.word) { t with look:=some f', i:=f'.at', word:=f'.word } rfl rfl rfl rfl, Grow.refl, Grow.refl, (C6.out.setCell ⟨tb, 11, none⟩ _ (fun _ => .inl (.inl rfl))).setCell ⟨tb, 12, none⟩ _ (fun _ => .inl (.inl rfl))⟩
theorem yanother_any {W : World} {tb mb wb : Nat} {lo ro : Option Nat} {t : Ty.Ty} {ws : List Int} {tc : Int} (h : TyAt W tb mb wb lo ro t ws tc) (hok : (t.w : Int) < t.cf.workers ∧ t.cf.workers ≤ 8) (ho : -1 ≤ t.other ∧ t.other < t.cf.workers) :
  Calls Tryz.prog 98 #[.pointer (some ⟨tb, 0, none⟩)] W (YPost W tb mb wb lo ro (.bool t.another.1) t.another.2 ws tc):=by
 have c0 : W.cell? ⟨tb, 0, none⟩ = some (.i t.cf.workers):=h.cell 0
 have c5 : W.cell? ⟨tb, 5, none⟩ = some (.i t.w):=h.cell 5
 have c13 : W.cell? ⟨tb, 13, none⟩ = some (.i t.other):=h.cell 13
 have cf13:=h.frozen 13
 have e1 : wrap64 (t.other + 1) = t.other + 1:=by unfold wrap64; omega
 have e2 : wrap64 (t.other + 1 + 1) = t.other + 2:=by unfold wrap64; omega
 have H:=Lib.hid h
 have H1:=Lib.hid hok
 have H2:=Lib.hid ho
 clear h hok ho
 unfold Ty.Ty.another Ty.nxt
 by_cases hq : t.other + 1 = t.w
 ·rw [if_pos hq]
  have hq2 : (t.w : Int) + 1 = t.other + 2:=by omega
  have e3 : wrap64 ((t.w : Int) + 1) = t.other + 2:=by rw [← hq]; exact e2
  rw [hq] at e1 e2
  go_enter Tryz.func98, Tryz.ntmps98
  go_wp2_with fail
  go_region
  go_wp2_with fail
  go_region
  go_wp2_with fail
  go_ret
  have eW : wrap64 (t.other + 2) = t.other + 2:=by have:=H1.out; have:=H2.out; unfold wrap64; omega
  rw [eW]
  have h1:=H.out.put 13 (.i t.w) { t with other:=t.w } rfl rfl rfl rfl
  have h2:=h1.put 13 (.i (t.other + 2)) { t with other:=t.other + 2 } rfl rfl rfl rfl
  exact ⟨rfl, lo, ro, (h2.below (Below.refl _ _).drew).below (Below.refl _ _).drew, Grow.refl, Grow.refl, ((((Chg.refl _ _).setCell ⟨tb, 13, none⟩ _ (fun _ => .inl (.inl rfl))).setCell ⟨tb, 13, none⟩ _ (fun _ => .inl (.inl rfl))).drew).drew⟩
 ·rw [if_neg hq]
  have hq2 : (t.other + 1 == (t.w : Int)) = false:=by simpa using hq
  go_enter Tryz.func98, Tryz.ntmps98
  go_wp2_with fail
  go_region
  go_wp2_with fail
  go_region
  go_wp2_with fail
  go_ret
  have h1:=H.out.put 13 (.i (t.other + 1)) { t with other:=t.other + 1 } rfl rfl rfl rfl
  exact ⟨rfl, lo, ro, (h1.below (Below.refl _ _).drew).below (Below.refl _ _).drew, Grow.refl, Grow.refl, (((Chg.refl _ _).setCell ⟨tb, 13, none⟩ _ (fun _ => .inl (.inl rfl))).drew).drew⟩
theorem yis_any {W : World} {tb mb wb : Nat} {lo ro : Option Nat} {t : Ty.Ty} {ws : List Int} {tc : Int} (h : TyAt W tb mb wb lo ro t ws tc) :
  Calls Tryz.prog 104 #[.pointer (some ⟨tb, 0, none⟩)] W fun e W' => e = .returned (.i t.is) ∧ Below W.heap.size W W':=by
 have hdc:=decode_val W t.word h.laid
 have c12 : W.cell? ⟨tb, 12, none⟩ = some (.i t.word):=h.cell 12
 unfold Ty.Ty.is
 clear h
 cases hd : dec t.word with
 | none =>
  simp only [hd, Option.getD_none, Option.isSome_none] at hdc
  dsimp only
  go_enter Tryz.func104, Tryz.ntmps104
  go_wp2_with fail
  refine hdc.mono ?_
  rintro e w8 ⟨rfl, hb8⟩
  dsimp only
  go_step
  refine gl (.tuple #[S.zero.val, .bool false]) ?_
  refine gl S.zero.val ?_
  refine gl (.bool false) ?_
  refine gbox (ob:=.cells zero9 41) (Z:=zero9) (cs:=S.zero.cells) (t:=41) 41 (.tmp 3) (.tmp 11) rfl ?_
  refine gl (.bool false) ?_
  try simp only [Act.put, sA, sZ, sS]
  rw [setRow_new]
  have hB : Below W.heap.size W (w8.alloc (.cells S.zero.cells 41)):=hb8.alloc hb8.size _
  generalize (w8.alloc (.cells S.zero.cells 41)) = w9 at *
  clear hdc hb8
  go_wp2_with fail
  go_ret
  exact ⟨rfl, hB⟩
 | some s =>
  simp only [hd, Option.getD_some, Option.isSome_some] at hdc
  dsimp only
  go_enter Tryz.func104, Tryz.ntmps104
  go_wp2_with fail
  refine hdc.mono ?_
  rintro e w8 ⟨rfl, hb8⟩
  dsimp only
  go_step
  refine gl (.tuple #[s.val, .bool true]) ?_
  refine gl s.val ?_
  refine gl (.bool true) ?_
  refine gbox (ob:=.cells zero9 41) (Z:=zero9) (cs:=s.cells) (t:=41) 41 (.tmp 3) (.tmp 11) rfl ?_
  refine gl (.bool true) ?_
  try simp only [Act.put, sA, sZ, sS]
  rw [setRow_new]
  have hB : Below W.heap.size W (w8.alloc (.cells s.cells 41)):=hb8.alloc hb8.size _
  have hs9 : RowAt (w8.alloc (.cells s.cells 41)) w8.heap.size s.cells 41:=heap_alloc_new w8 _
  generalize (w8.alloc (.cells s.cells 41)) = w9 at *
  generalize w8.heap.size = sb at *
  have s0 : w9.cell? ⟨sb, 0, none⟩ = some (.i s.state):=RowAt.cell hs9 0
  clear hdc hb8 hs9
  go_wp2_with fail
  go_ret
  exact ⟨rfl, hB⟩
theorem TyAt.fresh {W : World} {mb wb : Nat} {ws : List Int} {tc : Int} (hm : CAt W mb wb ws tc) (hL : Laid W) (h0 : 0 ≠ mb) (hw0 : 0 ≠ wb) {W' : World} {tb : Nat} (hb : Below W.heap.size W W') (ht : W.heap.size ≤ tb) {t : Ty.Ty} (hr : YRow W' tb t none none) (hl : t.look = none) (hq : t.rt = none) : TyAt W' tb mb wb none none t ws tc:=by
 have h1:=hm.lt
 have h2 : 0 < W.heap.size:=hL.lt (by decide)
 exact ⟨hr, fun f e => (by rw [hl] at e; cases e), fun r e => (by rw [hq] at e; cases e), fun _ e => (nomatch e), fun _ e => (nomatch e), fun _ _ e => (nomatch e), hm.below hb, ⟨by omega, by omega, by omega, h0, hw0⟩, hL.stable (hb.block 0 h2)⟩
theorem ynew_any (W : World) (c : Conf.Cf) (w : Nat) : Calls Tryz.prog 24 #[c.val, .i w] W fun e W' => ∃ tb, e = .returned (.pointer (some ⟨tb, 0, none⟩)) ∧ YRow W' tb (Ty.Ty.new c w) none none ∧ W.heap.size ≤ tb ∧ Below W.heap.size W W':=by
 obtain ⟨cw, cs, cst, cwa, cu⟩:=c
 go_enter Tryz.func24, Tryz.ntmps24
 simp only [Conf.Cf.val, Conf.Cf.cells]
 go_wp2_with fail
 go_ret
 refine ⟨W.heap.size + 1, rfl, ?_, by omega, ((Below.refl _ _).alloc (Nat.le_refl _) _).alloc (by simp) _⟩
 exact heap_alloc2_new _ _ _
theorem ystate_any {W : World} {tb mb wb : Nat} {lo ro : Option Nat} {t : Ty.Ty} {ws : List Int} {tc : Int} (h : TyAt W tb mb wb lo ro t ws tc) : Calls Tryz.prog 31 #[.pointer (some ⟨tb, 0, none⟩)] W fun e W' => e = .returned (.i t.st) ∧ W = W':=by
 have c6 : W.cell? ⟨tb, 6, none⟩ = some (.i t.st):=h.cell 6
 clear h
 go_enter Tryz.func31, Tryz.ntmps31
 go_wp2_with fail
 go_ret
 exact ⟨rfl, rfl⟩
end Go.Proofs.YteadpgiffpfmnaaGreatDoor.Cl
