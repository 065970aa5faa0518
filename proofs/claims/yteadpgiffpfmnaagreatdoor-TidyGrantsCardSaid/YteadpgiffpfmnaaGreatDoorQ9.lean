/- Part 9 of the walks and plain laws that the last text joins. -/
import Derived.Test.YteadpgiffpfmnaaGreatDoorQ7
import Derived.Test.YteadpgiffpfmnaaGreatDoorQ8
import Derived.IntWalk
set_option maxRecDepth 100000
set_option maxHeartbeats 16000000
set_option linter.unusedVariables false
set_option linter.unusedSimpArgs false
namespace Go.Proofs.YteadpgiffpfmnaaGreatDoor.Tk
open Go.RowKit Hp Slot RowL Life
def alone (good : Bool) : Nat → Nat → Tk → List Int → Nat × Tk × List Int
 | 0, n, t, ws => (n + 1, t, ws)
 | f + 1, n, t, ws => if (t.step ws good).1.st = 15 then (n + 1, (t.step ws good).1, (t.step ws good).2.1) else alone good f (n + 1) (t.step ws good).1 (t.step ws good).2.1
theorem right_version {s : S} {v : Int} (h : ({ s with version:=0 } : S).right = true) (hv : 0 ≤ v ∧ v ≤ 32767) : ({ s with version:=v } : S).right = true:=by
 rw [right_iff] at h ⊢
 simp only at h ⊢
 obtain ⟨⟨q1, q2, q3, q4, q5, q6, q7⟩, r⟩:=h
 exact ⟨⟨q1, q2, q3, q4, q5, q6, hv⟩, r⟩
def DoneX (d : Nat) : Prop:=Mod.Done d ∨ d = 6 ∨ d = 8 ∨ d = 11 ∨ d = 12 ∨ d = 17
theorem actX_eq {d : Nat} (hd : Mod.Done d) (s : S) (own more : Int) : actX d s own more = Mod.act d s own more:=by
 rcases hd with rfl | rfl | rfl | rfl | rfl | rfl | rfl | rfl | rfl | rfl | rfl | rfl | rfl <;> rfl
theorem actX_right {d : Nat} (hd : DoneX d) {s : S} {own more : Int} (h : s.right = true) (ho : 0 ≤ own ∧ own ≤ 15) (hb : (actX d s own more).2 = true) : ({ (actX d s own more).1 with version:=0 } : S).right = true:=by
 rcases hd with hd | rfl | rfl | rfl | rfl | rfl
 ·rw [actX_eq hd] at hb ⊢
  exact Mod.act_right hd h ho hb
 ·exact Mod.to_right h ho (by simp)
 ·exact Mod.to_right h ho (by simp)
 ·simp only [actX] at hb ⊢
  simp at hb
  rw [right_iff] at h ⊢
  simp [«to»]
  omega
 ·exact Mod.to_right h ho (by simp)
 ·simp only [actX] at hb ⊢
  simp at hb
  rw [right_iff] at h ⊢
  simp [«to»]
  omega
theorem next_of {d : Nat} {s t : S} {own more : Int} (h : nextX s d own more = some t) : s.right = true ∧ (0 ≤ own ∧ own ≤ 15) ∧ (actX d s own more).2 = true ∧ t = { (actX d s own more).1 with version:=(s.version + 1) % 32768 }:=by
 unfold nextX nextOf at h
 split at h
 ·rename_i hc
  simp only [Option.some.injEq] at h
  exact ⟨hc.1, ⟨hc.2.1, hc.2.2.1⟩, hc.2.2.2, h.symm⟩
 ·cases h
theorem next_is {d : Nat} {s : S} {own more : Int} (h : s.right = true) (ho : 0 ≤ own ∧ own ≤ 15) (hb : (actX d s own more).2 = true) : nextX s d own more = some { (actX d s own more).1 with version:=(s.version + 1) % 32768 }:=by
 unfold nextX nextOf
 rw [if_pos ⟨h, ho.1, ho.2, hb⟩]
theorem next_no {d : Nat} {s : S} {own more : Int} (hb : (actX d s own more).2 = false) : nextX s d own more = none:=by
 unfold nextX nextOf
 rw [if_neg (by simp [hb])]
theorem next_right {d : Nat} (hd : DoneX d) {s t : S} {own more : Int} (h : nextX s d own more = some t) : t.right = true:=by
 obtain ⟨h1, h2, h3, rfl⟩:=next_of h
 exact right_version (actX_right hd h1 h2 h3) (by omega)
def cells (pre : List Int) (ss : List S) : List Int:=pre ++ ss.map S.word
structure Pool (c : Conf.Cf) (pre : List Int) (ss : List S) : Prop where
 pl : pre.length = 3 + 2 * c.workers.toNat
 sl : ss.length = ns c
 ok : ∀ s ∈ ss, s.right = true
section
variable {c : Conf.Cf} {pre : List Int} {ss : List S}
theorem rd_slot (h : Pool c pre ss) {i : Nat} {s : S} (hs : ss[i]? = some s) : rd (cells pre ss) (sc c i) = s.word:=by
 unfold rd cells sc
 rw [List.getD_eq_getElem?_getD, List.getElem?_append_right (by have:=h.pl; omega)]
 have : 3 + 2 * c.workers.toNat + i - pre.length = i:=by have:=h.pl; omega
 rw [this, List.getElem?_map, hs]
 rfl
theorem rd_pre (h : Pool c pre ss) {i : Nat} (hi : i < 3 + 2 * c.workers.toNat) : rd (cells pre ss) i = pre.getD i 0:=by
 unfold rd cells
 rw [List.getD_eq_getElem?_getD, List.getElem?_append_left (by have:=h.pl; omega), List.getD_eq_getElem?_getD]
theorem set_slot (h : Pool c pre ss) {i : Nat} (s : S) : (cells pre ss).set (sc c i) s.word = cells pre (ss.set i s):=by
 unfold cells sc
 rw [List.set_append_right _ _ (by have:=h.pl; omega)]
 have : 3 + 2 * c.workers.toNat + i - pre.length = i:=by have:=h.pl; omega
 rw [this, List.map_set]
theorem set_pre (h : Pool c pre ss) {i : Nat} (hi : i < 3 + 2 * c.workers.toNat) (x : Int) : (cells pre ss).set i x = cells (pre.set i x) ss:=by
 unfold cells
 rw [List.set_append_left _ _ (by have:=h.pl; omega)]
theorem Pool.set (h : Pool c pre ss) {i : Nat} {s : S} (hs : s.right = true) : Pool c pre (ss.set i s):=by
 refine ⟨h.pl, by simpa using h.sl, fun t ht => ?_⟩
 rcases List.mem_or_eq_of_mem_set ht with h1 | h1
 ·exact h.ok t h1
 ·rw [h1]; exact hs
theorem Pool.setPre (h : Pool c pre ss) (i : Nat) (x : Int) : Pool c (pre.set i x) ss:=⟨by simpa using h.pl, h.sl, h.ok⟩
theorem Pool.get (h : Pool c pre ss) {i : Nat} {s : S} (hs : ss[i]? = some s) : s.right = true:=h.ok s (List.mem_of_getElem? hs)
theorem fits_slot (h : Pool c pre ss) {i : Nat} {s : S} (hs : ss[i]? = some s) (kind own : Int) : fitsW (rd (cells pre ss) (sc c i)) kind own = Find.fits s kind own:=by
 rw [rd_slot h hs]
 unfold fitsW
 rw [dec_word (h.get hs)]
end
def it (good : Bool) : Nat → Tk × List Int → Tk × List Int
 | 0, x => x
 | n + 1, x => it good n ((x.1.step x.2 good).1, (x.1.step x.2 good).2.1)
theorem it_add (good : Bool) (m n : Nat) (x : Tk × List Int) : it good (m + n) x = it good n (it good m x):=by
 induction m generalizing x with
 | zero => rw [Nat.zero_add]; rfl
 | succ m ih => rw [Nat.succ_add]; exact ih _
theorem it_one (good : Bool) {t t' : Tk} {ws ws' : List Int} {k : Nat} (h : t.step ws good = (t', ws', k)) : it good 1 (t, ws) = (t', ws'):=by
 show ((t.step ws good).1, (t.step ws good).2.1) = _
 rw [h]
theorem step_done (good : Bool) {t : Tk} {ws : List Int} (h : t.st = 15) : t.step ws good = (t, ws, 0):=by
 unfold Tk.step
 rw [h]
 rfl
theorem it_done (good : Bool) (n : Nat) {t : Tk} {ws : List Int} (h : t.st = 15) : it good n (t, ws) = (t, ws):=by
 induction n with
 | zero => rfl
 | succ n ih =>
  show it good n _ = _
  rw [step_done good h]
  exact ih
theorem alone_of (good : Bool) : ∀ (n f k : Nat) {t : Tk} {ws : List Int} {t' : Tk} {ws' : List Int}, it good (n + 1) (t, ws) = (t', ws') → t'.st = 15 → n < f → (alone good f k t ws).2 = (t', ws') ∧ (alone good f k t ws).1 ≤ k + n + 1:=by
 intro n
 induction n with
 | zero =>
  intro f k t ws t' ws' h h15 hf
  obtain ⟨f, rfl⟩ : ∃ g, f = g + 1:=⟨f - 1, by omega⟩
  have h1 : ((t.step ws good).1, (t.step ws good).2.1) = (t', ws'):=h
  unfold alone
  have h2 : (t.step ws good).1 = t':=congrArg Prod.fst h1
  rw [if_pos (by rw [h2]; exact h15)]
  exact ⟨h1, by simp⟩
 | succ n ih =>
  intro f k t ws t' ws' h h15 hf
  obtain ⟨f, rfl⟩ : ∃ g, f = g + 1:=⟨f - 1, by omega⟩
  have h1 : it good (n + 1) ((t.step ws good).1, (t.step ws good).2.1) = (t', ws'):=h
  unfold alone
  split
  ·rename_i hd
   rw [it_done good _ hd] at h1
   exact ⟨h1, by simp⟩
  ·obtain ⟨h2, h3⟩:=ih f (k + 1) h1 h15 (by omega)
   exact ⟨h2, by omega⟩
def lk (kd ow : Int) (k : Nat) (wd : Int) : Option Fd:=some ⟨kd, ow, k, wd, false⟩
section
variable {c : Conf.Cf} {pre : List Int} {ss : List S} {t : Tk} {kd ow wd : Int} {k : Nat} {good : Bool}
theorem seek_miss (h : Pool c pre ss) (hc : t.cf = c) (hl : t.look = lk kd ow k wd) {s : S} (hs : ss[k]? = some s) (hf : Find.fits s kd ow = false) :
  t.seek (cells pre ss) = (false, decide (ns c ≤ k + 1), { t with look:=lk kd ow (k + 1) wd }, 1):=by
 have hk : k < ns c:=by rw [← h.sl]; exact (List.getElem?_eq_some_iff.1 hs).1
 unfold Tk.seek Tk.fd
 rw [hl]
 simp only [lk, Option.getD_some, Fd.step, hc, Bool.false_eq_true, false_or]
 rw [if_neg (by omega), if_neg (by rw [fits_slot h hs, hf]; simp)]
 simp
theorem seek_hit (h : Pool c pre ss) (hc : t.cf = c) (hl : t.look = lk kd ow k wd) {s : S} (hs : ss[k]? = some s) (hf : Find.fits s kd ow = true) :
  t.seek (cells pre ss) = (true, false, { t with look:=some ⟨kd, ow, k, s.word, true⟩ }, 1):=by
 have hk : k < ns c:=by rw [← h.sl]; exact (List.getElem?_eq_some_iff.1 hs).1
 unfold Tk.seek Tk.fd
 rw [hl]
 simp only [lk, Option.getD_some, Fd.step, hc, Bool.false_eq_true, false_or]
 rw [if_neg (by omega), if_pos (by rw [fits_slot h hs, hf])]
 simp [rd_slot h hs]
theorem seek_end (hc : t.cf = c) (hl : t.look = lk kd ow k wd) (hk : ns c ≤ k) (ws : List Int) : t.seek ws = (false, true, t, 0):=by
 obtain ⟨a1, a2, a3, a4, a5, a6, a7, a8, a9, a10⟩:=t
 simp only at hl hc
 subst hl
 subst hc
 simp [Tk.seek, Tk.fd, lk, Fd.step, hk]
def Looks (n : Nat) : Prop:=n = 1 ∨ n = 3 ∨ n = 5 ∨ n = 7
theorem step_miss (h : Pool c pre ss) (hc : t.cf = c) (hst : Looks t.st) (hl : t.look = lk kd ow k wd) {s : S} (hs : ss[k]? = some s) (hf : Find.fits s kd ow = false) (hk : k + 1 < ns c) :
  t.step (cells pre ss) good = ({ t with look:=lk kd ow (k + 1) wd }, cells pre ss, 1):=by
 have e:=seek_miss h hc hl hs hf
 have e2 : decide (ns c ≤ k + 1) = false:=by simp; omega
 rw [e2] at e
 rcases hst with q | q | q | q <;> (unfold Tk.step; rw [q]; simp only [e]; simp [q])
theorem scan (h : Pool c pre ss) (d : Nat) : ∀ {t : Tk} {k : Nat}, t.cf = c → Looks t.st → t.look = lk kd ow k wd → k + d < ns c → (∀ i s, k ≤ i → i < k + d → ss[i]? = some s → Find.fits s kd ow = false) →
  it good d (t, cells pre ss) = ({ t with look:=lk kd ow (k + d) wd }, cells pre ss):=by
 induction d with
 | zero =>
  intro t k hc hst hl hk hn
  have e : ({ t with look:=lk kd ow (k + 0) wd } : Tk) = t:=by
   obtain ⟨a1, a2, a3, a4, a5, a6, a7, a8, a9, a10⟩:=t
   simp only at hl
   subst hl
   rfl
  rw [e]
  rfl
 | succ d ih =>
  intro t k hc hst hl hk hn
  obtain ⟨s, hs⟩ : ∃ s, ss[k]? = some s:=⟨_, List.getElem?_eq_getElem (by rw [h.sl]; omega)⟩
  have h1:=step_miss (good:=good) h hc hst hl hs (hn k s (Nat.le_refl _) (by omega) hs) (by omega)
  show it good d _ = _
  rw [h1]
  have h2:=ih (t:={ t with look:=lk kd ow (k + 1) wd }) (k:=k + 1) hc hst rfl (by omega) (fun i s' h1 h2 => hn i s' (by omega) (by omega))
  simp only at h2 ⊢
  rw [h2]
  simp only [show k + 1 + d = k + (d + 1) by omega]
end
section
variable {t : Tk} {ws : List Int} {good : Bool}
theorem st_0 (hk : t.st = 0) : t.step ws good =
  (if rd ws 0 ≠ 0 then (t.finish 5, ws, 1) else (t.search 1 0 t.w, ws, 1)):=by
 unfold Tk.step
 rw [hk]
 try rfl
theorem st_1 (hk : t.st = 1) : t.step ws good =
  (let r:=t.seek ws; if r.1 then ({ r.2.2.1 with st:=2 }, ws, r.2.2.2) else if r.2.1 then (r.2.2.1.search 3 1 t.w, ws, r.2.2.2) else (r.2.2.1, ws, r.2.2.2)):=by
 unfold Tk.step
 rw [hk]
 try rfl
theorem st_2 (hk : t.st = 2) : t.step ws good =
  (let r:={ t with st:=1 }.seize 3 ws; if r.1 then ({ r.2.1 with st:=10 }, r.2.2) else r.2):=by
 unfold Tk.step
 rw [hk]
 try rfl
theorem st_3 (hk : t.st = 3) : t.step ws good =
  (let r:=t.seek ws; if r.1 then ({ r.2.2.1 with st:=4 }, ws, r.2.2.2) else if r.2.1 then (r.2.2.1.search 7 2 t.w, ws, r.2.2.2) else (r.2.2.1, ws, r.2.2.2)):=by
 unfold Tk.step
 rw [hk]
 try rfl
theorem st_4 (hk : t.st = 4) : t.step ws good =
  (let r:={ t with st:=3 }.seize 3 ws
  if r.1 then (match dec t.fd.word with
   | some s => if s.own ≠ t.w then ({ r.2.1 with passes:=false }.search 5 0 s.own, r.2.2) else ({ r.2.1 with st:=10 }, r.2.2)
   | none => ({ r.2.1 with st:=10 }, r.2.2)) else r.2):=by
 unfold Tk.step
 rw [hk]
 try rfl
theorem st_5 (hk : t.st = 5) : t.step ws good =
  (let r:=t.seek ws
  if r.1 && r.2.2.1.passes then ({ r.2.2.1 with passes:=false, look:=some r.2.2.1.fd.go }, ws, r.2.2.2)
  else if r.1 then ({ r.2.2.1 with passes:=true, st:=6 }, ws, r.2.2.2)
  else if r.2.1 then ({ r.2.2.1 with st:=10 }, ws, r.2.2.2) else (r.2.2.1, ws, r.2.2.2)):=by
 unfold Tk.step
 rw [hk]
 try rfl
theorem st_6 (hk : t.st = 6) : t.step ws good =
  (match nextW t.fd.word 9 t.w 0 with
  | some nw => ({ t with look:=some t.fd.go, st:=5 }, (cas ws (sc t.cf t.fd.at') t.fd.word nw).2, 1)
  | none => ({ t with look:=some t.fd.go, st:=5 }, ws, 0)):=by
 unfold Tk.step
 rw [hk]
 try rfl
theorem st_7 (hk : t.st = 7) : t.step ws good =
  (let r:=t.seek ws; if r.1 then ({ r.2.2.1 with st:=8 }, ws, r.2.2.2) else if r.2.1 then (r.2.2.1.finish 3, ws, r.2.2.2) else (r.2.2.1, ws, r.2.2.2)):=by
 unfold Tk.step
 rw [hk]
 try rfl
theorem st_8 (hk : t.st = 8) : t.step ws good =
  (let r:={ t with st:=7 }.seize 0 ws; if r.1 then ({ r.2.1 with st:=9 }, r.2.2) else r.2):=by
 unfold Tk.step
 rw [hk]
 try rfl
theorem st_9 (hk : t.st = 9) : t.step ws good =
  (let r:=t.swap t.i t.word (if good then 1 else 2) ws; if r.1 && good then ({ r.2.1 with st:=10 }, r.2.2) else (r.2.1.finish 6, r.2.2)):=by
 unfold Tk.step
 rw [hk]
 try rfl
theorem st_10 (hk : t.st = 10) : t.step ws good =
  (if rd ws 0 = 0 then (t.finish 0, ws, 1) else ({ t with st:=11 }, ws, 1)):=by
 unfold Tk.step
 rw [hk]
 try rfl
theorem st_11 (hk : t.st = 11) : t.step ws good =
  (let word:=rd ws (sc t.cf t.i)
  match dec word with
  | some s => if s.state = 3 ∧ s.own = t.w ∧ s.gen = t.gen then ({ t with rt:=some (Rt.new (sc t.cf t.i) word), st:=12 }, ws, 1) else (t.finish 5, ws, 1)
  | none => (t.finish 5, ws, 1)):=by
 unfold Tk.step
 rw [hk]
 try rfl
theorem st_12 (hk : t.st = 12) : t.step ws good =
  (let r:=t.ret.step ws
  if r.1 then (if r.2.1.swapped then ({ t with rt:=some r.2.1 }.finish 5, r.2.2) else ({ t with rt:=some r.2.1, st:=11 }, r.2.2)) else ({ t with rt:=some r.2.1 }, r.2.2)):=by
 unfold Tk.step
 rw [hk]
 try rfl
theorem st_13 (hk : t.st = 13) : t.step ws good =
  (({ t with word:=rd ws (sc t.cf t.i), st:=14 }, ws, 1)):=by
 unfold Tk.step
 rw [hk]
 try rfl
theorem st_14 (hk : t.st = 14) : t.step ws good =
  (match (dec t.word).bind fun s => nextX s 16 t.w 0 with
  | none => (t.finish 5, ws, 0)
  | some s => let r:=t.swap t.i t.word 16 ws
   if r.1 then (if s.state = 3 then ({ r.2.1 with st:=10 }, r.2.2) else ({ r.2.1 with st:=9 }, r.2.2)) else ({ r.2.1 with st:=13 }, r.2.2)):=by
 unfold Tk.step
 rw [hk]
 try rfl
theorem st_15 (hk : t.st = 15) : t.step ws good =
  ((t, ws, 0)):=by
 unfold Tk.step
 rw [hk]
 try rfl
end
structure SmallC (c : Conf.Cf) : Prop where
 w : 0 ≤ c.workers ∧ c.workers ≤ 8
 s : 0 ≤ c.slots ∧ c.slots ≤ 100
def RtOk (n : Nat) (r : Rt) : Prop:=r.cell < n ∧ r.st ≤ 4
theorem RtOk.step {n : Nat} {r : Rt} (h : RtOk n r) (ws : List Int) : RtOk n (r.step ws).2.1 ∧ (r.step ws).2.2.1.length = ws.length:=by
 unfold Rt.step
 split
 ·split
  ·split
   ·exact ⟨⟨h.1, by simp⟩, by simp⟩
   ·exact ⟨⟨h.1, by simp [Rt.end']⟩, rfl⟩
  ·exact ⟨⟨h.1, by simp [Rt.end']⟩, rfl⟩
 ·exact ⟨⟨h.1, by simp⟩, rfl⟩
 ·split
  ·refine ⟨⟨h.1, by simp⟩, ?_⟩
   simp only [cas]
   split <;> simp
  ·exact ⟨⟨h.1, by simp⟩, rfl⟩
 ·exact ⟨⟨h.1, by simp [Rt.end']⟩, by simp⟩
 ·exact ⟨⟨h.1, by simp [Rt.end']⟩, rfl⟩
theorem swap_len (t : Tk) (i : Nat) (word : Int) (d : Nat) (ws : List Int) : (t.swap i word d ws).2.2.1.length = ws.length:=by
 unfold Tk.swap
 split
 ·split <;> simp
 ·rfl
theorem swap_take (t : Tk) (i : Nat) (word : Int) (d : Nat) (ws : List Int) : (∃ x g, (t.swap i word d ws).2.1 = { t with i:=i, word:=x, gen:=g } ∧ (t.swap i word d ws).1 = true) ∨ ((t.swap i word d ws).2.1 = t ∧ (t.swap i word d ws).1 = false):=by
 unfold Tk.swap
 split
 ·split
  ·exact .inl ⟨_, _, rfl, rfl⟩
  ·exact .inr ⟨rfl, rfl⟩
 ·exact .inr ⟨rfl, rfl⟩
theorem seek_eq {t : Tk} {f : Tk.Fd} (hl : t.look = some f) (ws : List Int) : t.seek ws = ((f.step t.cf ws).2.1.found, (f.step t.cf ws).1 && !(f.step t.cf ws).2.1.found, { t with look:=some (f.step t.cf ws).2.1 }, (f.step t.cf ws).2.2):=by
 unfold Tk.seek Tk.fd
 rw [hl]
 rfl
theorem swap_cf (t : Tk) (i : Nat) (word : Int) (d : Nat) (ws : List Int) : (t.swap i word d ws).2.1.cf = t.cf ∧ (t.swap i word d ws).2.1.w = t.w:=by
 rcases swap_take t i word d ws with ⟨x, g, e, -⟩ | ⟨e, -⟩ <;> rw [e] <;> exact ⟨rfl, rfl⟩
theorem seize_cf (t : Tk) (d : Nat) (ws : List Int) : (t.seize d ws).2.1.cf = t.cf ∧ (t.seize d ws).2.1.w = t.w:=by
 unfold Tk.seize
 dsimp only
 split <;> exact swap_cf t _ _ _ _
theorem step_cf (t : Tk) (ws : List Int) (good : Bool) (hst : t.st ≤ 15) : (t.step ws good).1.cf = t.cf ∧ (t.step ws good).1.w = t.w:=by
 have hcases : t.st = 0 ∨ t.st = 1 ∨ t.st = 2 ∨ t.st = 3 ∨ t.st = 4 ∨ t.st = 5 ∨ t.st = 6 ∨ t.st = 7 ∨ t.st = 8 ∨ t.st = 9 ∨ t.st = 10 ∨ t.st = 11 ∨ t.st = 12 ∨ t.st = 13 ∨ t.st = 14 ∨ t.st = 15:=by omega
 rcases hcases with hk | hk | hk | hk | hk | hk | hk | hk | hk | hk | hk | hk | hk | hk | hk | hk
 ·rw [st_0 hk]
  try dsimp only
  (repeat' split) <;> first | exact ⟨rfl, rfl⟩ | exact swap_cf t _ _ _ _ | exact seize_cf { t with st:=1 } 3 ws | exact seize_cf { t with st:=3 } 3 ws | exact seize_cf { t with st:=7 } 0 ws
 ·rw [st_1 hk]
  try dsimp only
  (repeat' split) <;> first | exact ⟨rfl, rfl⟩ | exact swap_cf t _ _ _ _ | exact seize_cf { t with st:=1 } 3 ws | exact seize_cf { t with st:=3 } 3 ws | exact seize_cf { t with st:=7 } 0 ws
 ·rw [st_2 hk]
  try dsimp only
  (repeat' split) <;> first | exact ⟨rfl, rfl⟩ | exact swap_cf t _ _ _ _ | exact seize_cf { t with st:=1 } 3 ws | exact seize_cf { t with st:=3 } 3 ws | exact seize_cf { t with st:=7 } 0 ws
 ·rw [st_3 hk]
  try dsimp only
  (repeat' split) <;> first | exact ⟨rfl, rfl⟩ | exact swap_cf t _ _ _ _ | exact seize_cf { t with st:=1 } 3 ws | exact seize_cf { t with st:=3 } 3 ws | exact seize_cf { t with st:=7 } 0 ws
 ·rw [st_4 hk]
  try dsimp only
  (repeat' split) <;> first | exact ⟨rfl, rfl⟩ | exact swap_cf t _ _ _ _ | exact seize_cf { t with st:=1 } 3 ws | exact seize_cf { t with st:=3 } 3 ws | exact seize_cf { t with st:=7 } 0 ws
 ·rw [st_5 hk]
  try dsimp only
  (repeat' split) <;> first | exact ⟨rfl, rfl⟩ | exact swap_cf t _ _ _ _ | exact seize_cf { t with st:=1 } 3 ws | exact seize_cf { t with st:=3 } 3 ws | exact seize_cf { t with st:=7 } 0 ws
 ·rw [st_6 hk]
  try dsimp only
  (repeat' split) <;> first | exact ⟨rfl, rfl⟩ | exact swap_cf t _ _ _ _ | exact seize_cf { t with st:=1 } 3 ws | exact seize_cf { t with st:=3 } 3 ws | exact seize_cf { t with st:=7 } 0 ws
 ·rw [st_7 hk]
  try dsimp only
  (repeat' split) <;> first | exact ⟨rfl, rfl⟩ | exact swap_cf t _ _ _ _ | exact seize_cf { t with st:=1 } 3 ws | exact seize_cf { t with st:=3 } 3 ws | exact seize_cf { t with st:=7 } 0 ws
 ·rw [st_8 hk]
  try dsimp only
  (repeat' split) <;> first | exact ⟨rfl, rfl⟩ | exact swap_cf t _ _ _ _ | exact seize_cf { t with st:=1 } 3 ws | exact seize_cf { t with st:=3 } 3 ws | exact seize_cf { t with st:=7 } 0 ws
 ·rw [st_9 hk]
  try dsimp only
  generalize (if good = true then 1 else 2) = d
  (repeat' split) <;> first | exact ⟨rfl, rfl⟩ | exact swap_cf t _ _ _ _ | exact seize_cf { t with st:=1 } 3 ws | exact seize_cf { t with st:=3 } 3 ws | exact seize_cf { t with st:=7 } 0 ws
 ·rw [st_10 hk]
  try dsimp only
  (repeat' split) <;> first | exact ⟨rfl, rfl⟩ | exact swap_cf t _ _ _ _ | exact seize_cf { t with st:=1 } 3 ws | exact seize_cf { t with st:=3 } 3 ws | exact seize_cf { t with st:=7 } 0 ws
 ·rw [st_11 hk]
  try dsimp only
  (repeat' split) <;> first | exact ⟨rfl, rfl⟩ | exact swap_cf t _ _ _ _ | exact seize_cf { t with st:=1 } 3 ws | exact seize_cf { t with st:=3 } 3 ws | exact seize_cf { t with st:=7 } 0 ws
 ·rw [st_12 hk]
  try dsimp only
  (repeat' split) <;> first | exact ⟨rfl, rfl⟩ | exact swap_cf t _ _ _ _ | exact seize_cf { t with st:=1 } 3 ws | exact seize_cf { t with st:=3 } 3 ws | exact seize_cf { t with st:=7 } 0 ws
 ·rw [st_13 hk]
  try dsimp only
  (repeat' split) <;> first | exact ⟨rfl, rfl⟩ | exact swap_cf t _ _ _ _ | exact seize_cf { t with st:=1 } 3 ws | exact seize_cf { t with st:=3 } 3 ws | exact seize_cf { t with st:=7 } 0 ws
 ·rw [st_14 hk]
  try dsimp only
  (repeat' split) <;> first | exact ⟨rfl, rfl⟩ | exact swap_cf t _ _ _ _ | exact seize_cf { t with st:=1 } 3 ws | exact seize_cf { t with st:=3 } 3 ws | exact seize_cf { t with st:=7 } 0 ws
 ·rw [st_15 hk]
  try dsimp only
  (repeat' split) <;> first | exact ⟨rfl, rfl⟩ | exact swap_cf t _ _ _ _ | exact seize_cf { t with st:=1 } 3 ws | exact seize_cf { t with st:=3 } 3 ws | exact seize_cf { t with st:=7 } 0 ws
def leasedV (s : S) (w : Int) : S:={ leased s w with version:=(s.version + 1) % 32768 }
def moveV (s : S) (w : Int) : S:={ «to» s w 2 with version:=(s.version + 1) % 32768 }
def dialV (s : S) (w : Int) : S:={ «to» s w 1 with version:=(s.version + 1) % 32768 }
def First (kd ow : Int) (ss : List S) (j : Nat) : Prop:=∃ s, ss[j]? = some s ∧ Find.fits s kd ow = true ∧ ∀ i s', i < j → ss[i]? = some s' → Find.fits s' kd ow = false
def NoFit (kd ow : Int) (ss : List S) : Prop:=∀ (i : Nat) s, ss[i]? = some s → Find.fits s kd ow = false
theorem first_or (kd ow : Int) (ss : List S) : NoFit kd ow ss ∨ ∃ j, First kd ow ss j:=by
 by_cases h : ∃ (j : Nat) (s : S), ss[j]? = some s ∧ Find.fits s kd ow = true
 ·right
  have key : ∀ n, (∃ (j : Nat) (s : S), j < n ∧ ss[j]? = some s ∧ Find.fits s kd ow = true) → ∃ j, First kd ow ss j:=by
   intro n
   induction n with
   | zero => rintro ⟨j, s, hj, -⟩; omega
   | succ n ih =>
    rintro ⟨j, s, hj, hs, hf⟩
    by_cases h2 : ∃ (j : Nat) (s : S), j < n ∧ ss[j]? = some s ∧ Find.fits s kd ow = true
    ·exact ih h2
    ·refine ⟨j, s, hs, hf, fun i s' hi hs' => ?_⟩
     cases hc : Find.fits s' kd ow
     ·rfl
     ·exact absurd ⟨i, s', by omega, hs', hc⟩ h2
  obtain ⟨j, s, hs, hf⟩:=h
  exact key (j + 1) ⟨j, s, by omega, hs, hf⟩
 ·left
  intro i s hs
  cases hc : Find.fits s kd ow
  ·rfl
  ·exact absurd ⟨i, s, hs, hc⟩ h
theorem fits_idle {s : S} {kd ow : Int} (hk : kd = 0 ∨ kd = 1) (h : Find.fits s kd ow = true) : s.state = 2 ∧ s.broken = false ∧ (kd = 0 → s.own = ow):=by
 rcases hk with rfl | rfl <;> simp [Find.fits, Find.sound] at h <;> simp [h]
theorem fits_own (s : S) (v : Int) : Find.fits s 0 v = true ↔ s.state = 2 ∧ s.broken = false ∧ s.own = v:=by
 simp [Find.fits, Find.sound, and_assoc]
theorem fits_free {s : S} {ow : Int} (h : Find.fits s 2 ow = true) : s.state = 0:=by simpa [Find.fits] using h
section
variable {c : Conf.Cf} {pre : List Int} {ss : List S} {t : Tk} {kd ow wd w : Int} {k j : Nat} {good : Bool}
theorem next_lease {s : S} (h : s.right = true) (hw : 0 ≤ w ∧ w ≤ 15) (h2 : s.state = 2) (hb : s.broken = false) : nextX s 3 w 0 = some (leasedV s w):=by
 rw [next_is h hw (by simp [actX, Mod.act, h2, hb])]
 rfl
theorem next_move {s : S} (h : s.right = true) (hw : 0 ≤ w ∧ w ≤ 15) (h2 : s.state = 2) : nextX s 9 w 0 = some (moveV s w):=by
 rw [next_is h hw (by simp [actX, Mod.act, h2])]
 rfl
theorem next_dial {s : S} (h : s.right = true) (hw : 0 ≤ w ∧ w ≤ 15) (h2 : s.state = 0) : nextX s 0 w 0 = some (dialV s w):=by
 rw [next_is h hw (by simp [actX, Mod.act, h2])]
 rfl
theorem done3 : DoneX 3:=.inl (by simp [Mod.Done])
theorem done9 : DoneX 9:=.inl (by simp [Mod.Done])
theorem done0 : DoneX 0:=.inl (by simp [Mod.Done])
theorem done1 : DoneX 1:=.inl (by simp [Mod.Done])
theorem done2 : DoneX 2:=.inl (by simp [Mod.Done])
theorem swap_own (h : Pool c pre ss) (hc : t.cf = c) {s s' : S} (hs : ss[j]? = some s) {d : Nat} (hn : nextX s d t.w 0 = some s') :
  t.swap j s.word d (cells pre ss) = (true, { t with i:=j, word:=s'.word, gen:=s'.gen }, cells pre (ss.set j s'), 1):=by
 unfold Tk.swap
 rw [dec_word (h.get hs)]
 simp only [Option.bind_some, hn, hc]
 rw [if_pos (rd_slot h hs), set_slot h]
theorem look_hit (h : Pool c pre ss) (hc : t.cf = c) (hst : Looks t.st) (hl : t.look = lk kd ow 0 wd) (hf : First kd ow ss j) :
  ∃ s, ss[j]? = some s ∧ Find.fits s kd ow = true ∧ it good j (t, cells pre ss) = ({ t with look:=lk kd ow j wd }, cells pre ss):=by
 obtain ⟨s, hs, hfs, hn⟩:=hf
 refine ⟨s, hs, hfs, ?_⟩
 have hj : j < ns c:=by rw [← h.sl]; exact (List.getElem?_eq_some_iff.1 hs).1
 have:=scan (good:=good) (wd:=wd) h j hc hst hl (by omega) (fun i s' _ hi hs' => hn i s' (by omega) hs')
 simpa using this
theorem look_none (h : Pool c pre ss) (hc : t.cf = c) (hst : Looks t.st) (hl : t.look = lk kd ow 0 wd) (h1 : 1 ≤ ns c) (hf : NoFit kd ow ss) :
  ∃ s, ss[ns c - 1]? = some s ∧ Find.fits s kd ow = false ∧ it good (ns c - 1) (t, cells pre ss) = ({ t with look:=lk kd ow (ns c - 1) wd }, cells pre ss):=by
 obtain ⟨s, hs⟩ : ∃ s, ss[ns c - 1]? = some s:=⟨_, List.getElem?_eq_getElem (by rw [h.sl]; omega)⟩
 refine ⟨s, hs, hf _ s hs, ?_⟩
 have:=scan (good:=good) (wd:=wd) h (ns c - 1) hc hst hl (by omega) (fun i s' _ hi hs' => hf i s' hs')
 simpa using this
theorem hit_step (h : Pool c pre ss) (hc : t.cf = c) (hl : t.look = lk kd ow j wd) {s : S} (hs : ss[j]? = some s) (hf : Find.fits s kd ow = true) (hst : t.st = 1 ∨ t.st = 3 ∨ t.st = 7) :
  t.step (cells pre ss) good = ({ t with look:=some ⟨kd, ow, j, s.word, true⟩, st:=t.st + 1 }, cells pre ss, 1):=by
 have e:=seek_hit h hc hl hs hf
 rcases hst with q | q | q <;> (unfold Tk.step; rw [q]; simp only [e]; simp [q])
theorem end_step (h : Pool c pre ss) (hc : t.cf = c) (hl : t.look = lk kd ow (ns c - 1) wd) (h1 : 1 ≤ ns c) {s : S} (hs : ss[ns c - 1]? = some s) (hf : Find.fits s kd ow = false) (hst : t.st = 1 ∨ t.st = 3 ∨ t.st = 7) :
  t.step (cells pre ss) good = (if t.st = 1 then t.search 3 1 t.w else if t.st = 3 then t.search 7 2 t.w else { t with look:=lk kd ow (ns c) wd }.finish 3, cells pre ss, 1):=by
 have e:=seek_miss h hc hl hs hf
 have e2 : ns c - 1 + 1 = ns c:=by omega
 rw [e2] at e
 simp only [Nat.le_refl, decide_true] at e
 rcases hst with q | q | q <;> (unfold Tk.step; rw [q]; simp only [e]; simp [q, Tk.search])
theorem look_to (h : Pool c pre ss) (hc : t.cf = c) (h1 : 1 ≤ ns c) (hst : t.st = 1 ∨ t.st = 3 ∨ t.st = 7) (hl : t.look = lk kd ow 0 wd) :
  (NoFit kd ow ss → it good (ns c) (t, cells pre ss) = (if t.st = 1 then t.search 3 1 t.w else if t.st = 3 then t.search 7 2 t.w else { t with look:=lk kd ow (ns c) wd }.finish 3, cells pre ss)) ∧
  ∀ j, First kd ow ss j → ∃ s, ss[j]? = some s ∧ Find.fits s kd ow = true ∧ it good (j + 1) (t, cells pre ss) = ({ t with look:=some ⟨kd, ow, j, s.word, true⟩, st:=t.st + 1 }, cells pre ss):=by
 have hL : Looks t.st:=by rcases hst with q | q | q <;> simp [Looks, q]
 constructor
 ·intro hf
  obtain ⟨s, hs, hfs, hi⟩:=look_none (good:=good) h hc hL hl h1 hf
  have h2:=end_step (good:=good) (t:={ t with look:=lk kd ow (ns c - 1) wd }) h hc rfl h1 hs hfs hst
  have e : ns c = (ns c - 1) + 1:=by omega
  rw [e, it_add, hi, it_one good h2]
  simp only [Tk.search, ← e]
 ·intro j hf
  obtain ⟨s, hs, hfs, hi⟩:=look_hit (good:=good) h hc hL hl hf
  refine ⟨s, hs, hfs, ?_⟩
  rw [it_add, hi, it_one good (hit_step (t:={ t with look:=lk kd ow j wd }) h hc rfl hs hfs hst)]
def moveL (v w : Int) : Bool → List S → List S
 | _, [] => []
 | p, s :: l => if Find.fits s 0 v then (if p then s :: moveL v w false l else moveV s w :: moveL v w true l) else s :: moveL v w p l
theorem moveL_len (v w : Int) : ∀ (l : List S) (p : Bool), (moveL v w p l).length = l.length:=by
 intro l
 induction l with
 | nil => intro p; rfl
 | cons s l ih =>
  intro p
  unfold moveL
  split
  ·split <;> simp [ih]
  ·simp [ih]
theorem moveL_get (v w : Int) : ∀ (l : List S) (p : Bool) (i : Nat) (s : S), l[i]? = some s → Find.fits s 0 v = false → (moveL v w p l)[i]? = some s:=by
 intro l
 induction l with
 | nil => intro p i s h; simp at h
 | cons x l ih =>
  intro p i s h hf
  cases i with
  | zero =>
   simp only [List.getElem?_cons_zero, Option.some.injEq] at h
   subst h
   unfold moveL
   rw [hf]
   simp
  | succ i =>
   simp only [List.getElem?_cons_succ] at h
   unfold moveL
   split
   ·split
    ·simpa using ih _ i s h hf
    ·simpa using ih _ i s h hf
   ·simpa using ih _ i s h hf
theorem move_right {s : S} (h : s.right = true) (hw : 0 ≤ w ∧ w ≤ 15) (h2 : s.state = 2) : (moveV s w).right = true:=next_right done9 (next_move h hw h2)
theorem moveL_right (v : Int) (hw : 0 ≤ w ∧ w ≤ 15) : ∀ (l : List S) (p : Bool), (∀ s ∈ l, s.right = true) → ∀ s ∈ moveL v w p l, s.right = true:=by
 intro l
 induction l with
 | nil => intro p h s hs; simp [moveL] at hs
 | cons x l ih =>
  intro p h s hs
  unfold moveL at hs
  split at hs
  ·rename_i hf
   split at hs
   ·rcases List.mem_cons.1 hs with rfl | hs
    ·exact h _ (by simp)
    ·exact ih _ (fun s hs => h s (by simp [hs])) s hs
   ·rcases List.mem_cons.1 hs with rfl | hs
    ·exact move_right (h _ (by simp)) hw (fits_idle (.inl rfl) hf).1
    ·exact ih _ (fun s hs => h s (by simp [hs])) s hs
  ·rcases List.mem_cons.1 hs with rfl | hs
   ·exact h _ (by simp)
   ·exact ih _ (fun s hs => h s (by simp [hs])) s hs
theorem set_mid (A B : List S) (x y : S) : (A ++ x :: B).set A.length y = A ++ y :: B:=by
 rw [List.set_append_right _ _ (by omega)]
 simp
theorem move_run (hw : 0 ≤ w ∧ w ≤ 15) (v : Int) : ∀ (B A : List S) (p : Bool) (t : Tk) (wd : Int), Pool c pre (A ++ B) → t.cf = c → t.w = w → t.st = 5 → t.look = lk 0 v A.length wd → t.passes = p →
  ∃ n l' p', n ≤ 2 * B.length + 1 ∧ it good n (t, cells pre (A ++ B)) = ({ t with look:=l', passes:=p', st:=10 }, cells pre (A ++ moveL v w p B)):=by
 intro B
 induction B with
 | nil =>
  intro A p t wd h hc htw hst hl hp
  have e:=seek_end hc hl (by have:=h.sl; simp at this; omega) (cells pre (A ++ []))
  refine ⟨1, t.look, t.passes, by simp, ?_⟩
  rw [it_one good (t':={ t with st:=10 }) (ws':=cells pre (A ++ [])) (k:=0) (by unfold Tk.step; rw [hst]; simp only [e]; simp)]
  simp [moveL]
 | cons s B ih =>
  intro A p t wd h hc htw hst hl hp
  have hs : (A ++ s :: B)[A.length]? = some s:=by simp
  have hsr:=h.get hs
  have hA : A ++ s :: B = (A ++ [s]) ++ B:=by simp
  have hlen : (A ++ [s]).length = A.length + 1:=by simp
  by_cases hf : Find.fits s 0 v = true
  ·have e:=seek_hit h hc hl hs hf
   cases hpp : p
   ·
    rw [hpp] at hp
    have h1 : t.step (cells pre (A ++ s :: B)) good = ({ t with look:=some ⟨0, v, A.length, s.word, true⟩, passes:=true, st:=6 }, cells pre (A ++ s :: B), 1):=by
     unfold Tk.step; rw [hst]; simp only [e]; simp [hp]
    have hm:=next_move (w:=w) hsr hw (fits_idle (.inl rfl) hf).1
    have h2 : ({ t with look:=some ⟨0, v, A.length, s.word, true⟩, passes:=true, st:=6 } : Tk).step (cells pre (A ++ s :: B)) good = ({ t with look:=lk 0 v (A.length + 1) s.word, passes:=true, st:=5 }, cells pre (A ++ moveV s w :: B), 1):=by
     unfold Tk.step
     simp only [Tk.fd, Option.getD_some, nextW, dec_word hsr, Option.bind_some, htw, hm, Option.map_some, hc]
     unfold cas
     rw [if_pos (rd_slot h hs)]
     simp only [Fd.go, if_true, lk]
     rw [set_slot h, set_mid]
    have hP : Pool c pre ((A ++ [moveV s w]) ++ B):=by
     have:=h.set (i:=A.length) (move_right hsr hw (fits_idle (.inl rfl) hf).1)
     rw [set_mid] at this
     simpa using this
    obtain ⟨n, l', p', hn, hi⟩:=ih (A ++ [moveV s w]) true { t with look:=lk 0 v (A.length + 1) s.word, passes:=true, st:=5 } s.word hP hc htw rfl (by simp [lk]) rfl
    refine ⟨2 + n, l', p', by simp; omega, ?_⟩
    rw [it_add]
    have e2 : it good 2 (t, cells pre (A ++ s :: B)) = ({ t with look:=lk 0 v (A.length + 1) s.word, passes:=true, st:=5 }, cells pre (A ++ moveV s w :: B)):=by
     show it good 1 _ = _
     rw [h1]
     exact it_one good h2
    rw [e2]
    have e3 : A ++ moveV s w :: B = (A ++ [moveV s w]) ++ B:=by simp
    rw [e3, hi]
    rw [show moveL v w false (s :: B) = moveV s w :: moveL v w true B from by rw [moveL, if_pos hf]; rfl]
    simp
   ·rw [hpp] at hp
    have h1 : t.step (cells pre (A ++ s :: B)) good = ({ t with look:=lk 0 v (A.length + 1) s.word, passes:=false }, cells pre (A ++ s :: B), 1):=by
     unfold Tk.step; rw [hst]; simp only [e]; simp [hp, Tk.fd, Fd.go, lk, hst]
    obtain ⟨n, l', p', hn, hi⟩:=ih (A ++ [s]) false { t with look:=lk 0 v (A.length + 1) s.word, passes:=false } s.word (by rw [← hA]; exact h) hc htw hst (by simp [lk]) rfl
    refine ⟨1 + n, l', p', by simp; omega, ?_⟩
    rw [it_add, it_one good h1, hA, hi]
    rw [show moveL v w true (s :: B) = s :: moveL v w false B from by rw [moveL, if_pos hf]; rfl]
    simp
  ·have hf' : Find.fits s 0 v = false:=by simpa using hf
   have e:=seek_miss h hc hl hs hf'
   cases hB : B with
   | nil =>
    subst hB
    have hk : ns c ≤ A.length + 1:=by have:=h.sl; simp at this; omega
    simp only [hk, decide_true] at e
    have h1 : t.step (cells pre (A ++ [s])) good = ({ t with look:=lk 0 v (A.length + 1) wd, st:=10 }, cells pre (A ++ [s]), 1):=by
     unfold Tk.step; rw [hst]; simp only [e]; simp
    refine ⟨1, lk 0 v (A.length + 1) wd, t.passes, by simp, ?_⟩
    rw [it_one good h1]
    simp [moveL, hf']
   | cons y B' =>
    have hk : A.length + 1 < ns c:=by have:=h.sl; rw [hB] at this; simp at this; omega
    have h1:=step_miss (good:=good) h hc (.inr (.inr (.inl hst))) hl hs hf' hk
    obtain ⟨n, l', p', hn, hi⟩:=ih (A ++ [s]) p { t with look:=lk 0 v (A.length + 1) wd } wd (by rw [← hA]; exact h) hc htw hst (by simp [lk]) hp
    rw [← hB]
    refine ⟨1 + n, l', p', by simp; omega, ?_⟩
    rw [it_add, it_one good h1, hA, hi]
    rw [show moveL v w p (s :: B) = s :: moveL v w p B from by rw [moveL, if_neg hf]]
    simp
end
end Go.Proofs.YteadpgiffpfmnaaGreatDoor.Tk
namespace Go.Proofs.YteadpgiffpfmnaaGreatDoor.Cl
open Go.RowKit Hp RowL Conf Tk
theorem right_small {c : Cf} (h : c.right = true) : (1 ≤ c.workers ∧ c.workers ≤ 8) ∧ (1 ≤ c.slots ∧ c.slots ≤ 16):=by
 simp only [Cf.right, btw, Bool.and_eq_true, decide_eq_true_eq] at h
 exact ⟨h.1, h.2.1⟩
theorem mem_any (w : World) (c : Cf) (hr : c.right = true) : Calls Tryz.prog 35 #[c.val] w fun e w' => ∃ mb wb, e = .returned (.tuple #[.pointer (some ⟨mb, 0, none⟩), .i 0]) ∧
  CAt w' mb wb (List.replicate (sc c (ns c)) 0) 0 ∧ w.heap.size ≤ mb ∧ w.heap.size ≤ wb ∧ Below w.heap.size w w':=by
 obtain ⟨⟨a0, a1⟩, b0, b1⟩:=right_small hr
 have hri:=fun W => Conf.right_any W c
 rw [hr] at hri
 have hce:=fun W => cells_any W c ⟨by omega, a1⟩ ⟨by omega, by omega⟩
 have hn : 3 + 2 * c.workers + c.slots = ((sc c (ns c) : Nat) : Int):=by unfold sc ns; omega
 simp only [hn] at hce
 have hne:=fun W => new_any W (sc c (ns c)) (by unfold sc ns; omega)
 generalize sc c (ns c) = n at *
 clear hn hr a0 a1 b0 b1
 obtain ⟨cw, cs, cst, cwa, cu⟩:=c
 simp only [Cf.val, Cf.cells] at hri hce
 have hA : Below w.heap.size w (w.alloc (.cells (Ae cw cs cst cwa cu) 30)):=(Below.refl _ _).alloc (Nat.le_refl _) _
 have c0 : (w.alloc (.cells (Ae cw cs cst cwa cu) 30)).cell? ⟨w.heap.size, 0, none⟩ = some (.i cw):=by simp
 have c1 : (w.alloc (.cells (Ae cw cs cst cwa cu) 30)).cell? ⟨w.heap.size, 1, none⟩ = some (.i cs):=by simp
 have c2 : (w.alloc (.cells (Ae cw cs cst cwa cu) 30)).cell? ⟨w.heap.size, 2, none⟩ = some (.i cst):=by simp
 have c3 : (w.alloc (.cells (Ae cw cs cst cwa cu) 30)).cell? ⟨w.heap.size, 3, none⟩ = some (.i cwa):=by simp
 have c4 : (w.alloc (.cells (Ae cw cs cst cwa cu) 30)).cell? ⟨w.heap.size, 4, none⟩ = some (.i cu):=by simp
 go_enter Tryz.func35, Tryz.ntmps35
 simp only [Cf.val, Cf.cells]
 go_wp2_with fail
 refine (hri _).mono ?_
 rintro e w5 ⟨rfl, hb5⟩
 have d0:=Field.bkeep hb5 c0
 have d1:=Field.bkeep hb5 c1
 have d2:=Field.bkeep hb5 c2
 have d3:=Field.bkeep hb5 c3
 have d4:=Field.bkeep hb5 c4
 have hB5:=hA.trans (hb5.mono hA.size)
 clear hri hb5 c0 c1 c2 c3 c4
 go_wp2_with fail
 refine (hce _).mono ?_
 rintro e w6 ⟨rfl, hb6⟩
 have hB6:=hB5.trans (hb6.mono hB5.size)
 clear hce hb6 d0 d1 d2 d3 d4
 go_wp2_with fail
 refine (hne _).mono ?_
 rintro e w7 ⟨rfl, hm, hb7⟩
 have hB7:=hB6.trans (hb7.mono hB6.size)
 have hs:=hB6.size
 have HM:=Lib.hid hm
 clear hne hb7 hm
 go_wp2_with fail
 go_ret2
 exact ⟨w6.heap.size + 1, w6.heap.size, rfl, HM.out, by omega, by omega, hB7⟩
end Go.Proofs.YteadpgiffpfmnaaGreatDoor.Cl
namespace Go.Proofs.YteadpgiffpfmnaaGreatDoor.Cl
open Go.RowKit Hp Slot RowL Life
def IntsB (W : World) (g o : Nat) (l : List Int) : Prop:=∀ k x, l[k]? = some x → W.cell? ⟨g, o + k, none⟩ = some (.i x)
theorem IntsB.lt {W : World} {g o : Nat} {l : List Int} (h : IntsB W g o l) (h0 : 0 < l.length) : g < W.heap.size :=
 World.block_lt_of_cell? _ _ (h 0 _ (List.getElem?_eq_getElem h0))
theorem IntsB.below {W W' : World} {g o : Nat} {l : List Int} (h : IntsB W g o l) (hb : Below W.heap.size W W') : IntsB W' g o l:=fun k x hx => Field.bkeep hb (h k x hx)
def confOf (a b c d e : Int) : Conf.Cf:=⟨1 + a % 4, 1 + b % 5, c % 4, d % 4, 1 + e % 4⟩
theorem confOf_right (a b c d e : Int) : (confOf a b c d e).right = true:=by
 simp only [Conf.Cf.right, Conf.btw, confOf, Bool.and_eq_true]
 exact ⟨decide_eq_true (by omega), decide_eq_true (by omega), decide_eq_true (by omega), decide_eq_true (by omega), decide_eq_true (by omega)⟩
theorem conf_any (W : World) (a b c d e : Int) (ha : 0 ≤ a ∧ a < 256) (hb : 0 ≤ b ∧ b < 256) (hc : 0 ≤ c ∧ c < 256) (hd : 0 ≤ d ∧ d < 256) (he : 0 ≤ e ∧ e < 256) :
  Calls Tryz.prog 52 #[.agg #[.int .u8 a, .int .u8 b, .int .u8 c, .int .u8 d, .int .u8 e]] W fun en W' => en = .returned (confOf a b c d e).val ∧ Below W.heap.size W W':=by
 have hB : Below W.heap.size W ((W.alloc (.cells #[.int .u8 a, .int .u8 b, .int .u8 c, .int .u8 d, .int .u8 e] 23)).alloc (.cells (Ae 0 0 0 0 0) 30)):=((Below.refl _ _).alloc (Nat.le_refl _) _).alloc (by simp) _
 obtain ⟨a0, a1⟩:=ha
 obtain ⟨b0, b1⟩:=hb
 obtain ⟨c0, c1⟩:=hc
 obtain ⟨d0, d1⟩:=hd
 obtain ⟨e0, e1⟩:=he
 go_enter Tryz.func52, Tryz.ntmps52
 go_wp2
 have row : RowAt ((W.alloc (.cells #[.int .u8 a, .int .u8 b, .int .u8 c, .int .u8 d, .int .u8 e] 23)).alloc (.cells (confOf a b c d e).cells 30)) (W.heap.size + 1) (confOf a b c d e).cells 30:=by
  have:=RowAt.new (W.alloc (.cells #[.int .u8 a, .int .u8 b, .int .u8 c, .int .u8 d, .int .u8 e] 23)) (confOf a b c d e).cells 30
  simpa using this
 refine bodyPost_ret (results_row rfl _ _ (W.heap.size + 1) _ _ _ rfl row Tryz.underlying30 rfl (by kernel_rfl)) rfl ⟨rfl, ?_⟩
 exact ((Below.refl _ _).alloc (Nat.le_refl _) _).alloc (by simp) _
theorem ref_pin_any (w : World) (c : Conf.Cf) (i : Nat) (hi : (i : Int) < c.workers ∧ c.workers ≤ 8) : Calls Tryz.prog 21 #[c.val, .i i] w fun e w' => e = .returned (.i (3 + i : Nat)) ∧ Below w.heap.size w w':=by
 obtain ⟨cw, cs, cst, cwa, cu⟩:=c
 dsimp only at hi
 go_enter Tryz.func21, Tryz.ntmps21
 simp only [Conf.Cf.val, Conf.Cf.cells]
 have n0 : ¬ ((i : Int) < 0):=by omega
 have n1 : ¬ (cw ≤ (i : Int)):=by omega
 have n2 : decide (cw ≤ (i : Int)) = false:=by simpa using n1
 have e2 : wrap64 (3 + (i : Int)) = 3 + i:=by unfold wrap64; omega
 go_wp2_with fail
 go_ret
 exact ⟨by (try simp) <;> omega, (Below.refl _ _).alloc (Nat.le_refl _) _⟩
end Go.Proofs.YteadpgiffpfmnaaGreatDoor.Cl
namespace Go.Proofs.YteadpgiffpfmnaaGreatDoor.Slot
open Go.RowKit Hp RowL Life
def docW (s : S) : Int:=if s.right = true then s.word else 0
theorem ref_encode_any (w : World) (s : S) : Calls Tryz.prog 88 #[s.val] w fun e w' => e = .returned (.tuple #[.i (docW s), .bool s.right]) ∧ Below w.heap.size w w':=by
 have hri:=fun w => ref_slot_right_any w s
 have hA : Below w.heap.size w (w.alloc (.cells s.cells 41)):=(Below.refl _ _).alloc (Nat.le_refl _) _
 have hr : RowAt (w.alloc (.cells s.cells 41)) w.heap.size s.cells 41:=heap_alloc_new w _
 cases hR : s.right
 ·rw [hR] at hri
  have hd : docW s = 0:=by unfold docW; rw [hR]; rfl
  rw [hd]
  clear hd hR
  obtain ⟨st, ow, sm, br, ma, us, ge, ep, ve⟩:=s
  simp only [S.val, S.cells] at hri hr hA
  go_enter Tryz.func88, Tryz.ntmps88
  simp only [S.val, S.cells]
  go_wp2_with fail
  refine (hri _).mono ?_
  rintro e w5 ⟨rfl, hb5⟩
  have hB:=hA.trans (hb5.mono hA.size)
  clear hri hb5
  go_wp2_with fail
  go_ret2
  exact ⟨rfl, hB⟩
 ·rw [hR] at hri
  have hd : docW s = s.word:=by unfold docW; rw [hR]; rfl
  have hb:=word_bd hR
  have hi:=(right_iff s).1 hR
  rw [hd]
  clear hd hR
  obtain ⟨st, ow, sm, br, ma, us, ge, ep, ve⟩:=s
  simp only [S.val, S.cells] at hri hr hA
  simp only at hi
  obtain ⟨⟨r_st, r_ow, r_sm, r_us, r_ge, r_ep, r_ve⟩, -⟩:=hi
  unfold S.word at hb
  dsimp only at hb
  have w1 : IntKind.i64.wrap (8 * ow) = 8 * ow:=by rw [IntKind.wrap_i64]; omega
  have w2 : IntKind.i64.wrap (st + 8 * ow) = st + 8 * ow:=by rw [IntKind.wrap_i64]; omega
  have w3 : IntKind.i64.wrap (128 * sm) = 128 * sm:=by rw [IntKind.wrap_i64]; omega
  have w4 : IntKind.i64.wrap (st + 8 * ow + 128 * sm) = st + 8 * ow + 128 * sm:=by rw [IntKind.wrap_i64]; omega
  have w5 : IntKind.i64.wrap (131072 * us) = 131072 * us:=by rw [IntKind.wrap_i64]; omega
  have w6 : IntKind.i64.wrap (st + 8 * ow + 128 * sm + 131072 * us) = st + 8 * ow + 128 * sm + 131072 * us:=by rw [IntKind.wrap_i64]; omega
  have w7 : IntKind.i64.wrap (8388608 * ge) = 8388608 * ge:=by rw [IntKind.wrap_i64]; omega
  have w8 : IntKind.i64.wrap (st + 8 * ow + 128 * sm + 131072 * us + 8388608 * ge) = st + 8 * ow + 128 * sm + 131072 * us + 8388608 * ge:=by rw [IntKind.wrap_i64]; omega
  have w9 : IntKind.i64.wrap (34359738368 * ep) = 34359738368 * ep:=by rw [IntKind.wrap_i64]; omega
  have wa : IntKind.i64.wrap (st + 8 * ow + 128 * sm + 131072 * us + 8388608 * ge + 34359738368 * ep) = st + 8 * ow + 128 * sm + 131072 * us + 8388608 * ge + 34359738368 * ep:=by rw [IntKind.wrap_i64]; omega
  have wb : IntKind.i64.wrap (140737488355328 * ve) = 140737488355328 * ve:=by rw [IntKind.wrap_i64]; omega
  have wc : IntKind.i64.wrap (st + 8 * ow + 128 * sm + 131072 * us + 8388608 * ge + 34359738368 * ep + 140737488355328 * ve) = st + 8 * ow + 128 * sm + 131072 * us + 8388608 * ge + 34359738368 * ep + 140737488355328 * ve:=by rw [IntKind.wrap_i64]; omega
  have hW : S.word ⟨st, ow, sm, br, ma, us, ge, ep, ve⟩ = (st + 8 * ow + 128 * sm + 131072 * us + 8388608 * ge + 34359738368 * ep + 140737488355328 * ve) + 32768 * bit br + 65536 * bit ma:=by unfold S.word; dsimp only; omega
  rw [hW]
  clear hW
  have hX : 0 ≤ st + 8 * ow + 128 * sm + 131072 * us + 8388608 * ge + 34359738368 * ep + 140737488355328 * ve ∧ st + 8 * ow + 128 * sm + 131072 * us + 8388608 * ge + 34359738368 * ep + 140737488355328 * ve < 4611686018427387904:=by omega
  have e0:=@rfl _ (st + 8 * ow + 128 * sm + 131072 * us + 8388608 * ge + 34359738368 * ep + 140737488355328 * ve)
  generalize hY : st + 8 * ow + 128 * sm + 131072 * us + 8388608 * ge + 34359738368 * ep + 140737488355328 * ve = X at e0 wc hX ⊢
  have HY:=Lib.hid hY
  clear hb e0 hY
  have x1 : IntKind.i64.wrap (X + 32768) = X + 32768:=by rw [IntKind.wrap_i64]; omega
  have x2 : IntKind.i64.wrap (X + 65536) = X + 65536:=by rw [IntKind.wrap_i64]; omega
  have x3 : IntKind.i64.wrap (X + 32768 + 65536) = X + 32768 + 65536:=by rw [IntKind.wrap_i64]; omega
  go_enter Tryz.func88, Tryz.ntmps88
  simp only [S.val, S.cells]
  go_wp2_with fail
  refine (hri _).mono ?_
  rintro e w5 ⟨rfl, hb5⟩
  have hr5:=RowAt.below hr hb5
  have c0 : w5.cell? ⟨w.heap.size, 0, none⟩ = some (.i st):=RowAt.cell hr5 0
  have c1 : w5.cell? ⟨w.heap.size, 1, none⟩ = some (.i ow):=RowAt.cell hr5 1
  have c2 : w5.cell? ⟨w.heap.size, 2, none⟩ = some (.i sm):=RowAt.cell hr5 2
  have c3 : w5.cell? ⟨w.heap.size, 3, none⟩ = some (.bool br):=RowAt.cell hr5 3
  have c4 : w5.cell? ⟨w.heap.size, 4, none⟩ = some (.bool ma):=RowAt.cell hr5 4
  have c5 : w5.cell? ⟨w.heap.size, 5, none⟩ = some (.i us):=RowAt.cell hr5 5
  have c6 : w5.cell? ⟨w.heap.size, 6, none⟩ = some (.i ge):=RowAt.cell hr5 6
  have c7 : w5.cell? ⟨w.heap.size, 7, none⟩ = some (.i ep):=RowAt.cell hr5 7
  have c8 : w5.cell? ⟨w.heap.size, 8, none⟩ = some (.i ve):=RowAt.cell hr5 8
  have hB:=hA.trans (hb5.mono hA.size)
  clear hri hb5 hr hr5 r_st r_ow r_sm r_us r_ge r_ep r_ve hA
  cases br <;> cases ma <;> (go_wp2_with fail; go_ret2; refine ⟨?_, hB⟩; have hy:=HY.out; simp [bit]; simp only [wrap64] at *; omega)
theorem ref_word_any (w : World) (s : S) : Calls Tryz.prog 53 #[s.val] w fun e w' => e = .returned (.i (docW s)) ∧ Below w.heap.size w w':=by
 have hen:=fun w => ref_encode_any w s
 have hA : Below w.heap.size w (w.alloc (.cells s.cells 41)):=(Below.refl _ _).alloc (Nat.le_refl _) _
 generalize docW s = d at *
 generalize s.right = r at *
 obtain ⟨st, ow, sm, br, ma, us, ge, ep, ve⟩:=s
 simp only [S.val, S.cells] at hen hA
 go_enter Tryz.func53, Tryz.ntmps53
 simp only [S.val, S.cells]
 go_wp2_with fail
 refine (hen _).mono ?_
 rintro e w5 ⟨rfl, hb5⟩
 have hB:=hA.trans (hb5.mono hA.size)
 clear hen hb5
 go_wp2_with fail
 go_ret
 exact ⟨rfl, hB⟩
theorem qd (n d : Int) (h0 : 0 ≤ n) (h1 : n < 9223372036854775808) (hd : 0 < d) : wrap64 (n.tdiv d) = n / d:=by
 rw [Int.tdiv_eq_ediv_of_nonneg h0]
 have a : 0 ≤ n / d:=Int.ediv_nonneg h0 (by omega)
 have b : n / d ≤ n:=Int.ediv_le_self d h0
 unfold wrap64
 omega
theorem qm (n d m : Int) (h0 : 0 ≤ n) (h1 : n < 9223372036854775808) (hd : 0 < d) : (wrap64 (n.tdiv d)).tmod m = n / d % m:=by
 rw [qd n d h0 h1 hd, Int.tmod_eq_emod_of_nonneg (Int.ediv_nonneg h0 (by omega))]
theorem ref_decode_any (w : World) (n : Int) (h1 : n < 9223372036854775808) : Calls Tryz.prog 22 #[.i n] w fun e w' => e = .returned (.tuple #[((dec n).getD S.zero).val, .bool (dec n).isSome]) ∧ Below w.heap.size w w':=by
 have hA : Below w.heap.size w (w.alloc (.cells zero9 41)):=(Below.refl _ _).alloc (Nat.le_refl _) _
 have hz : RowAt (w.alloc (.cells zero9 41)) w.heap.size zero9 41:=heap_alloc_new w _
 by_cases h0 : 0 ≤ n
 rotate_left
 ·have hd : dec n = none:=by rw [dec_doc, if_neg (fun h => h0 h.1)]
  rw [hd]
  have hlt : n < 0:=by omega
  clear hd h0 h1
  go_enter Tryz.func22, Tryz.ntmps22
  go_upto_region 2 with (fail)
  refine wp_region_lit ?_
  refine gl (.agg Zs) ?_
  refine gSt hz Zs 41 (.tmp 2) (.tmp 8) ?_
  go_wp2_with fail
  refine bR2 w.heap.size (hz.set Zs) Tryz.underlying41 ?_
  exact ⟨rfl, bSetRow hA (Nat.le_refl _) _⟩
 have hri:=fun w => ref_slot_right_any w (cutD n)
 have hd : dec n = if (cutD n).right = true then some (cutD n) else none:=by
  rw [dec_doc]
  by_cases e : (cutD n).right = true
  ·rw [if_pos ⟨h0, e⟩, if_pos e]
  ·rw [if_neg (fun h => e h.2), if_neg e]
 rw [hd]
 have hlt : ¬ n < 0:=by omega
 clear hd
 have f_own : (wrap64 (n.tdiv 8)).tmod 16 = n / 8 % 16:=qm n 8 16 h0 h1 (by omega)
 have f_streams : (wrap64 (n.tdiv 128)).tmod 256 = n / 128 % 256:=qm n 128 256 h0 h1 (by omega)
 have f_b3 : (wrap64 (n.tdiv 32768)).tmod 2 = n / 32768 % 2:=qm n 32768 2 h0 h1 (by omega)
 have f_b4 : (wrap64 (n.tdiv 65536)).tmod 2 = n / 65536 % 2:=qm n 65536 2 h0 h1 (by omega)
 have f_uses : (wrap64 (n.tdiv 131072)).tmod 64 = n / 131072 % 64:=qm n 131072 64 h0 h1 (by omega)
 have f_gen : (wrap64 (n.tdiv 8388608)).tmod 4096 = n / 8388608 % 4096:=qm n 8388608 4096 h0 h1 (by omega)
 have f_epoch : (wrap64 (n.tdiv 34359738368)).tmod 4096 = n / 34359738368 % 4096:=qm n 34359738368 4096 h0 h1 (by omega)
 have f_v : wrap64 (n.tdiv 140737488355328) = n / 140737488355328:=qd n _ h0 h1 (by omega)
 have hcs : (cutD n).cells = [.i (n % 8), .i (n / 8 % 16), .i (n / 128 % 256), .bool (n / 32768 % 2 == 1), .bool (n / 65536 % 2 == 1), .i (n / 131072 % 64), .i (n / 8388608 % 4096), .i (n / 34359738368 % 4096), .i (n / 140737488355328)].toArray:=rfl
 generalize (cutD n).right = r at *
 generalize cutD n = c at *
 have HC:=Lib.hid hcs
 clear hcs
 go_enter Tryz.func22, Tryz.ntmps22
 go_wp2_with fail
 rw [← HC.out]
 have hb2 : Below w.heap.size w ((w.alloc (.cells zero9 41)).alloc (.cells c.cells 41)):=hA.alloc hA.size _
 have hz2 : RowAt ((w.alloc (.cells zero9 41)).alloc (.cells c.cells 41)) w.heap.size zero9 41:=RowAt.below hz ((Below.refl _ _).alloc (Nat.le_refl _) _)
 have hs2 : RowAt ((w.alloc (.cells zero9 41)).alloc (.cells c.cells 41)) (w.heap.size + 1) c.cells 41:=by
  have h:=heap_alloc_new (w.alloc (.cells zero9 41)) (.cells c.cells 41)
  simpa [RowAt] using h
 generalize ((w.alloc (.cells zero9 41)).alloc (.cells c.cells 41)) = wa at *
 refine (hri _).mono ?_
 rintro e w5 ⟨rfl, hb5⟩
 have hB:=hb2.trans (hb5.mono hb2.size)
 have hz5:=RowAt.below hz2 hb5
 have hs5:=RowAt.below hs2 hb5
 clear hri hb5 hz2 hs2 hb2 hz hA f_own f_streams f_b3 f_b4 f_uses f_gen f_epoch f_v h0 h1
 cases r
 ·go_upto_region 6 with (fail)
  refine wp_region_lit ?_
  refine gl (.agg Zs) ?_
  refine gSt hz5 Zs 41 (.tmp 2) (.tmp 41) ?_
  go_wp2_with fail
  refine bR2 w.heap.size (hz5.set Zs) Tryz.underlying41 ?_
  exact ⟨rfl, bSetRow hB (Nat.le_refl _) _⟩
 ·go_upto_region 7 with (fail)
  refine wp_region_lit ?_
  refine grow hs5 41 (.tmp 4) Tryz.underlying41 ?_
  try simp only [Act.put, sA, sZ, sS]
  refine gSt hz5 c.cells 41 (.tmp 2) (.tmp 42) ?_
  go_wp2_with fail
  refine bR2 w.heap.size (hz5.set c.cells) Tryz.underlying41 ?_
  exact ⟨rfl, bSetRow hB (Nat.le_refl _) _⟩
theorem parts9 (n : Int) : fields9.map (Field.part n) = [n % 8, n / 8 % 16, n / 128 % 256, n / 32768 % 2, n / 65536 % 2, n / 131072 % 64, n / 8388608 % 4096, n / 34359738368 % 4096, n / 140737488355328 % 32768]:=by
 simp [fields9, Field.part]
theorem dec_cut (n : Int) : dec n = if (cut n).right = true ∧ (cut n).word = n then some (cut n) else none:=by
 unfold dec
 by_cases hr : (cut n).right = true
 ·have hb:=word_bd hr
  by_cases hn : 0 ≤ n ∧ n < 4611686018427387904
  ·simp [hr, hn, word_cut hn.1 hn.2]
  ·have : (cut n).word ≠ n:=fun e => hn (e ▸ hb)
   simp [hr, this]
   intro a
   omega
 ·simp [hr]
theorem decode_gen (w : World) (n st ow sm b3 b4 us ge ep ve zz : Int) (ok : Bool) (hL : Laid w) (hp : fields9.map (Field.part n) = [st, ow, sm, b3, b4, us, ge, ep, ve])
  (hE : ∀ W, Laid W → Calls Tryz.prog 119 #[S.val ⟨st, ow, sm, b3 == 1, b4 == 1, us, ge, ep, ve⟩] W fun e W' => (∃ z, e = .returned (.tuple #[.i z, .bool ok]) ∧ (ok = true → z = zz)) ∧ Below W.heap.size W W') :
  Calls Tryz.prog 99 #[.i n] w fun e w' => e = .returned (.tuple #[S.val (if (ok && zz == n) = true then ⟨st, ow, sm, b3 == 1, b4 == 1, us, ge, ep, ve⟩ else S.zero), .bool (ok && zz == n)]) ∧ Below w.heap.size w w':=by
 have hA0 : Below w.heap.size w (w.alloc (.cells Zs 41)):=(Below.refl _ _).alloc (Nat.le_refl _) _
 have hK0 : Life.Kp (w.alloc (.cells Zs 41)) w.heap.size (w.alloc (.cells Zs 41)):=⟨Chg.refl _ _, Zs, rfl, RowAt.new w Zs _⟩
 have hL0 : Laid (w.alloc (.cells Zs 41)):=hL.stable (hA0.block 0 (hL.lt (by decide)))
 have hr9:=range9 hL0
 have e1 : (w.alloc (.cells Zs 41)).heap.size = w.heap.size + 1:=by simp
 have hst:=store9 (w.alloc (.cells Zs 41))
 rw [e1] at hst
 have hPV:=fun W g h hg => Field.parts_val W n g fields9 (by decide) h hg fields9_R
 rw [hp] at hPV
 simp only [S.val, S.cells] at hE
 clear hp
 go_enter Tryz.func99, Tryz.ntmps99
 go_wp2_with (first
  | (refine wpList_load_mid rfl 132 (.global 0) rfl 0 0 rfl cs9 _ hr9 Tryz.underlying132 rfl (by kernel_rfl) ?_))
 have hA2 : Below (w.alloc (.cells Zs 41)).heap.size (w.alloc (.cells Zs 41)) ((w.alloc (.cells Zs 41)).alloc (.cells cs9.toArray 132)):=(Below.refl _ _).alloc (Nat.le_refl _) _
 have hK2:=hK0.later hA2
 have hL2:=hL0.stable (hA2.block 0 (hL0.lt (by decide)))
 have hF : Field.FAt ((w.alloc (.cells Zs 41)).alloc (.cells cs9.toArray 132)) (w.heap.size + 1) fields9:=e1 ▸ fat9 (range_new _ _)
 refine Calls.mono (show Calls Tryz.prog 118 #[.i n, .slice (some ⟨w.heap.size + 1, 0, none⟩) 9 9] _ _ from hPV _ _ hF (by simp)) ?_
 rintro e w7 ⟨v, rfl, ho, hfp, hb7⟩
 change OwnS w7 v 9 1 _ at ho
 have hK7:=hK2.later hb7
 have hL7:=hL2.stable (hb7.block 0 (hL2.lt (by decide)))
 clear hA2 hK2 hL2 hF hb7 hr9 hst hPV hL0 hK0
 obtain ⟨pg, po, pc, rfl, p1, p2, p3, p4, p5, p6⟩:=ho.some (by decide)
 have k0:=p6 0 _ rfl
 have k1:=p6 1 _ rfl
 have k2:=p6 2 _ rfl
 have k3:=p6 3 _ rfl
 have k4:=p6 4 _ rfl
 have k5:=p6 5 _ rfl
 have k6:=p6 6 _ rfl
 have k7:=p6 7 _ rfl
 have k8:=p6 8 _ rfl
 simp only [Nat.add_zero] at k0
 have hA7 : Below w7.heap.size w7 (w7.alloc (.cells Zs 41)):=(Below.refl _ _).alloc (Nat.le_refl _) _
 have q0:=Field.bkeep hA7 k0
 have q1:=Field.bkeep hA7 k1
 have q2:=Field.bkeep hA7 k2
 have q3:=Field.bkeep hA7 k3
 have q4:=Field.bkeep hA7 k4
 have q5:=Field.bkeep hA7 k5
 have q6:=Field.bkeep hA7 k6
 have q7:=Field.bkeep hA7 k7
 have q8:=Field.bkeep hA7 k8
 have hA9 : Below w7.heap.size w7 (w7.alloc (.cells (Aa st ow sm (b3 == 1) (b4 == 1) us ge ep ve) 41)).drew:=((Below.refl _ _).alloc (Nat.le_refl _) _).drew
 have hK8:=hK7.later hA9
 have hL8 : Laid (w7.alloc (.cells (Aa st ow sm (b3 == 1) (b4 == 1) us ge ep ve) 41)).drew:=hL7.stable (hA9.block 0 (hL7.lt (by decide)))
 clear p1 p2 p3 p4 p5 p6 ho hfp hK7 hL7
 generalize w.alloc (.cells Zs 41) = wa at *
 have HE:=Lib.hid hE
 have HK8:=Lib.hid hK8
 have HL8:=Lib.hid hL8
 have HA0:=Lib.hid hA0
 clear hE hK8 hL8 hL hA0 e1 hA7 hA9
 go_wp2_with fail
 go_region_held3 (fun w' => w'.cell? ⟨pg, po, none⟩ = some (.i st) ∧ w'.cell? ⟨pg, po + 1, none⟩ = some (.i ow) ∧ w'.cell? ⟨pg, po + 2, none⟩ = some (.i sm) ∧ w'.cell? ⟨pg, po + 3, none⟩ = some (.i b3) ∧ w'.cell? ⟨pg, po + 4, none⟩ = some (.i b4) ∧ w'.cell? ⟨pg, po + 5, none⟩ = some (.i us) ∧ w'.cell? ⟨pg, po + 6, none⟩ = some (.i ge) ∧ w'.cell? ⟨pg, po + 7, none⟩ = some (.i ep) ∧ w'.cell? ⟨pg, po + 8, none⟩ = some (.i ve)) (first | go_keep | exact ⟨by assumption, by assumption, by assumption, by assumption, by assumption, by assumption, by assumption, by assumption, by assumption⟩) (fail)
 have hg : RowAt (w7.alloc (.cells (Aa st ow sm (b3 == 1) (b4 == 1) us ge ep ve) 41)).drew w7.heap.size (Aa st ow sm (b3 == 1) (b4 == 1) us ge ep ve) 41:=RowAt.new w7 _ _
 generalize (w7.alloc (.cells (Aa st ow sm (b3 == 1) (b4 == 1) us ge ep ve) 41)).drew = w9 at *
 clear k0 k1 k2 k3 k4 k5 k6 k7 k8 q0 q1 q2 q3 q4 q5 q6 q7 q8
 have c0 : w9.cell? ⟨w7.heap.size, 0, none⟩ = some (.i st):=by rw [RowAt.cell hg]; rfl
 have c1 : w9.cell? ⟨w7.heap.size, 1, none⟩ = some (.i ow):=by rw [RowAt.cell hg]; rfl
 have c2 : w9.cell? ⟨w7.heap.size, 2, none⟩ = some (.i sm):=by rw [RowAt.cell hg]; rfl
 have c3 : w9.cell? ⟨w7.heap.size, 3, none⟩ = some (.bool (b3 == 1)):=by rw [RowAt.cell hg]; rfl
 have c4 : w9.cell? ⟨w7.heap.size, 4, none⟩ = some (.bool (b4 == 1)):=by rw [RowAt.cell hg]; rfl
 have c5 : w9.cell? ⟨w7.heap.size, 5, none⟩ = some (.i us):=by rw [RowAt.cell hg]; rfl
 have c6 : w9.cell? ⟨w7.heap.size, 6, none⟩ = some (.i ge):=by rw [RowAt.cell hg]; rfl
 have c7 : w9.cell? ⟨w7.heap.size, 7, none⟩ = some (.i ep):=by rw [RowAt.cell hg]; rfl
 have c8 : w9.cell? ⟨w7.heap.size, 8, none⟩ = some (.i ve):=by rw [RowAt.cell hg]; rfl
 generalize w7.heap.size = fb at *
 go_wp2_with fail
 refine (HE.out _ HL8.out).mono ?_
 rintro e wx ⟨⟨z, rfl, hz⟩, hbx⟩
 have hKx:=HK8.out.later hbx
 have d0 : wx.cell? ⟨fb, 0, none⟩ = some (.i st):=Field.bkeep hbx c0
 have d1 : wx.cell? ⟨fb, 1, none⟩ = some (.i ow):=Field.bkeep hbx c1
 have d2 : wx.cell? ⟨fb, 2, none⟩ = some (.i sm):=Field.bkeep hbx c2
 have d3 : wx.cell? ⟨fb, 3, none⟩ = some (.bool (b3 == 1)):=Field.bkeep hbx c3
 have d4 : wx.cell? ⟨fb, 4, none⟩ = some (.bool (b4 == 1)):=Field.bkeep hbx c4
 have d5 : wx.cell? ⟨fb, 5, none⟩ = some (.i us):=Field.bkeep hbx c5
 have d6 : wx.cell? ⟨fb, 6, none⟩ = some (.i ge):=Field.bkeep hbx c6
 have d7 : wx.cell? ⟨fb, 7, none⟩ = some (.i ep):=Field.bkeep hbx c7
 have d8 : wx.cell? ⟨fb, 8, none⟩ = some (.i ve):=Field.bkeep hbx c8
 clear c0 c1 c2 c3 c4 c5 c6 c7 c8
 have hB : ∀ r : S, Below w.heap.size w (wx.setRow w.heap.size r.cells):=fun r => (hKx.set r).below HA0.out (Nat.le_refl _)
 obtain ⟨-, Zz, hzz, hgz⟩:=id hKx
 have hgx : RowAt wx fb (Aa st ow sm (b3 == 1) (b4 == 1) us ge ep ve) 41:=(hbx.block _ (RowAt.lt hg)).trans hg
 have HKx:=Lib.hid hKx
 have HB:=Lib.hid hB
 have HZ:=Lib.hid hz
 clear hKx hB hbx hz hg
 dsimp only
 cases ok
 ·go_upto_region 6 with (fail)
  refine wp_region_lit ?_
  refine gl (.agg Zs) ?_
  refine gSt hgz Zs 41 (.tmp 2) (.tmp 55) ?_ (hsz:=hzz)
  go_wp2_with fail
  refine bR2 w.heap.size (HKx.out.row S.zero) Tryz.underlying41 ?_
  exact ⟨rfl, HB.out S.zero⟩
 ·obtain rfl : z = zz:=HZ.out rfl
  by_cases hzn : z = n
  ·have hd : (z != n) = false:=by simp [hzn]
   have hd2 : (z == n) = true:=by simp [hzn]
   go_upto_region 7 with (fail)
   refine wp_region_lit ?_
   refine grow hgx 41 (.tmp 6) Tryz.underlying41 ?_
   refine gSt hgz (Aa st ow sm (b3 == 1) (b4 == 1) us ge ep ve) 41 (.tmp 2) (.tmp 56) ?_ (hsz:=hzz)
   go_wp2_with fail
   refine bR2 w.heap.size (HKx.out.row ⟨st, ow, sm, b3 == 1, b4 == 1, us, ge, ep, ve⟩) Tryz.underlying41 ?_
   exact ⟨rfl, HB.out ⟨st, ow, sm, b3 == 1, b4 == 1, us, ge, ep, ve⟩⟩
  ·have hd : (z != n) = true:=by simp [hzn]
   have hd2 : (z == n) = false:=by simp [hzn]
   go_upto_region 6 with (fail)
   refine wp_region_lit ?_
   refine gl (.agg Zs) ?_
   refine gSt hgz Zs 41 (.tmp 2) (.tmp 55) ?_ (hsz:=hzz)
   go_wp2_with fail
   refine bR2 w.heap.size (HKx.out.row S.zero) Tryz.underlying41 ?_
   exact ⟨rfl, HB.out S.zero⟩
theorem cut_wf (n : Int) : (cut n).wf:=by
 intro x hx
 have b1:=bit_bd (cut n).broken
 have b2:=bit_bd (cut n).marked
 simp only [S.nums, List.mem_cons, List.not_mem_nil, or_false] at hx
 rcases hx with rfl | rfl | rfl | rfl | rfl | rfl | rfl | rfl | rfl <;> first | omega | (simp only [cut]; omega)
theorem decode_val (w : World) (n : Int) (hL : Laid w) : Calls Tryz.prog 99 #[.i n] w fun e w' => e = .returned (.tuple #[((dec n).getD S.zero).val, .bool (dec n).isSome]) ∧ Below w.heap.size w w':=by
 have h:=decode_gen w n (n % 8) (n / 8 % 16) (n / 128 % 256) (n / 32768 % 2) (n / 65536 % 2) (n / 131072 % 64) (n / 8388608 % 4096) (n / 34359738368 % 4096) (n / 140737488355328 % 32768) (cut n).word (cut n).right hL (parts9 n) (fun W hW => by
  change Calls _ _ #[S.val (cut n)] W _
  by_cases hr : (cut n).right = true
  ·refine (encode_word W _ hW hr).mono ?_
   rintro e w' ⟨rfl, hb⟩
   exact ⟨⟨_, by rw [hr], fun _ => rfl⟩, hb⟩
  ·refine (encode_any W _ hW (cut_wf n)).mono ?_
   rintro e w' ⟨z, rfl, hb⟩
   exact ⟨⟨z, rfl, fun h => absurd h hr⟩, hb⟩)
 refine h.mono ?_
 rintro e w' ⟨rfl, hb⟩
 refine ⟨?_, hb⟩
 rw [dec_cut]
 by_cases hr : (cut n).right = true ∧ (cut n).word = n
 ·rw [if_pos hr, hr.1, hr.2]; simp; rfl
 ·rw [if_neg hr]
  have : ((cut n).right && (cut n).word == n) = false:=by
   cases h1 : (cut n).right <;> simp_all
  rw [this]; rfl
end Go.Proofs.YteadpgiffpfmnaaGreatDoor.Slot
namespace Go.Proofs.YteadpgiffpfmnaaGreatDoor.Cl
open Go.RowKit Hp RowL Conf Tk
def fcells (c : Cf) (f : Tk.Fd) : Array Value:=(Af c.workers c.slots c.streams c.waiters c.uses f.kind f.own f.at' f.word f.found)
def FdAt (W : World) (fb : Nat) (c : Cf) (f : Tk.Fd) : Prop:=RowAt W fb (fcells c f) 129
section
variable {W : World} {fb : Nat} {c : Cf} {f : Tk.Fd}
theorem FdAt.lt (h : FdAt W fb c f) : fb < W.heap.size:=RowAt.lt h
theorem FdAt.below {W' : World} (h : FdAt W fb c f) (hb : Below W.heap.size W W') : FdAt W' fb c f:=(hb.block _ h.lt).trans h
theorem FdAt.chg {W' : World} {F : Nat → Prop} (h : FdAt W fb c f) (hc : Chg F W W') (hF : ¬ F fb) : FdAt W' fb c f:=(hc.block _ h.lt hF).trans h
theorem FdAt.cell (h : FdAt W fb c f) (i : Nat) : W.cell? ⟨fb, i, none⟩ = (fcells c f)[i]?:=RowAt.cell h i
theorem FdAt.frozen (h : FdAt W fb c f) (i : Nat) : W.frozen? ⟨fb, i, none⟩ = false:=RowAt.frozen h i
theorem FdAt.setFound (h : FdAt W fb c f) (b : Bool) : FdAt (W.setCell ⟨fb, 9, none⟩ (.bool b)) fb c { f with found:=b }:=RowAt.setc h 9 _
theorem FdAt.setWord (h : FdAt W fb c f) (x : Int) : FdAt (W.setCell ⟨fb, 8, none⟩ (.i x)) fb c { f with word:=x }:=RowAt.setc h 8 _
theorem FdAt.setAt (h : FdAt W fb c f) (x : Nat) : FdAt (W.setCell ⟨fb, 7, none⟩ (.i x)) fb c { f with at':=x }:=RowAt.setc h 7 _
end
theorem fnew_any (w : World) (c : Cf) (kind own : Int) : Calls Tryz.prog 114 #[c.val, .i kind, .i own, .i 0] w fun e w' => ∃ fb, e = .returned (.pointer (some ⟨fb, 0, none⟩)) ∧ FdAt w' fb c (Tk.Fd.new kind own) ∧ w.heap.size ≤ fb ∧ Below w.heap.size w w':=by
 obtain ⟨cw, cs, cst, cwa, cu⟩:=c
 go_enter Tryz.func114, Tryz.ntmps114
 simp only [Cf.val, Cf.cells]
 go_wp2_with fail
 go_ret
 refine ⟨w.heap.size + 1, rfl, ?_, by omega, ((Below.refl _ _).alloc (Nat.le_refl _) _).alloc (by simp) _⟩
 exact heap_alloc2_new _ _ _
theorem fall_any {W : World} {fb : Nat} {c : Cf} {f : Tk.Fd} (h : FdAt W fb c f) : Calls Tryz.prog 126 #[.pointer (some ⟨fb, 0, none⟩)] W fun e w' => e = .returned (.bool (decide (c.slots ≤ (f.at' : Int)))) ∧ Below W.heap.size W w':=by
 have c1 : W.cell? ⟨fb, 1, none⟩ = some (.i c.slots):=h.cell 1
 have c7 : W.cell? ⟨fb, 7, none⟩ = some (.i f.at'):=h.cell 7
 clear h
 go_enter Tryz.func126, Tryz.ntmps126
 go_wp2_with fail
 go_region
 go_wp2_with fail
 go_ret
 exact ⟨rfl, (Below.refl _ _).drew⟩
theorem found_any {W : World} {fb : Nat} {c : Cf} {f : Tk.Fd} (h : FdAt W fb c f) : Calls Tryz.prog 116 #[.pointer (some ⟨fb, 0, none⟩)] W fun e w' => e = .returned (if f.found then .tuple #[.i f.at', .i f.word, .bool true] else .tuple #[.i 0, .i 0, .bool false]) ∧ Below W.heap.size W w':=by
 have c7 : W.cell? ⟨fb, 7, none⟩ = some (.i f.at'):=h.cell 7
 have c8 : W.cell? ⟨fb, 8, none⟩ = some (.i f.word):=h.cell 8
 have c9 : W.cell? ⟨fb, 9, none⟩ = some (.bool f.found):=h.cell 9
 clear h
 go_enter Tryz.func116, Tryz.ntmps116
 cases hf : f.found
 ·rw [hf] at c9
  go_wp2_with fail
  go_ret3
  exact ⟨rfl, Below.refl _ _⟩
 ·rw [hf] at c9
  go_wp2_with fail
  go_region
  go_wp2_with fail
  go_ret3
  exact ⟨rfl, (Below.refl _ _).drew⟩
theorem again_any {W : World} {fb : Nat} {c : Cf} {f : Tk.Fd} (h : FdAt W fb c f) : Calls Tryz.prog 97 #[.pointer (some ⟨fb, 0, none⟩)] W fun e w' => e = .returned (.tuple #[]) ∧ FdAt w' fb c f.again ∧ Chg (fun k => k = fb) W w':=by
 have c9 : W.cell? ⟨fb, 9, none⟩ = some (.bool f.found):=h.cell 9
 have f9:=h.frozen 9
 have H:=Lib.hid h
 clear h
 go_enter Tryz.func97, Tryz.ntmps97
 go_wp2_with fail
 first | go_end0 | refine bodyPost_ret (results_none rfl _ _ _) rfl ?_
 exact ⟨rfl, H.out.setFound false, (Chg.refl _ _).setCell _ _ (fun _ => rfl)⟩
theorem go_any {W : World} {fb : Nat} {c : Cf} {f : Tk.Fd} (h : FdAt W fb c f) (hat : f.at' ≤ 1000) : Calls Tryz.prog 101 #[.pointer (some ⟨fb, 0, none⟩)] W fun e w' => e = .returned (.tuple #[]) ∧ FdAt w' fb c f.go ∧ Chg (fun k => k = fb) W w':=by
 have c7 : W.cell? ⟨fb, 7, none⟩ = some (.i f.at'):=h.cell 7
 have f7:=h.frozen 7
 have c9 : W.cell? ⟨fb, 9, none⟩ = some (.bool f.found):=h.cell 9
 have f9:=h.frozen 9
 have H:=Lib.hid h
 have e1 : wrap64 ((f.at' : Int) + 1) = ((f.at' + 1 : Nat) : Int):=by unfold wrap64; omega
 clear h
 go_enter Tryz.func101, Tryz.ntmps101
 cases hf : f.found
 ·rw [hf] at c9
  go_wp2_with fail
  first | go_end0 | refine bodyPost_ret (results_none rfl _ _ _) rfl ?_
  exact ⟨rfl, by unfold Tk.Fd.go; rw [hf]; exact H.out, Chg.refl _ _⟩
 ·rw [hf] at c9
  go_wp2_with fail
  first | go_end0 | refine bodyPost_ret (results_none rfl _ _ _) rfl ?_
  have h1 : Chg (fun k => k = fb) W (W.setCell ⟨fb, 9, none⟩ (.bool false)):=(Chg.refl _ _).setCell _ _ (fun _ => rfl)
  refine ⟨rfl, ?_, h1.setCell ⟨fb, 7, none⟩ _ (fun _ => rfl)⟩
  have h2:=(H.out.setFound false).setAt (f.at' + 1)
  rw [show ((f.at' + 1 : Nat) : Int) = (f.at' : Int) + 1 by omega] at h2
  unfold Tk.Fd.go
  rw [hf, if_pos rfl]
  exact h2
end Go.Proofs.YteadpgiffpfmnaaGreatDoor.Cl
namespace Go.Proofs.YteadpgiffpfmnaaGreatDoor.Cl
open Go.RowKit Hp RowL Conf Tk Slot
def FPost (W : World) (fb mb wb : Nat) (c : Cf) (ws : List Int) (tc : Int) (r : Bool × Tk.Fd × Nat) (e : Ending) (W' : World) : Prop :=
 e = .returned (.bool r.1) ∧ FdAt W' fb c r.2.1 ∧ CAt W' mb wb ws (tc + r.2.2) ∧ Chg (fun k => k = fb ∨ cfp mb wb k) W W'
structure Apart (fb mb wb : Nat) : Prop where
 m : fb ≠ mb
 w : fb ≠ wb
 f0 : 0 ≠ fb
 m0 : 0 ≠ mb
 w0 : 0 ≠ wb
structure Small (c : Cf) : Prop where
 w : 0 ≤ c.workers ∧ c.workers ≤ 8
 s : 0 ≤ c.slots ∧ c.slots ≤ 100
theorem fstep_idle {W : World} {fb mb wb : Nat} {c : Cf} {f : Tk.Fd} {ws : List Int} {tc : Int} (h : FdAt W fb c f) (hm : CAt W mb wb ws tc) (hc : Small c) (hI : f.found = true ∨ ns c ≤ f.at') :
  Calls Tryz.prog 115 #[.pointer (some ⟨fb, 0, none⟩), .pointer (some ⟨mb, 0, none⟩)] W (FPost W fb mb wb c ws tc (f.step c ws)):=by
 have hs : f.step c ws = (true, f, 0):=by unfold Fd.step; rw [if_pos hI]
 rw [hs]
 have c9 : W.cell? ⟨fb, 9, none⟩ = some (.bool f.found):=h.cell 9
 have hal:=fall_any h
 have hpost : ∀ W', Below W.heap.size W W' → FPost W fb mb wb c ws tc (true, f, 0) (.returned (.bool true)) W':=fun W' hb => ⟨rfl, h.below hb, by simpa using hm.below hb, Chg.ofBelow hb⟩
 have HP:=Lib.hid hpost
 have HI:=Lib.hid hI
 clear hpost hs h hm hI
 go_enter Tryz.func115, Tryz.ntmps115
 cases hf : f.found
 ·have hns : (c.slots ≤ (f.at' : Int)):=by
   rcases HI.out with h1 | h1
   ·rw [hf] at h1; cases h1
   ·have h2:=hc.s
    unfold ns at h1
    omega
  have hd : decide (c.slots ≤ (f.at' : Int)) = true:=by simpa using hns
  rw [hf] at c9
  rw [hd] at hal
  go_wp2_with fail
  refine hal.mono ?_
  rintro e w5 ⟨rfl, hb⟩
  clear hal
  go_wp2_with fail
  go_ret
  exact HP.out _ hb
 ·rw [hf] at c9
  go_wp2_with fail
  go_ret
  exact HP.out _ (Below.refl _ _)
end Go.Proofs.YteadpgiffpfmnaaGreatDoor.Cl
namespace Go.Proofs.YteadpgiffpfmnaaGreatDoor.Cl
open Go.RowKit Hp Slot RowL Life
def DoneT (d : Nat) : Prop:=d = 0 ∨ d = 1 ∨ d = 2 ∨ d = 3 ∨ d = 9 ∨ d = 11 ∨ d = 16 ∨ d = 17
theorem DoneT.x {d : Nat} (h : DoneT d) : Tk.DoneX d:=by
 rcases h with rfl | rfl | rfl | rfl | rfl | rfl | rfl | rfl
 ·exact .inl (by simp [Mod.Done])
 ·exact .inl (by simp [Mod.Done])
 ·exact .inl (by simp [Mod.Done])
 ·exact .inl (by simp [Mod.Done])
 ·exact .inl (by simp [Mod.Done])
 ·exact .inr (.inr (.inr (.inl rfl)))
 ·exact .inl (by simp [Mod.Done])
 ·exact .inr (.inr (.inr (.inr (.inr rfl))))
theorem actx_any (d : Nat) (hd : DoneT d) (s : S) (own more : Int) : ∃ F, (∀ args w, (callFunc F args).run Tryz.prog w = .ok (.enter F args) w) ∧ acts[d]? = some (.func (.func F) #[] #[]) ∧
  (s.right = true → ∀ W, Calls Tryz.prog F #[cval s own more] W fun e W' => e = .returned (.tuple #[(Tk.actX d s own more).1.val, .bool (Tk.actX d s own more).2]) ∧ Below W.heap.size W W'):=by
 have hu:=fun h => (right_bounds (s:=s) h).2.1
 have hg:=fun h => (right_bounds (s:=s) h).2.2.1
 rcases hd with rfl | rfl | rfl | rfl | rfl | rfl | rfl | rfl
 ·exact ⟨_, enters_of Tryz.func148 (by kernel_rfl) rfl, rfl, fun h W => dial_any W s own more⟩
 ·exact ⟨_, enters_of Tryz.func149 (by kernel_rfl) rfl, rfl, fun h W => up_any W s own more (hu h) (hg h)⟩
 ·exact ⟨_, enters_of Tryz.func150 (by kernel_rfl) rfl, rfl, fun h W => fail_any W s own more⟩
 ·exact ⟨_, enters_of Tryz.func151 (by kernel_rfl) rfl, rfl, fun h W => lease_any W s own more (hu h) (hg h)⟩
 ·exact ⟨_, enters_of Tryz.func157 (by kernel_rfl) rfl, rfl, fun h W => move_any W s own more⟩
 ·exact ⟨_, enters_of Tryz.func159 (by kernel_rfl) rfl, rfl, fun h W => retire_any W s own more⟩
 ·refine ⟨_, enters_of Tryz.func164 (by kernel_rfl) rfl, rfl, fun h W => (take_any W s own more (hu h) (hg h)).mono ?_⟩
  rintro e W' ⟨rfl, hb⟩
  refine ⟨?_, hb⟩
  simp only [Tk.actX, Mod.act]
  split <;> rfl
 ·exact ⟨_, enters_of Tryz.func165 (by kernel_rfl) rfl, rfl, fun h W => age_any W s own more⟩
theorem nextx_any (W : World) (s : S) (d : Nat) (own more : Int) (hd : DoneT d) (hr : s.right = true) (hL : Laid W) : Calls Tryz.prog 121 #[s.val, .i d, .i own, .i more] W fun e W' =>
  e = .returned (.tuple #[((Tk.nextX s d own more).getD S.zero).val, .bool (Tk.nextX s d own more).isSome]) ∧ Below W.heap.size W W':=by
 obtain ⟨F, h1, h2, h3⟩:=actx_any d hd s own more
 exact next_gen W s own more F d _ _ (by unfold DoneT at hd; omega) h1 h2 hL (Mod.right_wf hr) h3
end Go.Proofs.YteadpgiffpfmnaaGreatDoor.Cl
