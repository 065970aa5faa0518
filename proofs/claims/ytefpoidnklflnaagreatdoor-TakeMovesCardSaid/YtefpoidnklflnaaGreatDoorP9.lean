/- Part 9 of the walks and plain laws that the last text joins. -/
import Derived.Test.YtefpoidnklflnaaGreatDoorP4
import Derived.Test.YtefpoidnklflnaaGreatDoorP8
import Derived.IntWalk
set_option maxRecDepth 100000
set_option maxHeartbeats 16000000
set_option linter.unusedVariables false
set_option linter.unusedSimpArgs false
namespace Go.Proofs.YtefpoidnklflnaaGreatDoor.Tk
open Go.RowKit Hp Slot RowL Life
def alone (good : Bool) : Nat → Nat → Tk → List Int → Nat × Tk × List Int
 | 0, n, t, ws => (n + 1, t, ws)
 | f + 1, n, t, ws => if (t.step ws good).1.st = 15 then (n + 1, (t.step ws good).1, (t.step ws good).2.1) else alone good f (n + 1) (t.step ws good).1 (t.step ws good).2.1
abbrev Two:=Tk × Tk × List Int
def raceC : Conf.Cf:=⟨2, 1, 0, 0, 9⟩
def raceIn (w : Int) : Two:=(Tk.new raceC 0, Tk.new raceC 1, [0, 0, 0, 0, 0, 0, 0, w])
def turnA (x : Two) : Two:=let r:=x.1.step x.2.2 true; (r.1, x.2.1, r.2.1)
def turnB (x : Two) : Two:=let r:=x.2.1.step x.2.2 true; (x.1, r.1, r.2.1)
def turnT (x : Two) (b : Bool) : Two:=if b then turnA x else turnB x
def explore : Nat → List Two → List Two → List Two
 | 0, _, seen => seen
 | _, [], seen => seen
 | n + 1, x :: l, seen => if x ∈ seen then explore n l seen else explore n (turnA x :: turnB x :: l) (x :: seen)
def many (w : Int) : List Two:=explore 300 [raceIn w] []
def raceEnd (x : Two) : Bool :=
 let a:=alone true 200 0 x.1 x.2.2
 let b:=alone true 200 0 x.2.1 a.2.2
 match dec (rd b.2.2 7) with
 | none => false
 | some s => (s.state == 3 && s.gen == 1) && (if a.2.1.answer.1 = 0 then a.2.1.answer.2.2 == 1 && (b.2.1.answer.1 == 3 && s.own == 0) else a.2.1.answer.1 == 3 && (b.2.1.answer.1 == 0 && (b.2.1.answer.2.2 == 1 && s.own == 1)))
def raceAll (w : Int) : Bool:=decide (raceIn w ∈ many w) && (many w).all fun x => (decide (turnA x ∈ many w) && decide (turnB x ∈ many w)) && raceEnd x
def raceW (own : Int) : Int:=S.word ⟨2, own, 0, false, false, 1, 0, 0, 0⟩
theorem race0 : raceAll 0 = true:=by kernel_rfl
theorem race1 : raceAll (raceW 0) = true:=by kernel_rfl
theorem race2 : raceAll (raceW 1) = true:=by kernel_rfl
theorem race_mem {w : Int} (h : raceAll w = true) (l : List Bool) : l.foldl turnT (raceIn w) ∈ many w:=by
 unfold raceAll at h
 simp only [Bool.and_eq_true, decide_eq_true_eq, List.all_eq_true] at h
 have key : ∀ (l : List Bool) (x : Two), x ∈ many w → l.foldl turnT x ∈ many w:=by
  intro l
  induction l with
  | nil => exact fun x h => h
  | cons b l ih =>
   intro x hx
   refine ih _ ?_
   unfold turnT
   have:=(h.2 x hx).1
   split
   ·exact this.1
   ·exact this.2
 exact key l _ h.1
theorem race_end {w : Int} (h : raceAll w = true) (l : List Bool) : raceEnd (l.foldl turnT (raceIn w)) = true:=by
 have hm:=race_mem h l
 unfold raceAll at h
 simp only [Bool.and_eq_true, decide_eq_true_eq, List.all_eq_true] at h
 exact (h.2 _ hm).2
theorem right_version {s : S} {v : Int} (h : ({ s with version:=0 } : S).right = true) (hv : 0 ≤ v ∧ v ≤ 32767) : ({ s with version:=v } : S).right = true:=by
 rw [right_iff] at h ⊢
 simp only at h ⊢
 obtain ⟨⟨q1, q2, q3, q4, q5, q6, q7⟩, r⟩:=h
 exact ⟨⟨q1, q2, q3, q4, q5, q6, hv⟩, r⟩
def DoneX (d : Nat) : Prop:=Mod.Done d ∨ d = 6 ∨ d = 8 ∨ d = 11 ∨ d = 12 ∨ d = 17
theorem actX_eq {d : Nat} (hd : Mod.Done d) (s : S) (own more : Int) : actX d s own more = Mod.act d s own more:=by
 rcases hd with rfl | rfl | rfl | rfl | rfl | rfl | rfl | rfl | rfl | rfl | rfl | rfl | rfl <;> rfl
theorem actX_right {d : Nat} (hd : DoneX d) {s : S} {own more : Int} (h : s.right = true) (ho : 0 ≤ own ∧ own ≤ 15) (hb : (actX d s own more).2 = true) : ({ (actX d s own more).1 with version:=0 } : S).right = true:=by
 rcases hd with hd | rfl | rfl | rfl | rfl | rfl
 ·rw [actX_eq hd] at hb ⊢
  exact Mod.act_right hd h ho hb
 ·exact Mod.to_right h ho (by simp)
 ·exact Mod.to_right h ho (by simp)
 ·simp only [actX] at hb ⊢
  simp at hb
  rw [right_iff] at h ⊢
  simp [«to»]
  omega
 ·exact Mod.to_right h ho (by simp)
 ·simp only [actX] at hb ⊢
  simp at hb
  rw [right_iff] at h ⊢
  simp [«to»]
  omega
theorem next_of {d : Nat} {s t : S} {own more : Int} (h : nextX s d own more = some t) : s.right = true ∧ (0 ≤ own ∧ own ≤ 15) ∧ (actX d s own more).2 = true ∧ t = { (actX d s own more).1 with version:=(s.version + 1) % 32768 }:=by
 unfold nextX nextOf at h
 split at h
 ·rename_i hc
  simp only [Option.some.injEq] at h
  exact ⟨hc.1, ⟨hc.2.1, hc.2.2.1⟩, hc.2.2.2, h.symm⟩
 ·cases h
theorem next_is {d : Nat} {s : S} {own more : Int} (h : s.right = true) (ho : 0 ≤ own ∧ own ≤ 15) (hb : (actX d s own more).2 = true) : nextX s d own more = some { (actX d s own more).1 with version:=(s.version + 1) % 32768 }:=by
 unfold nextX nextOf
 rw [if_pos ⟨h, ho.1, ho.2, hb⟩]
theorem next_no {d : Nat} {s : S} {own more : Int} (hb : (actX d s own more).2 = false) : nextX s d own more = none:=by
 unfold nextX nextOf
 rw [if_neg (by simp [hb])]
theorem next_right {d : Nat} (hd : DoneX d) {s t : S} {own more : Int} (h : nextX s d own more = some t) : t.right = true:=by
 obtain ⟨h1, h2, h3, rfl⟩:=next_of h
 exact right_version (actX_right hd h1 h2 h3) (by omega)
def cells (pre : List Int) (ss : List S) : List Int:=pre ++ ss.map S.word
structure Pool (c : Conf.Cf) (pre : List Int) (ss : List S) : Prop where
 pl : pre.length = 3 + 2 * c.workers.toNat
 sl : ss.length = ns c
 ok : ∀ s ∈ ss, s.right = true
section
variable {c : Conf.Cf} {pre : List Int} {ss : List S}
theorem rd_slot (h : Pool c pre ss) {i : Nat} {s : S} (hs : ss[i]? = some s) : rd (cells pre ss) (sc c i) = s.word:=by
 unfold rd cells sc
 rw [List.getD_eq_getElem?_getD, List.getElem?_append_right (by have:=h.pl; omega)]
 have : 3 + 2 * c.workers.toNat + i - pre.length = i:=by have:=h.pl; omega
 rw [this, List.getElem?_map, hs]
 rfl
theorem rd_pre (h : Pool c pre ss) {i : Nat} (hi : i < 3 + 2 * c.workers.toNat) : rd (cells pre ss) i = pre.getD i 0:=by
 unfold rd cells
 rw [List.getD_eq_getElem?_getD, List.getElem?_append_left (by have:=h.pl; omega), List.getD_eq_getElem?_getD]
theorem set_slot (h : Pool c pre ss) {i : Nat} (s : S) : (cells pre ss).set (sc c i) s.word = cells pre (ss.set i s):=by
 unfold cells sc
 rw [List.set_append_right _ _ (by have:=h.pl; omega)]
 have : 3 + 2 * c.workers.toNat + i - pre.length = i:=by have:=h.pl; omega
 rw [this, List.map_set]
theorem set_pre (h : Pool c pre ss) {i : Nat} (hi : i < 3 + 2 * c.workers.toNat) (x : Int) : (cells pre ss).set i x = cells (pre.set i x) ss:=by
 unfold cells
 rw [List.set_append_left _ _ (by have:=h.pl; omega)]
theorem Pool.set (h : Pool c pre ss) {i : Nat} {s : S} (hs : s.right = true) : Pool c pre (ss.set i s):=by
 refine ⟨h.pl, by simpa using h.sl, fun t ht => ?_⟩
 rcases List.mem_or_eq_of_mem_set ht with h1 | h1
 ·exact h.ok t h1
 ·rw [h1]; exact hs
theorem Pool.setPre (h : Pool c pre ss) (i : Nat) (x : Int) : Pool c (pre.set i x) ss:=⟨by simpa using h.pl, h.sl, h.ok⟩
theorem Pool.get (h : Pool c pre ss) {i : Nat} {s : S} (hs : ss[i]? = some s) : s.right = true:=h.ok s (List.mem_of_getElem? hs)
theorem fits_slot (h : Pool c pre ss) {i : Nat} {s : S} (hs : ss[i]? = some s) (kind own : Int) : fitsW (rd (cells pre ss) (sc c i)) kind own = Find.fits s kind own:=by
 rw [rd_slot h hs]
 unfold fitsW
 rw [dec_word (h.get hs)]
end
def it (good : Bool) : Nat → Tk × List Int → Tk × List Int
 | 0, x => x
 | n + 1, x => it good n ((x.1.step x.2 good).1, (x.1.step x.2 good).2.1)
theorem it_add (good : Bool) (m n : Nat) (x : Tk × List Int) : it good (m + n) x = it good n (it good m x):=by
 induction m generalizing x with
 | zero => rw [Nat.zero_add]; rfl
 | succ m ih => rw [Nat.succ_add]; exact ih _
theorem it_one (good : Bool) {t t' : Tk} {ws ws' : List Int} {k : Nat} (h : t.step ws good = (t', ws', k)) : it good 1 (t, ws) = (t', ws'):=by
 show ((t.step ws good).1, (t.step ws good).2.1) = _
 rw [h]
theorem step_done (good : Bool) {t : Tk} {ws : List Int} (h : t.st = 15) : t.step ws good = (t, ws, 0):=by
 unfold Tk.step
 rw [h]
 rfl
theorem it_done (good : Bool) (n : Nat) {t : Tk} {ws : List Int} (h : t.st = 15) : it good n (t, ws) = (t, ws):=by
 induction n with
 | zero => rfl
 | succ n ih =>
  show it good n _ = _
  rw [step_done good h]
  exact ih
theorem alone_of (good : Bool) : ∀ (n f k : Nat) {t : Tk} {ws : List Int} {t' : Tk} {ws' : List Int}, it good (n + 1) (t, ws) = (t', ws') → t'.st = 15 → n < f → (alone good f k t ws).2 = (t', ws') ∧ (alone good f k t ws).1 ≤ k + n + 1:=by
 intro n
 induction n with
 | zero =>
  intro f k t ws t' ws' h h15 hf
  obtain ⟨f, rfl⟩ : ∃ g, f = g + 1:=⟨f - 1, by omega⟩
  have h1 : ((t.step ws good).1, (t.step ws good).2.1) = (t', ws'):=h
  unfold alone
  have h2 : (t.step ws good).1 = t':=congrArg Prod.fst h1
  rw [if_pos (by rw [h2]; exact h15)]
  exact ⟨h1, by simp⟩
 | succ n ih =>
  intro f k t ws t' ws' h h15 hf
  obtain ⟨f, rfl⟩ : ∃ g, f = g + 1:=⟨f - 1, by omega⟩
  have h1 : it good (n + 1) ((t.step ws good).1, (t.step ws good).2.1) = (t', ws'):=h
  unfold alone
  split
  ·rename_i hd
   rw [it_done good _ hd] at h1
   exact ⟨h1, by simp⟩
  ·obtain ⟨h2, h3⟩:=ih f (k + 1) h1 h15 (by omega)
   exact ⟨h2, by omega⟩
def lk (kd ow : Int) (k : Nat) (wd : Int) : Option Fd:=some ⟨kd, ow, k, wd, false⟩
section
variable {c : Conf.Cf} {pre : List Int} {ss : List S} {t : Tk} {kd ow wd : Int} {k : Nat} {good : Bool}
theorem seek_miss (h : Pool c pre ss) (hc : t.cf = c) (hl : t.look = lk kd ow k wd) {s : S} (hs : ss[k]? = some s) (hf : Find.fits s kd ow = false) :
  t.seek (cells pre ss) = (false, decide (ns c ≤ k + 1), { t with look:=lk kd ow (k + 1) wd }, 1):=by
 have hk : k < ns c:=by rw [← h.sl]; exact (List.getElem?_eq_some_iff.1 hs).1
 unfold Tk.seek Tk.fd
 rw [hl]
 simp only [lk, Option.getD_some, Fd.step, hc, Bool.false_eq_true, false_or]
 rw [if_neg (by omega), if_neg (by rw [fits_slot h hs, hf]; simp)]
 simp
theorem seek_hit (h : Pool c pre ss) (hc : t.cf = c) (hl : t.look = lk kd ow k wd) {s : S} (hs : ss[k]? = some s) (hf : Find.fits s kd ow = true) :
  t.seek (cells pre ss) = (true, false, { t with look:=some ⟨kd, ow, k, s.word, true⟩ }, 1):=by
 have hk : k < ns c:=by rw [← h.sl]; exact (List.getElem?_eq_some_iff.1 hs).1
 unfold Tk.seek Tk.fd
 rw [hl]
 simp only [lk, Option.getD_some, Fd.step, hc, Bool.false_eq_true, false_or]
 rw [if_neg (by omega), if_pos (by rw [fits_slot h hs, hf])]
 simp [rd_slot h hs]
theorem seek_end (hc : t.cf = c) (hl : t.look = lk kd ow k wd) (hk : ns c ≤ k) (ws : List Int) : t.seek ws = (false, true, t, 0):=by
 obtain ⟨a1, a2, a3, a4, a5, a6, a7, a8, a9, a10⟩:=t
 simp only at hl hc
 subst hl
 subst hc
 simp [Tk.seek, Tk.fd, lk, Fd.step, hk]
def Looks (n : Nat) : Prop:=n = 1 ∨ n = 3 ∨ n = 5 ∨ n = 7
theorem step_miss (h : Pool c pre ss) (hc : t.cf = c) (hst : Looks t.st) (hl : t.look = lk kd ow k wd) {s : S} (hs : ss[k]? = some s) (hf : Find.fits s kd ow = false) (hk : k + 1 < ns c) :
  t.step (cells pre ss) good = ({ t with look:=lk kd ow (k + 1) wd }, cells pre ss, 1):=by
 have e:=seek_miss h hc hl hs hf
 have e2 : decide (ns c ≤ k + 1) = false:=by simp; omega
 rw [e2] at e
 rcases hst with q | q | q | q <;> (unfold Tk.step; rw [q]; simp only [e]; simp [q])
theorem scan (h : Pool c pre ss) (d : Nat) : ∀ {t : Tk} {k : Nat}, t.cf = c → Looks t.st → t.look = lk kd ow k wd → k + d < ns c → (∀ i s, k ≤ i → i < k + d → ss[i]? = some s → Find.fits s kd ow = false) →
  it good d (t, cells pre ss) = ({ t with look:=lk kd ow (k + d) wd }, cells pre ss):=by
 induction d with
 | zero =>
  intro t k hc hst hl hk hn
  have e : ({ t with look:=lk kd ow (k + 0) wd } : Tk) = t:=by
   obtain ⟨a1, a2, a3, a4, a5, a6, a7, a8, a9, a10⟩:=t
   simp only at hl
   subst hl
   rfl
  rw [e]
  rfl
 | succ d ih =>
  intro t k hc hst hl hk hn
  obtain ⟨s, hs⟩ : ∃ s, ss[k]? = some s:=⟨_, List.getElem?_eq_getElem (by rw [h.sl]; omega)⟩
  have h1:=step_miss (good:=good) h hc hst hl hs (hn k s (Nat.le_refl _) (by omega) hs) (by omega)
  show it good d _ = _
  rw [h1]
  have h2:=ih (t:={ t with look:=lk kd ow (k + 1) wd }) (k:=k + 1) hc hst rfl (by omega) (fun i s' h1 h2 => hn i s' (by omega) (by omega))
  simp only at h2 ⊢
  rw [h2]
  simp only [show k + 1 + d = k + (d + 1) by omega]
end
end Go.Proofs.YtefpoidnklflnaaGreatDoor.Tk
namespace Go.Proofs.YtefpoidnklflnaaGreatDoor.Cl
open Go.RowKit Hp Slot RowL Life
def DoneT (d : Nat) : Prop:=d = 0 ∨ d = 1 ∨ d = 2 ∨ d = 3 ∨ d = 9 ∨ d = 11 ∨ d = 16 ∨ d = 17
theorem DoneT.x {d : Nat} (h : DoneT d) : Tk.DoneX d:=by
 rcases h with rfl | rfl | rfl | rfl | rfl | rfl | rfl | rfl
 ·exact .inl (by simp [Mod.Done])
 ·exact .inl (by simp [Mod.Done])
 ·exact .inl (by simp [Mod.Done])
 ·exact .inl (by simp [Mod.Done])
 ·exact .inl (by simp [Mod.Done])
 ·exact .inr (.inr (.inr (.inl rfl)))
 ·exact .inl (by simp [Mod.Done])
 ·exact .inr (.inr (.inr (.inr (.inr rfl))))
theorem actx_any (d : Nat) (hd : DoneT d) (s : S) (own more : Int) : ∃ F, (∀ args w, (callFunc F args).run Tryz.prog w = .ok (.enter F args) w) ∧ acts[d]? = some (.func (.func F) #[] #[]) ∧
  (s.right = true → ∀ W, Calls Tryz.prog F #[cval s own more] W fun e W' => e = .returned (.tuple #[(Tk.actX d s own more).1.val, .bool (Tk.actX d s own more).2]) ∧ Below W.heap.size W W'):=by
 have hu:=fun h => (right_bounds (s:=s) h).2.1
 have hg:=fun h => (right_bounds (s:=s) h).2.2.1
 rcases hd with rfl | rfl | rfl | rfl | rfl | rfl | rfl | rfl
 ·exact ⟨_, enters_of Tryz.func133 (by kernel_rfl) rfl, rfl, fun h W => dial_any W s own more⟩
 ·exact ⟨_, enters_of Tryz.func134 (by kernel_rfl) rfl, rfl, fun h W => up_any W s own more (hu h) (hg h)⟩
 ·exact ⟨_, enters_of Tryz.func135 (by kernel_rfl) rfl, rfl, fun h W => fail_any W s own more⟩
 ·exact ⟨_, enters_of Tryz.func136 (by kernel_rfl) rfl, rfl, fun h W => lease_any W s own more (hu h) (hg h)⟩
 ·exact ⟨_, enters_of Tryz.func142 (by kernel_rfl) rfl, rfl, fun h W => move_any W s own more⟩
 ·exact ⟨_, enters_of Tryz.func144 (by kernel_rfl) rfl, rfl, fun h W => retire_any W s own more⟩
 ·refine ⟨_, enters_of Tryz.func149 (by kernel_rfl) rfl, rfl, fun h W => (take_any W s own more (hu h) (hg h)).mono ?_⟩
  rintro e W' ⟨rfl, hb⟩
  refine ⟨?_, hb⟩
  simp only [Tk.actX, Mod.act]
  split <;> rfl
 ·exact ⟨_, enters_of Tryz.func150 (by kernel_rfl) rfl, rfl, fun h W => age_any W s own more⟩
theorem nextx_any (W : World) (s : S) (d : Nat) (own more : Int) (hd : DoneT d) (hr : s.right = true) (hL : Laid W) : Calls Tryz.prog 108 #[s.val, .i d, .i own, .i more] W fun e W' =>
  e = .returned (.tuple #[((Tk.nextX s d own more).getD S.zero).val, .bool (Tk.nextX s d own more).isSome]) ∧ Below W.heap.size W W':=by
 obtain ⟨F, h1, h2, h3⟩:=actx_any d hd s own more
 exact next_gen W s own more F d _ _ (by unfold DoneT at hd; omega) h1 h2 hL (Mod.right_wf hr) h3
end Go.Proofs.YtefpoidnklflnaaGreatDoor.Cl
namespace Go.Proofs.YtefpoidnklflnaaGreatDoor.Slot
open Go.RowKit Hp RowL Life
theorem parts9 (n : Int) : fields9.map (Field.part n) = [n % 8, n / 8 % 16, n / 128 % 256, n / 32768 % 2, n / 65536 % 2, n / 131072 % 64, n / 8388608 % 4096, n / 34359738368 % 4096, n / 140737488355328 % 32768]:=by
 simp [fields9, Field.part]
theorem dec_cut (n : Int) : dec n = if (cut n).right = true ∧ (cut n).word = n then some (cut n) else none:=by
 unfold dec
 by_cases hr : (cut n).right = true
 ·have hb:=word_bd hr
  by_cases hn : 0 ≤ n ∧ n < 4611686018427387904
  ·simp [hr, hn, word_cut hn.1 hn.2]
  ·have : (cut n).word ≠ n:=fun e => hn (e ▸ hb)
   simp [hr, this]
   intro a
   omega
 ·simp [hr]
theorem decode_gen (w : World) (n st ow sm b3 b4 us ge ep ve zz : Int) (ok : Bool) (hL : Laid w) (hp : fields9.map (Field.part n) = [st, ow, sm, b3, b4, us, ge, ep, ve])
  (hE : ∀ W, Laid W → Calls Tryz.prog 107 #[S.val ⟨st, ow, sm, b3 == 1, b4 == 1, us, ge, ep, ve⟩] W fun e W' => (∃ z, e = .returned (.tuple #[.i z, .bool ok]) ∧ (ok = true → z = zz)) ∧ Below W.heap.size W W') :
  Calls Tryz.prog 90 #[.i n] w fun e w' => e = .returned (.tuple #[S.val (if (ok && zz == n) = true then ⟨st, ow, sm, b3 == 1, b4 == 1, us, ge, ep, ve⟩ else S.zero), .bool (ok && zz == n)]) ∧ Below w.heap.size w w':=by
 have hA0 : Below w.heap.size w (w.alloc (.cells Zs 30)):=(Below.refl _ _).alloc (Nat.le_refl _) _
 have hK0 : Life.Kp (w.alloc (.cells Zs 30)) w.heap.size (w.alloc (.cells Zs 30)):=⟨Chg.refl _ _, Zs, rfl, RowAt.new w Zs _⟩
 have hL0 : Laid (w.alloc (.cells Zs 30)):=hL.stable (hA0.block 0 (hL.lt (by decide)))
 have hr9:=range9 hL0
 have e1 : (w.alloc (.cells Zs 30)).heap.size = w.heap.size + 1:=by simp
 have hst:=store9 (w.alloc (.cells Zs 30))
 rw [e1] at hst
 have hPV:=fun W g h hg => Field.parts_val W n g fields9 (by decide) h hg fields9_R
 rw [hp] at hPV
 simp only [S.val, S.cells] at hE
 clear hp
 go_enter Tryz.func90, Tryz.ntmps90
 go_wp2_with (first
  | (refine wpList_load_mid rfl 139 (.global 0) rfl 0 0 rfl cs9 _ hr9 Tryz.underlying139 rfl (by kernel_rfl) ?_))
 have hA2 : Below (w.alloc (.cells Zs 30)).heap.size (w.alloc (.cells Zs 30)) ((w.alloc (.cells Zs 30)).alloc (.cells cs9.toArray 139)):=(Below.refl _ _).alloc (Nat.le_refl _) _
 have hK2:=hK0.later hA2
 have hL2:=hL0.stable (hA2.block 0 (hL0.lt (by decide)))
 have hF : Field.FAt ((w.alloc (.cells Zs 30)).alloc (.cells cs9.toArray 139)) (w.heap.size + 1) fields9:=e1 ▸ fat9 (range_new _ _)
 refine Calls.mono (show Calls Tryz.prog 106 #[.i n, .slice (some ⟨w.heap.size + 1, 0, none⟩) 9 9] _ _ from hPV _ _ hF (by simp)) ?_
 rintro e w7 ⟨v, rfl, ho, hfp, hb7⟩
 change OwnS w7 v 9 1 _ at ho
 have hK7:=hK2.later hb7
 have hL7:=hL2.stable (hb7.block 0 (hL2.lt (by decide)))
 clear hA2 hK2 hL2 hF hb7 hr9 hst hPV hL0 hK0
 obtain ⟨pg, po, pc, rfl, p1, p2, p3, p4, p5, p6⟩:=ho.some (by decide)
 have k0:=p6 0 _ rfl
 have k1:=p6 1 _ rfl
 have k2:=p6 2 _ rfl
 have k3:=p6 3 _ rfl
 have k4:=p6 4 _ rfl
 have k5:=p6 5 _ rfl
 have k6:=p6 6 _ rfl
 have k7:=p6 7 _ rfl
 have k8:=p6 8 _ rfl
 simp only [Nat.add_zero] at k0
 have hA7 : Below w7.heap.size w7 (w7.alloc (.cells Zs 30)):=(Below.refl _ _).alloc (Nat.le_refl _) _
 have q0:=Field.bkeep hA7 k0
 have q1:=Field.bkeep hA7 k1
 have q2:=Field.bkeep hA7 k2
 have q3:=Field.bkeep hA7 k3
 have q4:=Field.bkeep hA7 k4
 have q5:=Field.bkeep hA7 k5
 have q6:=Field.bkeep hA7 k6
 have q7:=Field.bkeep hA7 k7
 have q8:=Field.bkeep hA7 k8
 have hA9 : Below w7.heap.size w7 (w7.alloc (.cells (Ab st ow sm (b3 == 1) (b4 == 1) us ge ep ve) 30)).drew:=((Below.refl _ _).alloc (Nat.le_refl _) _).drew
 have hK8:=hK7.later hA9
 have hL8 : Laid (w7.alloc (.cells (Ab st ow sm (b3 == 1) (b4 == 1) us ge ep ve) 30)).drew:=hL7.stable (hA9.block 0 (hL7.lt (by decide)))
 clear p1 p2 p3 p4 p5 p6 ho hfp hK7 hL7
 generalize w.alloc (.cells Zs 30) = wa at *
 have HE:=Lib.hid hE
 have HK8:=Lib.hid hK8
 have HL8:=Lib.hid hL8
 have HA0:=Lib.hid hA0
 clear hE hK8 hL8 hL hA0 e1 hA7 hA9
 go_wp2_with fail
 go_region_held3 (fun w' => w'.cell? ⟨pg, po, none⟩ = some (.i st) ∧ w'.cell? ⟨pg, po + 1, none⟩ = some (.i ow) ∧ w'.cell? ⟨pg, po + 2, none⟩ = some (.i sm) ∧ w'.cell? ⟨pg, po + 3, none⟩ = some (.i b3) ∧ w'.cell? ⟨pg, po + 4, none⟩ = some (.i b4) ∧ w'.cell? ⟨pg, po + 5, none⟩ = some (.i us) ∧ w'.cell? ⟨pg, po + 6, none⟩ = some (.i ge) ∧ w'.cell? ⟨pg, po + 7, none⟩ = some (.i ep) ∧ w'.cell? ⟨pg, po + 8, none⟩ = some (.i ve)) (first | go_keep | exact ⟨by assumption, by assumption, by assumption, by assumption, by assumption, by assumption, by assumption, by assumption, by assumption⟩) (fail)
 have hg : RowAt (w7.alloc (.cells (Ab st ow sm (b3 == 1) (b4 == 1) us ge ep ve) 30)).drew w7.heap.size (Ab st ow sm (b3 == 1) (b4 == 1) us ge ep ve) 30:=RowAt.new w7 _ _
 generalize (w7.alloc (.cells (Ab st ow sm (b3 == 1) (b4 == 1) us ge ep ve) 30)).drew = w9 at *
 clear k0 k1 k2 k3 k4 k5 k6 k7 k8 q0 q1 q2 q3 q4 q5 q6 q7 q8
 have c0 : w9.cell? ⟨w7.heap.size, 0, none⟩ = some (.i st):=by rw [RowAt.cell hg]; rfl
 have c1 : w9.cell? ⟨w7.heap.size, 1, none⟩ = some (.i ow):=by rw [RowAt.cell hg]; rfl
 have c2 : w9.cell? ⟨w7.heap.size, 2, none⟩ = some (.i sm):=by rw [RowAt.cell hg]; rfl
 have c3 : w9.cell? ⟨w7.heap.size, 3, none⟩ = some (.bool (b3 == 1)):=by rw [RowAt.cell hg]; rfl
 have c4 : w9.cell? ⟨w7.heap.size, 4, none⟩ = some (.bool (b4 == 1)):=by rw [RowAt.cell hg]; rfl
 have c5 : w9.cell? ⟨w7.heap.size, 5, none⟩ = some (.i us):=by rw [RowAt.cell hg]; rfl
 have c6 : w9.cell? ⟨w7.heap.size, 6, none⟩ = some (.i ge):=by rw [RowAt.cell hg]; rfl
 have c7 : w9.cell? ⟨w7.heap.size, 7, none⟩ = some (.i ep):=by rw [RowAt.cell hg]; rfl
 have c8 : w9.cell? ⟨w7.heap.size, 8, none⟩ = some (.i ve):=by rw [RowAt.cell hg]; rfl
 generalize w7.heap.size = fb at *
 go_wp2_with fail
 refine (HE.out _ HL8.out).mono ?_
 rintro e wx ⟨⟨z, rfl, hz⟩, hbx⟩
 have hKx:=HK8.out.later hbx
 have d0 : wx.cell? ⟨fb, 0, none⟩ = some (.i st):=Field.bkeep hbx c0
 have d1 : wx.cell? ⟨fb, 1, none⟩ = some (.i ow):=Field.bkeep hbx c1
 have d2 : wx.cell? ⟨fb, 2, none⟩ = some (.i sm):=Field.bkeep hbx c2
 have d3 : wx.cell? ⟨fb, 3, none⟩ = some (.bool (b3 == 1)):=Field.bkeep hbx c3
 have d4 : wx.cell? ⟨fb, 4, none⟩ = some (.bool (b4 == 1)):=Field.bkeep hbx c4
 have d5 : wx.cell? ⟨fb, 5, none⟩ = some (.i us):=Field.bkeep hbx c5
 have d6 : wx.cell? ⟨fb, 6, none⟩ = some (.i ge):=Field.bkeep hbx c6
 have d7 : wx.cell? ⟨fb, 7, none⟩ = some (.i ep):=Field.bkeep hbx c7
 have d8 : wx.cell? ⟨fb, 8, none⟩ = some (.i ve):=Field.bkeep hbx c8
 clear c0 c1 c2 c3 c4 c5 c6 c7 c8
 have hB : ∀ r : S, Below w.heap.size w (wx.setRow w.heap.size r.cells):=fun r => (hKx.set r).below HA0.out (Nat.le_refl _)
 obtain ⟨-, Zz, hzz, hgz⟩:=id hKx
 have hgx : RowAt wx fb (Ab st ow sm (b3 == 1) (b4 == 1) us ge ep ve) 30:=(hbx.block _ (RowAt.lt hg)).trans hg
 have HKx:=Lib.hid hKx
 have HB:=Lib.hid hB
 have HZ:=Lib.hid hz
 clear hKx hB hbx hz hg
 dsimp only
 cases ok
 ·go_upto_region 6 with (fail)
  refine wp_region_lit ?_
  refine gl (.agg Zs) ?_
  refine gSt hgz Zs 30 (.tmp 2) (.tmp 55) ?_ (hsz:=hzz)
  go_wp2_with fail
  refine bR2 w.heap.size (HKx.out.row S.zero) Tryz.underlying30 ?_
  exact ⟨rfl, HB.out S.zero⟩
 ·obtain rfl : z = zz:=HZ.out rfl
  by_cases hzn : z = n
  ·have hd : (z != n) = false:=by simp [hzn]
   have hd2 : (z == n) = true:=by simp [hzn]
   go_upto_region 7 with (fail)
   refine wp_region_lit ?_
   refine grow hgx 30 (.tmp 6) Tryz.underlying30 ?_
   refine gSt hgz (Ab st ow sm (b3 == 1) (b4 == 1) us ge ep ve) 30 (.tmp 2) (.tmp 56) ?_ (hsz:=hzz)
   go_wp2_with fail
   refine bR2 w.heap.size (HKx.out.row ⟨st, ow, sm, b3 == 1, b4 == 1, us, ge, ep, ve⟩) Tryz.underlying30 ?_
   exact ⟨rfl, HB.out ⟨st, ow, sm, b3 == 1, b4 == 1, us, ge, ep, ve⟩⟩
  ·have hd : (z != n) = true:=by simp [hzn]
   have hd2 : (z == n) = false:=by simp [hzn]
   go_upto_region 6 with (fail)
   refine wp_region_lit ?_
   refine gl (.agg Zs) ?_
   refine gSt hgz Zs 30 (.tmp 2) (.tmp 55) ?_ (hsz:=hzz)
   go_wp2_with fail
   refine bR2 w.heap.size (HKx.out.row S.zero) Tryz.underlying30 ?_
   exact ⟨rfl, HB.out S.zero⟩
theorem cut_wf (n : Int) : (cut n).wf:=by
 intro x hx
 have b1:=bit_bd (cut n).broken
 have b2:=bit_bd (cut n).marked
 simp only [S.nums, List.mem_cons, List.not_mem_nil, or_false] at hx
 rcases hx with rfl | rfl | rfl | rfl | rfl | rfl | rfl | rfl | rfl <;> first | omega | (simp only [cut]; omega)
theorem decode_val (w : World) (n : Int) (hL : Laid w) : Calls Tryz.prog 90 #[.i n] w fun e w' => e = .returned (.tuple #[((dec n).getD S.zero).val, .bool (dec n).isSome]) ∧ Below w.heap.size w w':=by
 have h:=decode_gen w n (n % 8) (n / 8 % 16) (n / 128 % 256) (n / 32768 % 2) (n / 65536 % 2) (n / 131072 % 64) (n / 8388608 % 4096) (n / 34359738368 % 4096) (n / 140737488355328 % 32768) (cut n).word (cut n).right hL (parts9 n) (fun W hW => by
  change Calls _ _ #[S.val (cut n)] W _
  by_cases hr : (cut n).right = true
  ·refine (encode_word W _ hW hr).mono ?_
   rintro e w' ⟨rfl, hb⟩
   exact ⟨⟨_, by rw [hr], fun _ => rfl⟩, hb⟩
  ·refine (encode_any W _ hW (cut_wf n)).mono ?_
   rintro e w' ⟨z, rfl, hb⟩
   exact ⟨⟨z, rfl, fun h => absurd h hr⟩, hb⟩)
 refine h.mono ?_
 rintro e w' ⟨rfl, hb⟩
 refine ⟨?_, hb⟩
 rw [dec_cut]
 by_cases hr : (cut n).right = true ∧ (cut n).word = n
 ·rw [if_pos hr, hr.1, hr.2]; simp; rfl
 ·rw [if_neg hr]
  have : ((cut n).right && (cut n).word == n) = false:=by
   cases h1 : (cut n).right <;> simp_all
  rw [this]; rfl
end Go.Proofs.YtefpoidnklflnaaGreatDoor.Slot
namespace Go.Proofs.YtefpoidnklflnaaGreatDoor.Cl
open Go.RowKit Hp RowL Conf Tk
def fcells (c : Cf) (f : Tk.Fd) : Array Value:=(Af c.workers c.slots c.streams c.waiters c.uses f.kind f.own f.at' f.word f.found)
def FdAt (W : World) (fb : Nat) (c : Cf) (f : Tk.Fd) : Prop:=RowAt W fb (fcells c f) 136
section
variable {W : World} {fb : Nat} {c : Cf} {f : Tk.Fd}
theorem FdAt.lt (h : FdAt W fb c f) : fb < W.heap.size:=RowAt.lt h
theorem FdAt.below {W' : World} (h : FdAt W fb c f) (hb : Below W.heap.size W W') : FdAt W' fb c f:=(hb.block _ h.lt).trans h
theorem FdAt.chg {W' : World} {F : Nat → Prop} (h : FdAt W fb c f) (hc : Chg F W W') (hF : ¬ F fb) : FdAt W' fb c f:=(hc.block _ h.lt hF).trans h
theorem FdAt.cell (h : FdAt W fb c f) (i : Nat) : W.cell? ⟨fb, i, none⟩ = (fcells c f)[i]?:=RowAt.cell h i
theorem FdAt.frozen (h : FdAt W fb c f) (i : Nat) : W.frozen? ⟨fb, i, none⟩ = false:=RowAt.frozen h i
theorem FdAt.setFound (h : FdAt W fb c f) (b : Bool) : FdAt (W.setCell ⟨fb, 9, none⟩ (.bool b)) fb c { f with found:=b }:=RowAt.setc h 9 _
theorem FdAt.setWord (h : FdAt W fb c f) (x : Int) : FdAt (W.setCell ⟨fb, 8, none⟩ (.i x)) fb c { f with word:=x }:=RowAt.setc h 8 _
theorem FdAt.setAt (h : FdAt W fb c f) (x : Nat) : FdAt (W.setCell ⟨fb, 7, none⟩ (.i x)) fb c { f with at':=x }:=RowAt.setc h 7 _
end
theorem fnew_any (w : World) (c : Cf) (kind own : Int) : Calls Tryz.prog 103 #[c.val, .i kind, .i own, .i 0] w fun e w' => ∃ fb, e = .returned (.pointer (some ⟨fb, 0, none⟩)) ∧ FdAt w' fb c (Tk.Fd.new kind own) ∧ w.heap.size ≤ fb ∧ Below w.heap.size w w':=by
 obtain ⟨cw, cs, cst, cwa, cu⟩:=c
 go_enter Tryz.func103, Tryz.ntmps103
 simp only [Cf.val, Cf.cells]
 go_wp2_with fail
 go_ret
 refine ⟨w.heap.size + 1, rfl, ?_, by omega, ((Below.refl _ _).alloc (Nat.le_refl _) _).alloc (by simp) _⟩
 exact heap_alloc2_new _ _ _
theorem fall_any {W : World} {fb : Nat} {c : Cf} {f : Tk.Fd} (h : FdAt W fb c f) : Calls Tryz.prog 113 #[.pointer (some ⟨fb, 0, none⟩)] W fun e w' => e = .returned (.bool (decide (c.slots ≤ (f.at' : Int)))) ∧ Below W.heap.size W w':=by
 have c1 : W.cell? ⟨fb, 1, none⟩ = some (.i c.slots):=h.cell 1
 have c7 : W.cell? ⟨fb, 7, none⟩ = some (.i f.at'):=h.cell 7
 clear h
 go_enter Tryz.func113, Tryz.ntmps113
 go_wp2_with fail
 go_region
 go_wp2_with fail
 go_ret
 exact ⟨rfl, (Below.refl _ _).drew⟩
theorem found_any {W : World} {fb : Nat} {c : Cf} {f : Tk.Fd} (h : FdAt W fb c f) : Calls Tryz.prog 89 #[.pointer (some ⟨fb, 0, none⟩)] W fun e w' => e = .returned (if f.found then .tuple #[.i f.at', .i f.word, .bool true] else .tuple #[.i 0, .i 0, .bool false]) ∧ Below W.heap.size W w':=by
 have c7 : W.cell? ⟨fb, 7, none⟩ = some (.i f.at'):=h.cell 7
 have c8 : W.cell? ⟨fb, 8, none⟩ = some (.i f.word):=h.cell 8
 have c9 : W.cell? ⟨fb, 9, none⟩ = some (.bool f.found):=h.cell 9
 clear h
 go_enter Tryz.func89, Tryz.ntmps89
 cases hf : f.found
 ·rw [hf] at c9
  go_wp2_with fail
  go_ret3
  exact ⟨rfl, Below.refl _ _⟩
 ·rw [hf] at c9
  go_wp2_with fail
  go_region
  go_wp2_with fail
  go_ret3
  exact ⟨rfl, (Below.refl _ _).drew⟩
theorem again_any {W : World} {fb : Nat} {c : Cf} {f : Tk.Fd} (h : FdAt W fb c f) : Calls Tryz.prog 105 #[.pointer (some ⟨fb, 0, none⟩)] W fun e w' => e = .returned (.tuple #[]) ∧ FdAt w' fb c f.again ∧ Chg (fun k => k = fb) W w':=by
 have c9 : W.cell? ⟨fb, 9, none⟩ = some (.bool f.found):=h.cell 9
 have f9:=h.frozen 9
 have H:=Lib.hid h
 clear h
 go_enter Tryz.func105, Tryz.ntmps105
 go_wp2_with fail
 first | go_end0 | refine bodyPost_ret (results_none rfl _ _ _) rfl ?_
 exact ⟨rfl, H.out.setFound false, (Chg.refl _ _).setCell _ _ (fun _ => rfl)⟩
theorem go_any {W : World} {fb : Nat} {c : Cf} {f : Tk.Fd} (h : FdAt W fb c f) (hat : f.at' ≤ 1000) : Calls Tryz.prog 91 #[.pointer (some ⟨fb, 0, none⟩)] W fun e w' => e = .returned (.tuple #[]) ∧ FdAt w' fb c f.go ∧ Chg (fun k => k = fb) W w':=by
 have c7 : W.cell? ⟨fb, 7, none⟩ = some (.i f.at'):=h.cell 7
 have f7:=h.frozen 7
 have c9 : W.cell? ⟨fb, 9, none⟩ = some (.bool f.found):=h.cell 9
 have f9:=h.frozen 9
 have H:=Lib.hid h
 have e1 : wrap64 ((f.at' : Int) + 1) = ((f.at' + 1 : Nat) : Int):=by unfold wrap64; omega
 clear h
 go_enter Tryz.func91, Tryz.ntmps91
 cases hf : f.found
 ·rw [hf] at c9
  go_wp2_with fail
  first | go_end0 | refine bodyPost_ret (results_none rfl _ _ _) rfl ?_
  exact ⟨rfl, by unfold Tk.Fd.go; rw [hf]; exact H.out, Chg.refl _ _⟩
 ·rw [hf] at c9
  go_wp2_with fail
  first | go_end0 | refine bodyPost_ret (results_none rfl _ _ _) rfl ?_
  have h1 : Chg (fun k => k = fb) W (W.setCell ⟨fb, 9, none⟩ (.bool false)):=(Chg.refl _ _).setCell _ _ (fun _ => rfl)
  refine ⟨rfl, ?_, h1.setCell ⟨fb, 7, none⟩ _ (fun _ => rfl)⟩
  have h2:=(H.out.setFound false).setAt (f.at' + 1)
  rw [show ((f.at' + 1 : Nat) : Int) = (f.at' : Int) + 1 by omega] at h2
  unfold Tk.Fd.go
  rw [hf, if_pos rfl]
  exact h2
end Go.Proofs.YtefpoidnklflnaaGreatDoor.Cl
namespace Go.Proofs.YtefpoidnklflnaaGreatDoor.Cl
open Go.RowKit Hp RowL Conf Tk Slot
def FPost (W : World) (fb mb wb : Nat) (c : Cf) (ws : List Int) (tc : Int) (r : Bool × Tk.Fd × Nat) (e : Ending) (W' : World) : Prop :=
 e = .returned (.bool r.1) ∧ FdAt W' fb c r.2.1 ∧ CAt W' mb wb ws (tc + r.2.2) ∧ Chg (fun k => k = fb ∨ cfp mb wb k) W W'
structure Apart (fb mb wb : Nat) : Prop where
 m : fb ≠ mb
 w : fb ≠ wb
 f0 : 0 ≠ fb
 m0 : 0 ≠ mb
 w0 : 0 ≠ wb
structure Small (c : Cf) : Prop where
 w : 0 ≤ c.workers ∧ c.workers ≤ 8
 s : 0 ≤ c.slots ∧ c.slots ≤ 100
theorem fstep_idle {W : World} {fb mb wb : Nat} {c : Cf} {f : Tk.Fd} {ws : List Int} {tc : Int} (h : FdAt W fb c f) (hm : CAt W mb wb ws tc) (hc : Small c) (hI : f.found = true ∨ ns c ≤ f.at') :
  Calls Tryz.prog 104 #[.pointer (some ⟨fb, 0, none⟩), .pointer (some ⟨mb, 0, none⟩)] W (FPost W fb mb wb c ws tc (f.step c ws)):=by
 have hs : f.step c ws = (true, f, 0):=by unfold Fd.step; rw [if_pos hI]
 rw [hs]
 have c9 : W.cell? ⟨fb, 9, none⟩ = some (.bool f.found):=h.cell 9
 have hal:=fall_any h
 have hpost : ∀ W', Below W.heap.size W W' → FPost W fb mb wb c ws tc (true, f, 0) (.returned (.bool true)) W':=fun W' hb => ⟨rfl, h.below hb, by simpa using hm.below hb, Chg.ofBelow hb⟩
 have HP:=Lib.hid hpost
 have HI:=Lib.hid hI
 clear hpost hs h hm hI
 go_enter Tryz.func104, Tryz.ntmps104
 cases hf : f.found
 ·have hns : (c.slots ≤ (f.at' : Int)):=by
   rcases HI.out with h1 | h1
   ·rw [hf] at h1; cases h1
   ·have h2:=hc.s
    unfold ns at h1
    omega
  have hd : decide (c.slots ≤ (f.at' : Int)) = true:=by simpa using hns
  rw [hf] at c9
  rw [hd] at hal
  go_wp2_with fail
  refine hal.mono ?_
  rintro e w5 ⟨rfl, hb⟩
  clear hal
  go_wp2_with fail
  go_ret
  exact HP.out _ hb
 ·rw [hf] at c9
  go_wp2_with fail
  go_ret
  exact HP.out _ (Below.refl _ _)
theorem fstep_look {W : World} {fb mb wb : Nat} {c : Cf} {f : Tk.Fd} {ws : List Int} {tc x : Int} (hL : Laid W) (h : FdAt W fb c f) (hm : CAt W mb wb ws tc) (hc : Small c) (ha : Apart fb mb wb) (ht : 0 ≤ tc ∧ tc ≤ 4000000000000000000)
  (hk : f.kind = 0 ∨ f.kind = 1 ∨ f.kind = 2 ∨ f.kind = 3 ∨ f.kind = 4 ∨ f.kind = 6) (hf : f.found = false) (hat : f.at' < ns c) (hx : ws[sc c f.at']? = some x) :
  Calls Tryz.prog 104 #[.pointer (some ⟨fb, 0, none⟩), .pointer (some ⟨mb, 0, none⟩)] W (FPost W fb mb wb c ws tc (f.step c ws)):=by
 have hal:=fall_any h
 have hrd : rd ws (sc c f.at') = x:=by unfold rd; rw [List.getD_eq_getElem?_getD, hx]; rfl
 have hs : f.step c ws = if fitsW x f.kind f.own then (true, { f with word:=x, found:=true }, 1) else (decide (ns c ≤ f.at' + 1), { f with at':=f.at' + 1 }, 1):=by
  unfold Fd.step
  rw [if_neg (by rw [hf]; simp; exact hat), hrd]
 have HS:=Lib.hid hs
 have hd : decide (c.slots ≤ (f.at' : Int)) = false:=by
  have h2:=hc.s
  unfold ns at hat
  simp
  omega
 rw [hd] at hal
 have hF:=h
 have hcell:=fun i => h.cell i
 simp only [fcells, hf] at hcell
 have a0 : W.cell? ⟨fb, 0, none⟩ = some (.i c.workers):=hcell 0
 have a1 : W.cell? ⟨fb, 1, none⟩ = some (.i c.slots):=hcell 1
 have a2 : W.cell? ⟨fb, 2, none⟩ = some (.i c.streams):=hcell 2
 have a3 : W.cell? ⟨fb, 3, none⟩ = some (.i c.waiters):=hcell 3
 have a4 : W.cell? ⟨fb, 4, none⟩ = some (.i c.uses):=hcell 4
 have a5 : W.cell? ⟨fb, 5, none⟩ = some (.i f.kind):=hcell 5
 have a6 : W.cell? ⟨fb, 6, none⟩ = some (.i f.own):=hcell 6
 have a7 : W.cell? ⟨fb, 7, none⟩ = some (.i f.at'):=hcell 7
 have a8 : W.cell? ⟨fb, 8, none⟩ = some (.i f.word):=hcell 8
 have a9 : W.cell? ⟨fb, 9, none⟩ = some (.bool false):=hcell 9
 clear hcell
 have hE:=Lib.hid (show Laid W ∧ FdAt W fb c f ∧ CAt W mb wb ws tc from ⟨hL, h, hm⟩)
 clear hs hL h hm hF
 go_enter Tryz.func104, Tryz.ntmps104
 go_wp2_with fail
 refine hal.mono ?_
 rintro e w5 ⟨rfl, hb5⟩
 have hL5:=hE.out.1.stable (hb5.block 0 (hE.out.1.lt (by decide)))
 have hF5:=hE.out.2.1.below hb5
 have hM5:=hE.out.2.2.below hb5
 have b0 : w5.cell? ⟨fb, 0, none⟩ = some (.i c.workers):=Field.bkeep hb5 a0
 have b1 : w5.cell? ⟨fb, 1, none⟩ = some (.i c.slots):=Field.bkeep hb5 a1
 have b2 : w5.cell? ⟨fb, 2, none⟩ = some (.i c.streams):=Field.bkeep hb5 a2
 have b3 : w5.cell? ⟨fb, 3, none⟩ = some (.i c.waiters):=Field.bkeep hb5 a3
 have b4 : w5.cell? ⟨fb, 4, none⟩ = some (.i c.uses):=Field.bkeep hb5 a4
 have b5 : w5.cell? ⟨fb, 5, none⟩ = some (.i f.kind):=Field.bkeep hb5 a5
 have b6 : w5.cell? ⟨fb, 6, none⟩ = some (.i f.own):=Field.bkeep hb5 a6
 have b7 : w5.cell? ⟨fb, 7, none⟩ = some (.i f.at'):=Field.bkeep hb5 a7
 have b8 : w5.cell? ⟨fb, 8, none⟩ = some (.i f.word):=Field.bkeep hb5 a8
 have b9 : w5.cell? ⟨fb, 9, none⟩ = some (.bool false):=Field.bkeep hb5 a9
 clear hal a0 a1 a2 a3 a4 a5 a6 a7 a8 a9
 have hsl:=fun W => slot_any W c f.at' hc.w ⟨by unfold ns at hat; omega, hc.s.2⟩
 have hsc : (3 + 2 * c.workers + (f.at' : Int)) = ((sc c f.at' : Nat) : Int):=by have:=hc.w; unfold sc; omega
 simp only [hsc, Cf.val, Cf.cells] at hsl
 have hld:=fun W (h : CAt W mb wb ws tc) => load_any h ht (sc c f.at') x hx
 have H5:=Lib.hid (show Laid w5 ∧ FdAt w5 fb c f ∧ CAt w5 mb wb ws tc from ⟨hL5, hF5, hM5⟩)
 have hM5d:=hM5.below (Below.refl _ _).drew
 have HB5:=Lib.hid hb5
 clear hL5 hF5 hM5 hb5
 go_wp2_with fail
 go_region_held3 (fun w' => w'.cell? ⟨fb, 0, none⟩ = some (.i c.workers) ∧ w'.cell? ⟨fb, 1, none⟩ = some (.i c.slots) ∧ w'.cell? ⟨fb, 2, none⟩ = some (.i c.streams) ∧ w'.cell? ⟨fb, 3, none⟩ = some (.i c.waiters) ∧ w'.cell? ⟨fb, 4, none⟩ = some (.i c.uses) ∧ w'.cell? ⟨fb, 5, none⟩ = some (.i f.kind) ∧ w'.cell? ⟨fb, 6, none⟩ = some (.i f.own) ∧ w'.cell? ⟨fb, 7, none⟩ = some (.i f.at') ∧ w'.cell? ⟨fb, 8, none⟩ = some (.i f.word) ∧ w'.cell? ⟨fb, 9, none⟩ = some (.bool false)) (first | go_keep | exact ⟨by assumption, by assumption, by assumption, by assumption, by assumption, by assumption, by assumption, by assumption, by assumption, by assumption⟩)
  ((first
  | (go_at_call 94; refine (hsl _).mono ?_; rintro e w6 ⟨rfl, hb6⟩; have hM6:=hM5d.below hb6; have d0:=Field.bkeep hb6 b0; have d1:=Field.bkeep hb6 b1; have d2:=Field.bkeep hb6 b2; have d3:=Field.bkeep hb6 b3; have d4:=Field.bkeep hb6 b4; have d5:=Field.bkeep hb6 b5; have d6:=Field.bkeep hb6 b6; have d7:=Field.bkeep hb6 b7; have d8:=Field.bkeep hb6 b8; have d9:=Field.bkeep hb6 b9)
  | (go_at_call 19; refine (hld _ hM6).mono ?_; rintro e w7 ⟨rfl, hM7, hC7⟩; have k0:=(hC7.cell (p:=⟨fb, 0, none⟩) (World.block_lt_of_cell? _ _ d0) (fun e => e.elim ha.m ha.w)).trans d0; have k1:=(hC7.cell (p:=⟨fb, 1, none⟩) (World.block_lt_of_cell? _ _ d1) (fun e => e.elim ha.m ha.w)).trans d1; have k2:=(hC7.cell (p:=⟨fb, 2, none⟩) (World.block_lt_of_cell? _ _ d2) (fun e => e.elim ha.m ha.w)).trans d2; have k3:=(hC7.cell (p:=⟨fb, 3, none⟩) (World.block_lt_of_cell? _ _ d3) (fun e => e.elim ha.m ha.w)).trans d3; have k4:=(hC7.cell (p:=⟨fb, 4, none⟩) (World.block_lt_of_cell? _ _ d4) (fun e => e.elim ha.m ha.w)).trans d4; have k5:=(hC7.cell (p:=⟨fb, 5, none⟩) (World.block_lt_of_cell? _ _ d5) (fun e => e.elim ha.m ha.w)).trans d5; have k6:=(hC7.cell (p:=⟨fb, 6, none⟩) (World.block_lt_of_cell? _ _ d6) (fun e => e.elim ha.m ha.w)).trans d6; have k7:=(hC7.cell (p:=⟨fb, 7, none⟩) (World.block_lt_of_cell? _ _ d7) (fun e => e.elim ha.m ha.w)).trans d7; have k8:=(hC7.cell (p:=⟨fb, 8, none⟩) (World.block_lt_of_cell? _ _ d8) (fun e => e.elim ha.m ha.w)).trans d8; have k9:=(hC7.cell (p:=⟨fb, 9, none⟩) (World.block_lt_of_cell? _ _ d9) (fun e => e.elim ha.m ha.w)).trans d9)))
 have hL6 : Laid w6:=(show Laid w5.drew from H5.out.1).stable (hb6.block 0 ((show Laid w5.drew from H5.out.1).lt (by decide)))
 have hL7 : Laid w7:=hL6.stable (hC7.block 0 (hL6.lt (by decide)) (fun e => e.elim ha.m0 ha.w0))
 have hF7 : FdAt w7 fb c f:=((show FdAt w5.drew fb c f from H5.out.2.1).below hb6).chg hC7 (fun e => e.elim ha.m ha.w)
 have g5 : Chg (fun k => k = fb ∨ cfp mb wb k) W w5:=Chg.ofBelow HB5.out
 have g7 : Chg (fun k => k = fb ∨ cfp mb wb k) W w7:=(g5.drew.trans (Chg.ofBelow hb6) (fun _ _ h => h)).trans hC7 (fun _ _ h => .inr h)
 have hdc:=decode_val w7 x hL7
 have hns : f.at' + 1 ≤ 101:=by have:=hc.s; unfold ns at hat; omega
 have e7 : wrap64 ((f.at' : Int) + 1) = (f.at' : Int) + 1:=by unfold wrap64; omega
 have hdd : decide (c.slots ≤ ((f.at' + 1 : Nat) : Int)) = decide (ns c ≤ f.at' + 1):=by
  have:=hc.s
  unfold ns
  apply decide_eq_decide.mpr
  omega
 have hmiss : ∀ w9, FdAt w9 fb c f → CAt w9 mb wb ws (tc + 1) → Chg (fun k => k = fb ∨ cfp mb wb k) W w9 → FdAt (w9.setCell ⟨fb, 7, none⟩ (.i ((f.at' : Int) + 1))) fb c { f with at':=f.at' + 1 } ∧
   (∀ w10, Below (w9.setCell ⟨fb, 7, none⟩ (.i ((f.at' : Int) + 1))).heap.size (w9.setCell ⟨fb, 7, none⟩ (.i ((f.at' : Int) + 1))) w10 → fitsW x f.kind f.own = false → FPost W fb mb wb c ws tc (f.step c ws) (.returned (.bool (decide (c.slots ≤ ((f.at' + 1 : Nat) : Int))))) w10):=by
  intro w9 h1 h2 h3
  have q : FdAt (w9.setCell ⟨fb, 7, none⟩ (.i ((f.at' : Int) + 1))) fb c { f with at':=f.at' + 1 }:=h1.setAt (f.at' + 1)
  refine ⟨q, fun w10 hb hfw => ?_⟩
  have q2:=(h2.stable (heap_setCell_other w9 ⟨fb, 7, none⟩ mb (.i ((f.at' : Int) + 1)) (fun e => ha.m e.symm)) (heap_setCell_other w9 ⟨fb, 7, none⟩ wb (.i ((f.at' : Int) + 1)) (fun e => ha.w e.symm)))
  have q3 : Chg (fun k => k = fb ∨ cfp mb wb k) W (w9.setCell ⟨fb, 7, none⟩ (.i ((f.at' : Int) + 1))):=h3.setCell _ _ (fun _ => .inl rfl)
  rw [HS.out, hfw]
  exact ⟨by rw [hdd]; rfl, q.below hb, q2.below hb, q3.trans (Chg.ofBelow hb) (fun _ _ h => h)⟩
 have HM:=Lib.hid hmiss
 have H7:=Lib.hid (show FdAt w7 fb c f ∧ CAt w7 mb wb ws (tc + 1) ∧ Chg (fun k => k = fb ∨ cfp mb wb k) W w7 from ⟨hF7, hM7, g7⟩)
 have z7:=hF7.frozen 7
 have z8:=hF7.frozen 8
 have z9:=hF7.frozen 9
 clear hmiss hL6 hL7 hF7 hM7 hM6 hM5d hC7 hb6 g5 g7 hsl hld hsc d0 d1 d2 d3 d4 d5 d6 d7 d8 d9 b0 b1 b2 b3 b4 b5 b6 b7 b8 b9
 cases hdx : dec x with
 | none =>
  have hfw : fitsW x f.kind f.own = false:=by unfold fitsW; rw [hdx]
  rw [hdx] at hdc
  simp only [Option.getD_none, Option.isSome_none, S.val, S.cells, Life.S.zero] at hdc
  go_wp2_with fail
  refine hdc.mono ?_
  rintro e w8 ⟨rfl, hb8⟩
  have hbA : Below w7.heap.size w7 (w8.alloc (.cells Zs 30)).drew:=(hb8.trans ((Below.refl _ _).alloc (Nat.le_refl _) _ |>.mono hb8.size)).drew
  have n7:=Field.bkeep hbA k7
  have y7:=Field.bkeepz hbA k7 z7
  have hm9:=HM.out _ (H7.out.1.below hbA) (H7.out.2.1.below hbA) (H7.out.2.2.trans (Chg.ofBelow hbA) (fun _ _ h => h))
  have HM9:=Lib.hid hm9
  clear hdc hm9 hbA hb8
  go_wp2_with fail
  go_region
  go_wp2_with fail
  refine (fall_any HM9.out.1).mono ?_
  rintro e w10 ⟨rfl, hb10⟩
  have hP:=HM9.out.2 w10 hb10 hfw
  have HP:=Lib.hid hP
  clear hP hb10
  go_wp2_with fail
  go_ret
  exact HP.out
 | some s =>
  have hfw : fitsW x f.kind f.own = Find.fits s f.kind f.own:=by unfold fitsW; rw [hdx]
  have hfit:=fun W => Find.fits_any W s f.kind f.own hk
  rw [hdx] at hdc
  obtain ⟨st, ow, sm, br, ma, us, ge, ep, ve⟩:=s
  generalize Find.fits ⟨st, ow, sm, br, ma, us, ge, ep, ve⟩ f.kind f.own = fv at *
  simp only [Option.getD_some, Option.isSome_some, S.val, S.cells] at hdc hfit
  go_wp2_with fail
  refine hdc.mono ?_
  rintro e w8 ⟨rfl, hb8⟩
  have hbA : Below w7.heap.size w7 (w8.alloc (.cells (Ab st ow sm br ma us ge ep ve) 30)):=hb8.trans ((Below.refl _ _).alloc (Nat.le_refl _) _ |>.mono hb8.size)
  have n0:=Field.bkeep hbA k0
  have n1:=Field.bkeep hbA k1
  have n2:=Field.bkeep hbA k2
  have n3:=Field.bkeep hbA k3
  have n4:=Field.bkeep hbA k4
  have n5:=Field.bkeep hbA k5
  have n6:=Field.bkeep hbA k6
  have n7:=Field.bkeep hbA k7
  have n8:=Field.bkeep hbA k8
  have n9:=Field.bkeep hbA k9
  have p0 : (w8.alloc (.cells (Ab st ow sm br ma us ge ep ve) 30)).cell? ⟨w8.heap.size, 0, none⟩ = some (.i st):=by simp
  have p1 : (w8.alloc (.cells (Ab st ow sm br ma us ge ep ve) 30)).cell? ⟨w8.heap.size, 1, none⟩ = some (.i ow):=by simp
  have p2 : (w8.alloc (.cells (Ab st ow sm br ma us ge ep ve) 30)).cell? ⟨w8.heap.size, 2, none⟩ = some (.i sm):=by simp
  have p3 : (w8.alloc (.cells (Ab st ow sm br ma us ge ep ve) 30)).cell? ⟨w8.heap.size, 3, none⟩ = some (.bool br):=by simp
  have p4 : (w8.alloc (.cells (Ab st ow sm br ma us ge ep ve) 30)).cell? ⟨w8.heap.size, 4, none⟩ = some (.bool ma):=by simp
  have p5 : (w8.alloc (.cells (Ab st ow sm br ma us ge ep ve) 30)).cell? ⟨w8.heap.size, 5, none⟩ = some (.i us):=by simp
  have p6 : (w8.alloc (.cells (Ab st ow sm br ma us ge ep ve) 30)).cell? ⟨w8.heap.size, 6, none⟩ = some (.i ge):=by simp
  have p7 : (w8.alloc (.cells (Ab st ow sm br ma us ge ep ve) 30)).cell? ⟨w8.heap.size, 7, none⟩ = some (.i ep):=by simp
  have p8 : (w8.alloc (.cells (Ab st ow sm br ma us ge ep ve) 30)).cell? ⟨w8.heap.size, 8, none⟩ = some (.i ve):=by simp
  have y7:=Field.bkeepz hbA k7 z7
  have y8:=Field.bkeepz hbA k8 z8
  have y9:=Field.bkeepz hbA k9 z9
  have HA:=Lib.hid hbA
  clear hdc hbA hb8
  go_wp2_with fail
  generalize w8.alloc (.cells (Ab st ow sm br ma us ge ep ve) 30) = wz at *
  generalize w8.heap.size = sb at *
  go_region_held3 (fun w' => w'.cell? ⟨fb, 0, none⟩ = some (.i c.workers) ∧ w'.cell? ⟨fb, 1, none⟩ = some (.i c.slots) ∧ w'.cell? ⟨fb, 2, none⟩ = some (.i c.streams) ∧ w'.cell? ⟨fb, 3, none⟩ = some (.i c.waiters) ∧ w'.cell? ⟨fb, 4, none⟩ = some (.i c.uses) ∧ w'.cell? ⟨fb, 5, none⟩ = some (.i f.kind) ∧ w'.cell? ⟨fb, 6, none⟩ = some (.i f.own) ∧ w'.cell? ⟨fb, 7, none⟩ = some (.i f.at') ∧ w'.cell? ⟨fb, 8, none⟩ = some (.i f.word) ∧ w'.cell? ⟨fb, 9, none⟩ = some (.bool false) ∧ w'.cell? ⟨sb, 0, none⟩ = some (.i st) ∧ w'.cell? ⟨sb, 1, none⟩ = some (.i ow) ∧ w'.cell? ⟨sb, 2, none⟩ = some (.i sm) ∧ w'.cell? ⟨sb, 3, none⟩ = some (.bool br) ∧ w'.cell? ⟨sb, 4, none⟩ = some (.bool ma) ∧ w'.cell? ⟨sb, 5, none⟩ = some (.i us) ∧ w'.cell? ⟨sb, 6, none⟩ = some (.i ge) ∧ w'.cell? ⟨sb, 7, none⟩ = some (.i ep) ∧ w'.cell? ⟨sb, 8, none⟩ = some (.i ve)) (first | go_keep | exact ⟨by assumption, by assumption, by assumption, by assumption, by assumption, by assumption, by assumption, by assumption, by assumption, by assumption, by assumption, by assumption, by assumption, by assumption, by assumption, by assumption, by assumption, by assumption, by assumption⟩)
   ((first
   | (go_at_call 114; refine (hfit _).mono ?_; rintro e w9 ⟨rfl, hb9⟩; have r0:=Field.bkeep hb9 n0; have r1:=Field.bkeep hb9 n1; have r2:=Field.bkeep hb9 n2; have r3:=Field.bkeep hb9 n3; have r4:=Field.bkeep hb9 n4; have r5:=Field.bkeep hb9 n5; have r6:=Field.bkeep hb9 n6; have r7:=Field.bkeep hb9 n7; have r8:=Field.bkeep hb9 n8; have r9:=Field.bkeep hb9 n9; have s0:=Field.bkeep hb9 p0; have s1:=Field.bkeep hb9 p1; have s2:=Field.bkeep hb9 p2; have s3:=Field.bkeep hb9 p3; have s4:=Field.bkeep hb9 p4; have s5:=Field.bkeep hb9 p5; have s6:=Field.bkeep hb9 p6; have s7:=Field.bkeep hb9 p7; have s8:=Field.bkeep hb9 p8)))
  have v7:=Field.bkeepz hb9 n7 y7
  have v8:=Field.bkeepz hb9 n8 y8
  have v9:=Field.bkeepz hb9 n9 y9
  have hbB : Below w7.heap.size w7 w9:=HA.out.drew.trans (hb9.mono HA.out.size)
  have q1:=H7.out.1.below hbB
  have q2:=H7.out.2.1.below hbB
  have q3:=H7.out.2.2.trans (Chg.ofBelow hbB) (fun _ _ h => h)
  have hm9:=HM.out _ q1 q2 q3
  have HM9:=Lib.hid hm9
  have HQ:=Lib.hid (show FdAt w9 fb c f ∧ CAt w9 mb wb ws (tc + 1) ∧ Chg (fun k => k = fb ∨ cfp mb wb k) W w9 from ⟨q1, q2, q3⟩)
  clear hm9 hbB hb9 q1 q2 q3 hfit n0 n1 n2 n3 n4 n5 n6 n7 n8 n9 p0 p1 p2 p3 p4 p5 p6 p7 p8 s0 s1 s2 s3 s4 s5 s6 s7 s8 k0 k1 k2 k3 k4 k5 k6 k7 k8 k9 y7 y8 y9 z7 z8 z9
  cases fv
  ·go_wp2_with fail
   refine (fall_any HM9.out.1).mono ?_
   rintro e w10 ⟨rfl, hb10⟩
   have hP:=HM9.out.2 w10 hb10 hfw
   have HP:=Lib.hid hP
   clear hP hb10
   go_wp2_with fail
   go_ret
   exact HP.out
  ·go_wp2_with fail
   go_ret
   obtain ⟨q1, q2, q3⟩:=HQ.out
   have u1 : FdAt ((w9.setCell ⟨fb, 8, none⟩ (.i x)).setCell ⟨fb, 9, none⟩ (.bool true)) fb c { f with word:=x, found:=true }:=(q1.setWord x).setFound true
   have u2 : CAt ((w9.setCell ⟨fb, 8, none⟩ (.i x)).setCell ⟨fb, 9, none⟩ (.bool true)) mb wb ws (tc + 1):=(q2.stable (heap_setCell_other w9 ⟨fb, 8, none⟩ mb (.i x) (fun e => ha.m e.symm)) (heap_setCell_other w9 ⟨fb, 8, none⟩ wb (.i x) (fun e => ha.w e.symm))).stable (heap_setCell_other _ ⟨fb, 9, none⟩ mb (.bool true) (fun e => ha.m e.symm)) (heap_setCell_other _ ⟨fb, 9, none⟩ wb (.bool true) (fun e => ha.w e.symm))
   have u3 : Chg (fun k => k = fb ∨ cfp mb wb k) W (w9.setCell ⟨fb, 8, none⟩ (.i x)):=q3.setCell _ _ (fun _ => .inl rfl)
   rw [HS.out, hfw]
   exact ⟨rfl, u1, u2, u3.setCell _ _ (fun _ => .inl rfl)⟩
end Go.Proofs.YtefpoidnklflnaaGreatDoor.Cl
namespace Go.Proofs.YtefpoidnklflnaaGreatDoor.Tk
open Go.RowKit Hp Slot RowL Life
section
variable {t : Tk} {ws : List Int} {good : Bool}
theorem st_0 (hk : t.st = 0) : t.step ws good =
  (if rd ws 0 ≠ 0 then (t.finish 5, ws, 1) else (t.search 1 0 t.w, ws, 1)):=by
 unfold Tk.step
 rw [hk]
 try rfl
theorem st_1 (hk : t.st = 1) : t.step ws good =
  (let r:=t.seek ws; if r.1 then ({ r.2.2.1 with st:=2 }, ws, r.2.2.2) else if r.2.1 then (r.2.2.1.search 3 1 t.w, ws, r.2.2.2) else (r.2.2.1, ws, r.2.2.2)):=by
 unfold Tk.step
 rw [hk]
 try rfl
theorem st_2 (hk : t.st = 2) : t.step ws good =
  (let r:={ t with st:=1 }.seize 3 ws; if r.1 then ({ r.2.1 with st:=10 }, r.2.2) else r.2):=by
 unfold Tk.step
 rw [hk]
 try rfl
theorem st_3 (hk : t.st = 3) : t.step ws good =
  (let r:=t.seek ws; if r.1 then ({ r.2.2.1 with st:=4 }, ws, r.2.2.2) else if r.2.1 then (r.2.2.1.search 7 2 t.w, ws, r.2.2.2) else (r.2.2.1, ws, r.2.2.2)):=by
 unfold Tk.step
 rw [hk]
 try rfl
theorem st_4 (hk : t.st = 4) : t.step ws good =
  (let r:={ t with st:=3 }.seize 3 ws
  if r.1 then (match dec t.fd.word with
   | some s => if s.own ≠ t.w then ({ r.2.1 with passes:=false }.search 5 0 s.own, r.2.2) else ({ r.2.1 with st:=10 }, r.2.2)
   | none => ({ r.2.1 with st:=10 }, r.2.2)) else r.2):=by
 unfold Tk.step
 rw [hk]
 try rfl
theorem st_5 (hk : t.st = 5) : t.step ws good =
  (let r:=t.seek ws
  if r.1 && r.2.2.1.passes then ({ r.2.2.1 with passes:=false, look:=some r.2.2.1.fd.go }, ws, r.2.2.2)
  else if r.1 then ({ r.2.2.1 with passes:=true, st:=6 }, ws, r.2.2.2)
  else if r.2.1 then ({ r.2.2.1 with st:=10 }, ws, r.2.2.2) else (r.2.2.1, ws, r.2.2.2)):=by
 unfold Tk.step
 rw [hk]
 try rfl
theorem st_6 (hk : t.st = 6) : t.step ws good =
  (match nextW t.fd.word 9 t.w 0 with
  | some nw => ({ t with look:=some t.fd.go, st:=5 }, (cas ws (sc t.cf t.fd.at') t.fd.word nw).2, 1)
  | none => ({ t with look:=some t.fd.go, st:=5 }, ws, 0)):=by
 unfold Tk.step
 rw [hk]
 try rfl
theorem st_7 (hk : t.st = 7) : t.step ws good =
  (let r:=t.seek ws; if r.1 then ({ r.2.2.1 with st:=8 }, ws, r.2.2.2) else if r.2.1 then (r.2.2.1.finish 3, ws, r.2.2.2) else (r.2.2.1, ws, r.2.2.2)):=by
 unfold Tk.step
 rw [hk]
 try rfl
theorem st_8 (hk : t.st = 8) : t.step ws good =
  (let r:={ t with st:=7 }.seize 0 ws; if r.1 then ({ r.2.1 with st:=9 }, r.2.2) else r.2):=by
 unfold Tk.step
 rw [hk]
 try rfl
theorem st_9 (hk : t.st = 9) : t.step ws good =
  (let r:=t.swap t.i t.word (if good then 1 else 2) ws; if r.1 && good then ({ r.2.1 with st:=10 }, r.2.2) else (r.2.1.finish 6, r.2.2)):=by
 unfold Tk.step
 rw [hk]
 try rfl
theorem st_10 (hk : t.st = 10) : t.step ws good =
  (if rd ws 0 = 0 then (t.finish 0, ws, 1) else ({ t with st:=11 }, ws, 1)):=by
 unfold Tk.step
 rw [hk]
 try rfl
theorem st_11 (hk : t.st = 11) : t.step ws good =
  (let word:=rd ws (sc t.cf t.i)
  match dec word with
  | some s => if s.state = 3 ∧ s.own = t.w ∧ s.gen = t.gen then ({ t with rt:=some (Rt.new (sc t.cf t.i) word), st:=12 }, ws, 1) else (t.finish 5, ws, 1)
  | none => (t.finish 5, ws, 1)):=by
 unfold Tk.step
 rw [hk]
 try rfl
theorem st_12 (hk : t.st = 12) : t.step ws good =
  (let r:=t.ret.step ws
  if r.1 then (if r.2.1.swapped then ({ t with rt:=some r.2.1 }.finish 5, r.2.2) else ({ t with rt:=some r.2.1, st:=11 }, r.2.2)) else ({ t with rt:=some r.2.1 }, r.2.2)):=by
 unfold Tk.step
 rw [hk]
 try rfl
theorem st_13 (hk : t.st = 13) : t.step ws good =
  (({ t with word:=rd ws (sc t.cf t.i), st:=14 }, ws, 1)):=by
 unfold Tk.step
 rw [hk]
 try rfl
theorem st_14 (hk : t.st = 14) : t.step ws good =
  (match (dec t.word).bind fun s => nextX s 16 t.w 0 with
  | none => (t.finish 5, ws, 0)
  | some s => let r:=t.swap t.i t.word 16 ws
   if r.1 then (if s.state = 3 then ({ r.2.1 with st:=10 }, r.2.2) else ({ r.2.1 with st:=9 }, r.2.2)) else ({ r.2.1 with st:=13 }, r.2.2)):=by
 unfold Tk.step
 rw [hk]
 try rfl
theorem st_15 (hk : t.st = 15) : t.step ws good =
  ((t, ws, 0)):=by
 unfold Tk.step
 rw [hk]
 try rfl
end
structure SmallC (c : Conf.Cf) : Prop where
 w : 0 ≤ c.workers ∧ c.workers ≤ 8
 s : 0 ≤ c.slots ∧ c.slots ≤ 100
def FdOk (c : Conf.Cf) (f : Tk.Fd) : Prop:=(f.kind = 0 ∨ f.kind = 1 ∨ f.kind = 2) ∧ f.at' ≤ ns c ∧ (f.found = true → f.at' < ns c)
def RtOk (n : Nat) (r : Rt) : Prop:=r.cell < n ∧ r.st ≤ 4
theorem FdOk.new {c : Conf.Cf} {kind own : Int} (hk : kind = 0 ∨ kind = 1 ∨ kind = 2) : FdOk c (Fd.new kind own):=⟨hk, Nat.zero_le _, fun h => nomatch h⟩
theorem FdOk.step {c : Conf.Cf} {f : Tk.Fd} (h : FdOk c f) (ws : List Int) : FdOk c (f.step c ws).2.1:=by
 unfold Fd.step
 split
 ·exact h
 ·rename_i hn
  simp only [not_or] at hn
  split
  ·exact ⟨h.1, h.2.1, fun _ => by simp only; omega⟩
  ·exact ⟨h.1, by simp only; omega, fun hf => absurd hf hn.1⟩
theorem FdOk.again {c : Conf.Cf} {f : Tk.Fd} (h : FdOk c f) : FdOk c f.again:=⟨h.1, h.2.1, fun h => nomatch h⟩
theorem FdOk.go {c : Conf.Cf} {f : Tk.Fd} (h : FdOk c f) : FdOk c f.go:=by
 unfold Fd.go
 split
 ·rename_i hf
  have:=h.2.2 hf
  exact ⟨h.1, by simp only; omega, fun h => nomatch h⟩
 ·exact h
theorem RtOk.step {n : Nat} {r : Rt} (h : RtOk n r) (ws : List Int) : RtOk n (r.step ws).2.1 ∧ (r.step ws).2.2.1.length = ws.length:=by
 unfold Rt.step
 split
 ·split
  ·split
   ·exact ⟨⟨h.1, by simp⟩, by simp⟩
   ·exact ⟨⟨h.1, by simp [Rt.end']⟩, rfl⟩
  ·exact ⟨⟨h.1, by simp [Rt.end']⟩, rfl⟩
 ·exact ⟨⟨h.1, by simp⟩, rfl⟩
 ·split
  ·refine ⟨⟨h.1, by simp⟩, ?_⟩
   simp only [cas]
   split <;> simp
  ·exact ⟨⟨h.1, by simp⟩, rfl⟩
 ·exact ⟨⟨h.1, by simp [Rt.end']⟩, by simp⟩
 ·exact ⟨⟨h.1, by simp [Rt.end']⟩, rfl⟩
structure TkOk (t : Tk) (ws : List Int) : Prop where
 c : SmallC t.cf
 ns : 1 ≤ ns t.cf
 w : 0 ≤ t.w ∧ t.w ≤ 15
 len : ws.length = 3 + 2 * t.cf.workers.toNat + Tk.ns t.cf
 i : t.i < Tk.ns t.cf
 look : ∀ f, t.look = some f → FdOk t.cf f
 has : 1 ≤ t.st → t.st ≤ 8 → ∃ f, t.look = some f ∧ (t.st = 2 ∨ t.st = 4 ∨ t.st = 6 ∨ t.st = 8 → f.found = true)
 rt : ∀ r, t.rt = some r → RtOk ws.length r
 hasr : t.st = 12 → ∃ r, t.rt = some r
 st : t.st ≤ 15
theorem TkOk.to {t t' : Tk} {ws ws' : List Int} (h : TkOk t ws) (hcf : t'.cf = t.cf) (hw : t'.w = t.w) (hlen : ws'.length = ws.length) (hi : t'.i < Tk.ns t.cf) (hlook : ∀ f, t'.look = some f → FdOk t.cf f)
  (hhas : 1 ≤ t'.st → t'.st ≤ 8 → ∃ f, t'.look = some f ∧ (t'.st = 2 ∨ t'.st = 4 ∨ t'.st = 6 ∨ t'.st = 8 → f.found = true)) (hrt : ∀ r, t'.rt = some r → RtOk ws.length r) (hasr : t'.st = 12 → ∃ r, t'.rt = some r) (hst : t'.st ≤ 15) : TkOk t' ws' :=
 ⟨by rw [hcf]; exact h.c, by rw [hcf]; exact h.ns, by rw [hw]; exact h.w, by rw [hcf, hlen]; exact h.len, by rw [hcf]; exact hi, by rw [hcf]; exact hlook, hhas, by rw [hlen]; exact hrt, hasr, hst⟩
theorem TkOk.looks {t : Tk} {ws ws' : List Int} (h : TkOk t ws) (hlen : ws'.length = ws.length) {f : Tk.Fd} (hf : FdOk t.cf f) (k : Nat) (p : Bool) (hk : k ≤ 15) (h12 : k ≠ 12) (hfound : k = 2 ∨ k = 4 ∨ k = 6 ∨ k = 8 → f.found = true) : TkOk { t with look:=some f, st:=k, passes:=p } ws' :=
 h.to rfl rfl hlen h.i (fun f' e => by cases e; exact hf) (fun _ _ => ⟨f, rfl, hfound⟩) h.rt (fun e => absurd e h12) hk
theorem TkOk.states {t : Tk} {ws ws' : List Int} (h : TkOk t ws) (hlen : ws'.length = ws.length) (k : Nat) (e : Int) (hk : k ≤ 15) (h12 : 9 ≤ k) (hr : k = 12 → ∃ r, t.rt = some r) : TkOk { t with st:=k, e:=e } ws' :=
 h.to rfl rfl hlen h.i h.look (fun _ h8 => absurd h8 (by simp only; omega)) h.rt hr hk
theorem swap_len (t : Tk) (i : Nat) (word : Int) (d : Nat) (ws : List Int) : (t.swap i word d ws).2.2.1.length = ws.length:=by
 unfold Tk.swap
 split
 ·split <;> simp
 ·rfl
theorem swap_take (t : Tk) (i : Nat) (word : Int) (d : Nat) (ws : List Int) : (∃ x g, (t.swap i word d ws).2.1 = { t with i:=i, word:=x, gen:=g } ∧ (t.swap i word d ws).1 = true) ∨ ((t.swap i word d ws).2.1 = t ∧ (t.swap i word d ws).1 = false):=by
 unfold Tk.swap
 split
 ·split
  ·exact .inl ⟨_, _, rfl, rfl⟩
  ·exact .inr ⟨rfl, rfl⟩
 ·exact .inr ⟨rfl, rfl⟩
theorem TkOk.swapped {t : Tk} {ws : List Int} (h : TkOk t ws) {i : Nat} (hi : i < Tk.ns t.cf) (word : Int) (d : Nat) : TkOk (t.swap i word d ws).2.1 (t.swap i word d ws).2.2.1:=by
 rcases swap_take t i word d ws with ⟨x, g, e, -⟩ | ⟨e, -⟩
 ·rw [e]
  exact h.to rfl rfl (swap_len _ _ _ _ _) hi h.look h.has h.rt h.hasr h.st
 ·rw [e]
  exact h.to rfl rfl (swap_len _ _ _ _ _) h.i h.look h.has h.rt h.hasr h.st
theorem seek_eq {t : Tk} {f : Tk.Fd} (hl : t.look = some f) (ws : List Int) : t.seek ws = ((f.step t.cf ws).2.1.found, (f.step t.cf ws).1 && !(f.step t.cf ws).2.1.found, { t with look:=some (f.step t.cf ws).2.1 }, (f.step t.cf ws).2.2):=by
 unfold Tk.seek Tk.fd
 rw [hl]
 rfl
theorem seize_take {t : Tk} {f : Tk.Fd} (hl : t.look = some f) (d : Nat) (ws : List Int) : (((t.seize d ws).1 = true ∧ ∃ x g, (t.seize d ws).2.1 = { t with i:=f.at', word:=x, gen:=g }) ∨ ((t.seize d ws).1 = false ∧ (t.seize d ws).2.1 = { t with look:=some f.again })) ∧ (t.seize d ws).2.2.1.length = ws.length:=by
 have hfd : t.fd = f:=by unfold Tk.fd; rw [hl]; rfl
 have hlen:=swap_len t f.at' f.word d ws
 rcases swap_take t f.at' f.word d ws with ⟨x, g, e, e1⟩ | ⟨e, e1⟩
 ·have : t.seize d ws = t.swap f.at' f.word d ws:=by unfold Tk.seize; rw [hfd]; simp only [e1, if_true]
  rw [this]
  exact ⟨.inl ⟨e1, x, g, e⟩, hlen⟩
 ·have : t.seize d ws = (false, { (t.swap f.at' f.word d ws).2.1 with look:=some (t.swap f.at' f.word d ws).2.1.fd.again }, (t.swap f.at' f.word d ws).2.2):=by unfold Tk.seize; rw [hfd]; simp only [e1, Bool.false_eq_true, if_false]
  rw [this, e, hfd]
  exact ⟨.inr ⟨rfl, rfl⟩, hlen⟩
theorem TkOk.seized {t : Tk} {ws : List Int} (h : TkOk t ws) {f : Tk.Fd} (hl : t.look = some f) (hf : f.found = true) (k d : Nat) (hk : k = 1 ∨ k = 3 ∨ k = 7) : let r:={ t with st:=k }.seize d ws
  (r.1 = true → ∀ st, (∀ p, 9 ≤ st → st ≤ 11 → TkOk { r.2.1 with st:=st, passes:=p } r.2.2.1) ∧ ∀ own p, TkOk { r.2.1 with st:=5, passes:=p, look:=some (Fd.new 0 own) } r.2.2.1) ∧ (r.1 = false → TkOk r.2.1 r.2.2.1):=by
 have hF:=h.look f hl
 obtain ⟨h1, hlen⟩:=seize_take (t:={ t with st:=k }) hl d ws
 dsimp only
 rcases h1 with ⟨h1, x, g, e⟩ | ⟨h1, e⟩
 ·rw [e, h1]
  refine ⟨fun _ st => ⟨fun p h9 h11 => ?_, fun own p => ?_⟩, fun e => nomatch e⟩
  ·exact h.to rfl rfl hlen (hF.2.2 hf) h.look (fun _ h8 => absurd h8 (by simp only; omega)) h.rt (fun e => absurd e (by simp only; omega)) (by simp only; omega)
  ·exact h.to rfl rfl hlen (hF.2.2 hf) (fun f' e => by cases e; exact FdOk.new (.inl rfl)) (fun _ _ => ⟨_, rfl, by simp⟩) h.rt (by simp) (by simp)
 ·rw [e, h1]
  refine ⟨fun e => (nomatch e), fun _ => ?_⟩
  exact h.to rfl rfl hlen h.i (fun f' e => by cases e; exact hF.again) (fun _ _ => ⟨_, rfl, fun e => absurd e (by simp only; omega)⟩) h.rt (fun e => absurd e (by simp only; omega)) (by simp only; omega)
theorem TkOk.step {t : Tk} {ws : List Int} (h : TkOk t ws) (good : Bool) : TkOk (t.step ws good).1 (t.step ws good).2.1:=by
 have hst:=h.st
 have hlk : 1 ≤ t.st → t.st ≤ 8 → ∃ f, t.look = some f ∧ FdOk t.cf f ∧ FdOk t.cf (f.step t.cf ws).2.1 ∧ t.fd = f ∧ (t.st = 2 ∨ t.st = 4 ∨ t.st = 6 ∨ t.st = 8 → f.found = true):=by
  intro h1 h2
  obtain ⟨f, h3, h4⟩:=h.has h1 h2
  exact ⟨f, h3, h.look f h3, (h.look f h3).step ws, by unfold Tk.fd; rw [h3]; rfl, h4⟩
 have hcases : t.st = 0 ∨ t.st = 1 ∨ t.st = 2 ∨ t.st = 3 ∨ t.st = 4 ∨ t.st = 5 ∨ t.st = 6 ∨ t.st = 7 ∨ t.st = 8 ∨ t.st = 9 ∨ t.st = 10 ∨ t.st = 11 ∨ t.st = 12 ∨ t.st = 13 ∨ t.st = 14 ∨ t.st = 15:=by omega
 rcases hcases with hk | hk | hk | hk | hk | hk | hk | hk | hk | hk | hk | hk | hk | hk | hk | hk
 ·rw [st_0 hk]
  try dsimp only
  split
  ·exact h.states rfl 15 5 (by omega) (by omega) (by omega)
  ·exact h.looks rfl (FdOk.new (.inl rfl)) 1 t.passes (by omega) (by omega) (by omega)
 ·rw [st_1 hk]
  try dsimp only
  obtain ⟨f, hl, hF, hS, -, -⟩:=hlk (by omega) (by omega)
  rw [seek_eq hl]
  generalize f.step t.cf ws = q at *
  dsimp only
  split
  ·rename_i hq
   exact h.looks rfl hS 2 t.passes (by omega) (by omega) (fun _ => hq)
  ·split
   ·exact h.looks rfl (FdOk.new (.inr (.inl rfl))) 3 t.passes (by omega) (by omega) (by omega)
   ·exact h.looks rfl hS t.st t.passes (by omega) (by omega) (by omega)
 ·rw [st_2 hk]
  try dsimp only
  obtain ⟨f, hl, hF, hS, hfd, hfo⟩:=hlk (by omega) (by omega)
  have hz:=h.seized hl (hfo (by omega)) 1 3 (by omega)
  dsimp only at hz
  split
  ·rename_i hr
   exact ((hz.1 hr 10).1 _ (by omega) (by omega))
  ·rename_i hr
   exact hz.2 (by simpa using hr)
 ·rw [st_3 hk]
  try dsimp only
  obtain ⟨f, hl, hF, hS, -, -⟩:=hlk (by omega) (by omega)
  rw [seek_eq hl]
  generalize f.step t.cf ws = q at *
  dsimp only
  split
  ·rename_i hq
   exact h.looks rfl hS 4 t.passes (by omega) (by omega) (fun _ => hq)
  ·split
   ·exact h.looks rfl (FdOk.new (.inr (.inr rfl))) 7 t.passes (by omega) (by omega) (by omega)
   ·exact h.looks rfl hS t.st t.passes (by omega) (by omega) (by omega)
 ·rw [st_4 hk]
  try dsimp only
  obtain ⟨f, hl, hF, hS, hfd, hfo⟩:=hlk (by omega) (by omega)
  have hz:=h.seized hl (hfo (by omega)) 3 3 (by omega)
  dsimp only at hz
  split
  ·rename_i hr
   split
   ·split
    ·exact (hz.1 hr 10).2 _ _
    ·exact (hz.1 hr 10).1 _ (by omega) (by omega)
   ·exact (hz.1 hr 10).1 _ (by omega) (by omega)
  ·rename_i hr
   exact hz.2 (by simpa using hr)
 ·rw [st_5 hk]
  try dsimp only
  obtain ⟨f, hl, hF, hS, -, -⟩:=hlk (by omega) (by omega)
  rw [seek_eq hl]
  have hgo:=hS.go
  generalize f.step t.cf ws = q at *
  dsimp only
  split
  ·exact h.looks rfl hgo t.st false (by omega) (by omega) (by omega)
  ·split
   ·rename_i hq
    exact h.looks rfl hS 6 true (by omega) (by omega) (fun _ => hq)
   ·split
    ·exact h.to rfl rfl rfl h.i (fun f' e => by cases e; exact hS) (fun _ h8 => absurd h8 (by simp only; omega)) h.rt (fun e => absurd e (by simp only; omega)) (by simp only; omega)
    ·exact h.looks rfl hS t.st t.passes (by omega) (by omega) (by omega)
 ·rw [st_6 hk]
  try dsimp only
  obtain ⟨f, hl, hF, hS, hfd, hfo⟩:=hlk (by omega) (by omega)
  rw [hfd]
  have hcl : ∀ i a b, (cas ws i a b).2.length = ws.length:=by intro i a b; unfold cas; split <;> simp
  split
  ·exact h.looks (hcl _ _ _) hF.go 5 t.passes (by omega) (by omega) (by omega)
  ·exact h.looks rfl hF.go 5 t.passes (by omega) (by omega) (by omega)
 ·rw [st_7 hk]
  try dsimp only
  obtain ⟨f, hl, hF, hS, -, -⟩:=hlk (by omega) (by omega)
  rw [seek_eq hl]
  generalize f.step t.cf ws = q at *
  dsimp only
  split
  ·rename_i hq
   exact h.looks rfl hS 8 t.passes (by omega) (by omega) (fun _ => hq)
  ·split
   ·exact h.to rfl rfl rfl h.i (fun f' e => by cases e; exact hS) (fun _ h8 => absurd h8 (by simp [Tk.finish])) h.rt (fun e => absurd e (by simp [Tk.finish])) (by simp [Tk.finish])
   ·exact h.looks rfl hS t.st t.passes (by omega) (by omega) (by omega)
 ·rw [st_8 hk]
  try dsimp only
  obtain ⟨f, hl, hF, hS, hfd, hfo⟩:=hlk (by omega) (by omega)
  have hz:=h.seized hl (hfo (by omega)) 7 0 (by omega)
  dsimp only at hz
  split
  ·rename_i hr
   exact ((hz.1 hr 9).1 _ (by omega) (by omega))
  ·rename_i hr
   exact hz.2 (by simpa using hr)
 ·rw [st_9 hk]
  try dsimp only
  generalize (if good = true then 1 else 2) = d
  have hz:=h.swapped h.i t.word d
  split
  ·exact hz.states rfl 10 _ (by omega) (by omega) (by omega)
  ·exact hz.states rfl 15 6 (by omega) (by omega) (by omega)
 ·rw [st_10 hk]
  try dsimp only
  split
  ·exact h.states rfl 15 0 (by omega) (by omega) (by omega)
  ·exact h.states rfl 11 t.e (by omega) (by omega) (by omega)
 ·rw [st_11 hk]
  try dsimp only
  split
  ·split
   ·refine h.to rfl rfl rfl h.i h.look (fun _ h8 => absurd h8 (by simp)) (fun r e => ?_) (fun _ => ⟨_, rfl⟩) (by simp)
    cases e
    refine ⟨?_, by simp [Rt.new]⟩
    have h1:=h.len
    have h2:=h.i
    simp only [Rt.new, sc]
    omega
   ·exact h.states rfl 15 5 (by omega) (by omega) (by omega)
  ·exact h.states rfl 15 5 (by omega) (by omega) (by omega)
 ·rw [st_12 hk]
  try dsimp only
  obtain ⟨r, hr⟩:=h.hasr hk
  have hret : t.ret = r:=by unfold Tk.ret; rw [hr]; rfl
  rw [hret]
  obtain ⟨h1, h2⟩:=(h.rt r hr).step ws
  generalize r.step ws = q at *
  split
  ·split
   ·exact h.to rfl rfl h2 h.i h.look (fun _ h8 => absurd h8 (by simp [Tk.finish])) (fun r' e => by cases e; exact h1) (fun e => absurd e (by simp [Tk.finish])) (by simp [Tk.finish])
   ·exact h.to rfl rfl h2 h.i h.look (fun _ h8 => absurd h8 (by simp)) (fun r' e => by cases e; exact h1) (fun e => absurd e (by simp)) (by simp)
  ·exact h.to rfl rfl h2 h.i h.look (fun _ h8 => absurd h8 (by simp only; omega)) (fun r' e => by cases e; exact h1) (fun _ => ⟨_, rfl⟩) (by simp only; omega)
 ·rw [st_13 hk]
  try dsimp only
  exact h.to rfl rfl rfl h.i h.look (fun _ h8 => absurd h8 (by simp)) h.rt (fun e => absurd e (by simp)) (by simp)
 ·rw [st_14 hk]
  try dsimp only
  have hz:=h.swapped h.i t.word 16
  split
  ·exact h.states rfl 15 5 (by omega) (by omega) (by omega)
  ·split
   ·split
    ·exact hz.states rfl 10 _ (by omega) (by omega) (by omega)
    ·exact hz.states rfl 9 _ (by omega) (by omega) (by omega)
   ·exact hz.states rfl 13 _ (by omega) (by omega) (by omega)
 ·rw [st_15 hk]
  try dsimp only
  exact h
theorem swap_cf (t : Tk) (i : Nat) (word : Int) (d : Nat) (ws : List Int) : (t.swap i word d ws).2.1.cf = t.cf ∧ (t.swap i word d ws).2.1.w = t.w:=by
 rcases swap_take t i word d ws with ⟨x, g, e, -⟩ | ⟨e, -⟩ <;> rw [e] <;> exact ⟨rfl, rfl⟩
theorem seize_cf (t : Tk) (d : Nat) (ws : List Int) : (t.seize d ws).2.1.cf = t.cf ∧ (t.seize d ws).2.1.w = t.w:=by
 unfold Tk.seize
 dsimp only
 split <;> exact swap_cf t _ _ _ _
theorem step_cf (t : Tk) (ws : List Int) (good : Bool) (hst : t.st ≤ 15) : (t.step ws good).1.cf = t.cf ∧ (t.step ws good).1.w = t.w:=by
 have hcases : t.st = 0 ∨ t.st = 1 ∨ t.st = 2 ∨ t.st = 3 ∨ t.st = 4 ∨ t.st = 5 ∨ t.st = 6 ∨ t.st = 7 ∨ t.st = 8 ∨ t.st = 9 ∨ t.st = 10 ∨ t.st = 11 ∨ t.st = 12 ∨ t.st = 13 ∨ t.st = 14 ∨ t.st = 15:=by omega
 rcases hcases with hk | hk | hk | hk | hk | hk | hk | hk | hk | hk | hk | hk | hk | hk | hk | hk
 ·rw [st_0 hk]
  try dsimp only
  (repeat' split) <;> first | exact ⟨rfl, rfl⟩ | exact swap_cf t _ _ _ _ | exact seize_cf { t with st:=1 } 3 ws | exact seize_cf { t with st:=3 } 3 ws | exact seize_cf { t with st:=7 } 0 ws
 ·rw [st_1 hk]
  try dsimp only
  (repeat' split) <;> first | exact ⟨rfl, rfl⟩ | exact swap_cf t _ _ _ _ | exact seize_cf { t with st:=1 } 3 ws | exact seize_cf { t with st:=3 } 3 ws | exact seize_cf { t with st:=7 } 0 ws
 ·rw [st_2 hk]
  try dsimp only
  (repeat' split) <;> first | exact ⟨rfl, rfl⟩ | exact swap_cf t _ _ _ _ | exact seize_cf { t with st:=1 } 3 ws | exact seize_cf { t with st:=3 } 3 ws | exact seize_cf { t with st:=7 } 0 ws
 ·rw [st_3 hk]
  try dsimp only
  (repeat' split) <;> first | exact ⟨rfl, rfl⟩ | exact swap_cf t _ _ _ _ | exact seize_cf { t with st:=1 } 3 ws | exact seize_cf { t with st:=3 } 3 ws | exact seize_cf { t with st:=7 } 0 ws
 ·rw [st_4 hk]
  try dsimp only
  (repeat' split) <;> first | exact ⟨rfl, rfl⟩ | exact swap_cf t _ _ _ _ | exact seize_cf { t with st:=1 } 3 ws | exact seize_cf { t with st:=3 } 3 ws | exact seize_cf { t with st:=7 } 0 ws
 ·rw [st_5 hk]
  try dsimp only
  (repeat' split) <;> first | exact ⟨rfl, rfl⟩ | exact swap_cf t _ _ _ _ | exact seize_cf { t with st:=1 } 3 ws | exact seize_cf { t with st:=3 } 3 ws | exact seize_cf { t with st:=7 } 0 ws
 ·rw [st_6 hk]
  try dsimp only
  (repeat' split) <;> first | exact ⟨rfl, rfl⟩ | exact swap_cf t _ _ _ _ | exact seize_cf { t with st:=1 } 3 ws | exact seize_cf { t with st:=3 } 3 ws | exact seize_cf { t with st:=7 } 0 ws
 ·rw [st_7 hk]
  try dsimp only
  (repeat' split) <;> first | exact ⟨rfl, rfl⟩ | exact swap_cf t _ _ _ _ | exact seize_cf { t with st:=1 } 3 ws | exact seize_cf { t with st:=3 } 3 ws | exact seize_cf { t with st:=7 } 0 ws
 ·rw [st_8 hk]
  try dsimp only
  (repeat' split) <;> first | exact ⟨rfl, rfl⟩ | exact swap_cf t _ _ _ _ | exact seize_cf { t with st:=1 } 3 ws | exact seize_cf { t with st:=3 } 3 ws | exact seize_cf { t with st:=7 } 0 ws
 ·rw [st_9 hk]
  try dsimp only
  generalize (if good = true then 1 else 2) = d
  (repeat' split) <;> first | exact ⟨rfl, rfl⟩ | exact swap_cf t _ _ _ _ | exact seize_cf { t with st:=1 } 3 ws | exact seize_cf { t with st:=3 } 3 ws | exact seize_cf { t with st:=7 } 0 ws
 ·rw [st_10 hk]
  try dsimp only
  (repeat' split) <;> first | exact ⟨rfl, rfl⟩ | exact swap_cf t _ _ _ _ | exact seize_cf { t with st:=1 } 3 ws | exact seize_cf { t with st:=3 } 3 ws | exact seize_cf { t with st:=7 } 0 ws
 ·rw [st_11 hk]
  try dsimp only
  (repeat' split) <;> first | exact ⟨rfl, rfl⟩ | exact swap_cf t _ _ _ _ | exact seize_cf { t with st:=1 } 3 ws | exact seize_cf { t with st:=3 } 3 ws | exact seize_cf { t with st:=7 } 0 ws
 ·rw [st_12 hk]
  try dsimp only
  (repeat' split) <;> first | exact ⟨rfl, rfl⟩ | exact swap_cf t _ _ _ _ | exact seize_cf { t with st:=1 } 3 ws | exact seize_cf { t with st:=3 } 3 ws | exact seize_cf { t with st:=7 } 0 ws
 ·rw [st_13 hk]
  try dsimp only
  (repeat' split) <;> first | exact ⟨rfl, rfl⟩ | exact swap_cf t _ _ _ _ | exact seize_cf { t with st:=1 } 3 ws | exact seize_cf { t with st:=3 } 3 ws | exact seize_cf { t with st:=7 } 0 ws
 ·rw [st_14 hk]
  try dsimp only
  (repeat' split) <;> first | exact ⟨rfl, rfl⟩ | exact swap_cf t _ _ _ _ | exact seize_cf { t with st:=1 } 3 ws | exact seize_cf { t with st:=3 } 3 ws | exact seize_cf { t with st:=7 } 0 ws
 ·rw [st_15 hk]
  try dsimp only
  (repeat' split) <;> first | exact ⟨rfl, rfl⟩ | exact swap_cf t _ _ _ _ | exact seize_cf { t with st:=1 } 3 ws | exact seize_cf { t with st:=3 } 3 ws | exact seize_cf { t with st:=7 } 0 ws
theorem step_len {t : Tk} {ws : List Int} (h : TkOk t ws) (good : Bool) : (t.step ws good).2.1.length = ws.length:=by
 have h1:=(h.step good).len
 have h2:=h.len
 have h3:=(step_cf t ws good h.st).1
 rw [h3] at h1
 omega
end Go.Proofs.YtefpoidnklflnaaGreatDoor.Tk
namespace Go.Proofs.YtefpoidnklflnaaGreatDoor.Cl
open Go.RowKit Hp RowL Conf Tk
theorem right_small {c : Cf} (h : c.right = true) : (1 ≤ c.workers ∧ c.workers ≤ 8) ∧ (1 ≤ c.slots ∧ c.slots ≤ 16):=by
 simp only [Cf.right, btw, Bool.and_eq_true, decide_eq_true_eq] at h
 exact ⟨h.1, h.2.1⟩
theorem mem_any (w : World) (c : Cf) (hr : c.right = true) : Calls Tryz.prog 36 #[c.val] w fun e w' => ∃ mb wb, e = .returned (.tuple #[.pointer (some ⟨mb, 0, none⟩), .i 0]) ∧
  CAt w' mb wb (List.replicate (sc c (ns c)) 0) 0 ∧ w.heap.size ≤ mb ∧ w.heap.size ≤ wb ∧ Below w.heap.size w w':=by
 obtain ⟨⟨a0, a1⟩, b0, b1⟩:=right_small hr
 have hri:=fun W => Conf.right_any W c
 rw [hr] at hri
 have hce:=fun W => cells_any W c ⟨by omega, a1⟩ ⟨by omega, by omega⟩
 have hn : 3 + 2 * c.workers + c.slots = ((sc c (ns c) : Nat) : Int):=by unfold sc ns; omega
 simp only [hn] at hce
 have hne:=fun W => new_any W (sc c (ns c)) (by unfold sc ns; omega)
 generalize sc c (ns c) = n at *
 clear hn hr a0 a1 b0 b1
 obtain ⟨cw, cs, cst, cwa, cu⟩:=c
 simp only [Cf.val, Cf.cells] at hri hce
 have hA : Below w.heap.size w (w.alloc (.cells (Aa cw cs cst cwa cu) 25)):=(Below.refl _ _).alloc (Nat.le_refl _) _
 have c0 : (w.alloc (.cells (Aa cw cs cst cwa cu) 25)).cell? ⟨w.heap.size, 0, none⟩ = some (.i cw):=by simp
 have c1 : (w.alloc (.cells (Aa cw cs cst cwa cu) 25)).cell? ⟨w.heap.size, 1, none⟩ = some (.i cs):=by simp
 have c2 : (w.alloc (.cells (Aa cw cs cst cwa cu) 25)).cell? ⟨w.heap.size, 2, none⟩ = some (.i cst):=by simp
 have c3 : (w.alloc (.cells (Aa cw cs cst cwa cu) 25)).cell? ⟨w.heap.size, 3, none⟩ = some (.i cwa):=by simp
 have c4 : (w.alloc (.cells (Aa cw cs cst cwa cu) 25)).cell? ⟨w.heap.size, 4, none⟩ = some (.i cu):=by simp
 go_enter Tryz.func36, Tryz.ntmps36
 simp only [Cf.val, Cf.cells]
 go_wp2_with fail
 refine (hri _).mono ?_
 rintro e w5 ⟨rfl, hb5⟩
 have d0:=Field.bkeep hb5 c0
 have d1:=Field.bkeep hb5 c1
 have d2:=Field.bkeep hb5 c2
 have d3:=Field.bkeep hb5 c3
 have d4:=Field.bkeep hb5 c4
 have hB5:=hA.trans (hb5.mono hA.size)
 clear hri hb5 c0 c1 c2 c3 c4
 go_wp2_with fail
 refine (hce _).mono ?_
 rintro e w6 ⟨rfl, hb6⟩
 have hB6:=hB5.trans (hb6.mono hB5.size)
 clear hce hb6 d0 d1 d2 d3 d4
 go_wp2_with fail
 refine (hne _).mono ?_
 rintro e w7 ⟨rfl, hm, hb7⟩
 have hB7:=hB6.trans (hb7.mono hB6.size)
 have hs:=hB6.size
 have HM:=Lib.hid hm
 clear hne hb7 hm
 go_wp2_with fail
 go_ret2
 exact ⟨w6.heap.size + 1, w6.heap.size, rfl, HM.out, by omega, by omega, hB7⟩
end Go.Proofs.YtefpoidnklflnaaGreatDoor.Cl
namespace Go.Proofs.YtefpoidnklflnaaGreatDoor.Cl
open Go.RowKit Hp Slot RowL Life
def IntsB (W : World) (g o : Nat) (l : List Int) : Prop:=∀ k x, l[k]? = some x → W.cell? ⟨g, o + k, none⟩ = some (.i x)
theorem IntsB.lt {W : World} {g o : Nat} {l : List Int} (h : IntsB W g o l) (h0 : 0 < l.length) : g < W.heap.size :=
 World.block_lt_of_cell? _ _ (h 0 _ (List.getElem?_eq_getElem h0))
theorem IntsB.below {W W' : World} {g o : Nat} {l : List Int} (h : IntsB W g o l) (hb : Below W.heap.size W W') : IntsB W' g o l:=fun k x hx => Field.bkeep hb (h k x hx)
def confOf (a b c d e : Int) : Conf.Cf:=⟨1 + a % 4, 1 + b % 5, c % 4, d % 4, 1 + e % 4⟩
theorem confOf_right (a b c d e : Int) : (confOf a b c d e).right = true:=by
 simp only [Conf.Cf.right, Conf.btw, confOf, Bool.and_eq_true]
 exact ⟨decide_eq_true (by omega), decide_eq_true (by omega), decide_eq_true (by omega), decide_eq_true (by omega), decide_eq_true (by omega)⟩
theorem conf_any (W : World) (a b c d e : Int) (ha : 0 ≤ a ∧ a < 256) (hb : 0 ≤ b ∧ b < 256) (hc : 0 ≤ c ∧ c < 256) (hd : 0 ≤ d ∧ d < 256) (he : 0 ≤ e ∧ e < 256) :
  Calls Tryz.prog 41 #[.agg #[.int .u8 a, .int .u8 b, .int .u8 c, .int .u8 d, .int .u8 e]] W fun en W' => en = .returned (confOf a b c d e).val ∧ Below W.heap.size W W':=by
 have hB : Below W.heap.size W ((W.alloc (.cells #[.int .u8 a, .int .u8 b, .int .u8 c, .int .u8 d, .int .u8 e] 46)).alloc (.cells (Aa 0 0 0 0 0) 25)):=((Below.refl _ _).alloc (Nat.le_refl _) _).alloc (by simp) _
 obtain ⟨a0, a1⟩:=ha
 obtain ⟨b0, b1⟩:=hb
 obtain ⟨c0, c1⟩:=hc
 obtain ⟨d0, d1⟩:=hd
 obtain ⟨e0, e1⟩:=he
 go_enter Tryz.func41, Tryz.ntmps41
 go_wp2
 have row : RowAt ((W.alloc (.cells #[.int .u8 a, .int .u8 b, .int .u8 c, .int .u8 d, .int .u8 e] 46)).alloc (.cells (confOf a b c d e).cells 25)) (W.heap.size + 1) (confOf a b c d e).cells 25:=by
  have:=RowAt.new (W.alloc (.cells #[.int .u8 a, .int .u8 b, .int .u8 c, .int .u8 d, .int .u8 e] 46)) (confOf a b c d e).cells 25
  simpa using this
 refine bodyPost_ret (results_row rfl _ _ (W.heap.size + 1) _ _ _ rfl row Tryz.underlying25 rfl (by kernel_rfl)) rfl ⟨rfl, ?_⟩
 exact ((Below.refl _ _).alloc (Nat.le_refl _) _).alloc (by simp) _
theorem ref_pin_any (w : World) (c : Conf.Cf) (i : Nat) (hi : (i : Int) < c.workers ∧ c.workers ≤ 8) : Calls Tryz.prog 42 #[c.val, .i i] w fun e w' => e = .returned (.i (3 + i : Nat)) ∧ Below w.heap.size w w':=by
 obtain ⟨cw, cs, cst, cwa, cu⟩:=c
 dsimp only at hi
 go_enter Tryz.func42, Tryz.ntmps42
 simp only [Conf.Cf.val, Conf.Cf.cells]
 have n0 : ¬ ((i : Int) < 0):=by omega
 have n1 : ¬ (cw ≤ (i : Int)):=by omega
 have n2 : decide (cw ≤ (i : Int)) = false:=by simpa using n1
 have e2 : wrap64 (3 + (i : Int)) = 3 + i:=by unfold wrap64; omega
 go_wp2_with fail
 go_ret
 exact ⟨by (try simp) <;> omega, (Below.refl _ _).alloc (Nat.le_refl _) _⟩
end Go.Proofs.YtefpoidnklflnaaGreatDoor.Cl
namespace Go.Proofs.YtefpoidnklflnaaGreatDoor.Slot
open Go.RowKit Hp RowL Life
def docW (s : S) : Int:=if s.right = true then s.word else 0
theorem ref_encode_any (w : World) (s : S) : Calls Tryz.prog 35 #[s.val] w fun e w' => e = .returned (.tuple #[.i (docW s), .bool s.right]) ∧ Below w.heap.size w w':=by
 have hri:=fun w => ref_slot_right_any w s
 have hA : Below w.heap.size w (w.alloc (.cells s.cells 30)):=(Below.refl _ _).alloc (Nat.le_refl _) _
 have hr : RowAt (w.alloc (.cells s.cells 30)) w.heap.size s.cells 30:=heap_alloc_new w _
 cases hR : s.right
 ·rw [hR] at hri
  have hd : docW s = 0:=by unfold docW; rw [hR]; rfl
  rw [hd]
  clear hd hR
  obtain ⟨st, ow, sm, br, ma, us, ge, ep, ve⟩:=s
  simp only [S.val, S.cells] at hri hr hA
  go_enter Tryz.func35, Tryz.ntmps35
  simp only [S.val, S.cells]
  go_wp2_with fail
  refine (hri _).mono ?_
  rintro e w5 ⟨rfl, hb5⟩
  have hB:=hA.trans (hb5.mono hA.size)
  clear hri hb5
  go_wp2_with fail
  go_ret2
  exact ⟨rfl, hB⟩
 ·rw [hR] at hri
  have hd : docW s = s.word:=by unfold docW; rw [hR]; rfl
  have hb:=word_bd hR
  have hi:=(right_iff s).1 hR
  rw [hd]
  clear hd hR
  obtain ⟨st, ow, sm, br, ma, us, ge, ep, ve⟩:=s
  simp only [S.val, S.cells] at hri hr hA
  simp only at hi
  obtain ⟨⟨r_st, r_ow, r_sm, r_us, r_ge, r_ep, r_ve⟩, -⟩:=hi
  unfold S.word at hb
  dsimp only at hb
  have w1 : IntKind.i64.wrap (8 * ow) = 8 * ow:=by rw [IntKind.wrap_i64]; omega
  have w2 : IntKind.i64.wrap (st + 8 * ow) = st + 8 * ow:=by rw [IntKind.wrap_i64]; omega
  have w3 : IntKind.i64.wrap (128 * sm) = 128 * sm:=by rw [IntKind.wrap_i64]; omega
  have w4 : IntKind.i64.wrap (st + 8 * ow + 128 * sm) = st + 8 * ow + 128 * sm:=by rw [IntKind.wrap_i64]; omega
  have w5 : IntKind.i64.wrap (131072 * us) = 131072 * us:=by rw [IntKind.wrap_i64]; omega
  have w6 : IntKind.i64.wrap (st + 8 * ow + 128 * sm + 131072 * us) = st + 8 * ow + 128 * sm + 131072 * us:=by rw [IntKind.wrap_i64]; omega
  have w7 : IntKind.i64.wrap (8388608 * ge) = 8388608 * ge:=by rw [IntKind.wrap_i64]; omega
  have w8 : IntKind.i64.wrap (st + 8 * ow + 128 * sm + 131072 * us + 8388608 * ge) = st + 8 * ow + 128 * sm + 131072 * us + 8388608 * ge:=by rw [IntKind.wrap_i64]; omega
  have w9 : IntKind.i64.wrap (34359738368 * ep) = 34359738368 * ep:=by rw [IntKind.wrap_i64]; omega
  have wa : IntKind.i64.wrap (st + 8 * ow + 128 * sm + 131072 * us + 8388608 * ge + 34359738368 * ep) = st + 8 * ow + 128 * sm + 131072 * us + 8388608 * ge + 34359738368 * ep:=by rw [IntKind.wrap_i64]; omega
  have wb : IntKind.i64.wrap (140737488355328 * ve) = 140737488355328 * ve:=by rw [IntKind.wrap_i64]; omega
  have wc : IntKind.i64.wrap (st + 8 * ow + 128 * sm + 131072 * us + 8388608 * ge + 34359738368 * ep + 140737488355328 * ve) = st + 8 * ow + 128 * sm + 131072 * us + 8388608 * ge + 34359738368 * ep + 140737488355328 * ve:=by rw [IntKind.wrap_i64]; omega
  have hW : S.word ⟨st, ow, sm, br, ma, us, ge, ep, ve⟩ = (st + 8 * ow + 128 * sm + 131072 * us + 8388608 * ge + 34359738368 * ep + 140737488355328 * ve) + 32768 * bit br + 65536 * bit ma:=by unfold S.word; dsimp only; omega
  rw [hW]
  clear hW
  have hX : 0 ≤ st + 8 * ow + 128 * sm + 131072 * us + 8388608 * ge + 34359738368 * ep + 140737488355328 * ve ∧ st + 8 * ow + 128 * sm + 131072 * us + 8388608 * ge + 34359738368 * ep + 140737488355328 * ve < 4611686018427387904:=by omega
  have e0:=@rfl _ (st + 8 * ow + 128 * sm + 131072 * us + 8388608 * ge + 34359738368 * ep + 140737488355328 * ve)
  generalize hY : st + 8 * ow + 128 * sm + 131072 * us + 8388608 * ge + 34359738368 * ep + 140737488355328 * ve = X at e0 wc hX ⊢
  have HY:=Lib.hid hY
  clear hb e0 hY
  have x1 : IntKind.i64.wrap (X + 32768) = X + 32768:=by rw [IntKind.wrap_i64]; omega
  have x2 : IntKind.i64.wrap (X + 65536) = X + 65536:=by rw [IntKind.wrap_i64]; omega
  have x3 : IntKind.i64.wrap (X + 32768 + 65536) = X + 32768 + 65536:=by rw [IntKind.wrap_i64]; omega
  go_enter Tryz.func35, Tryz.ntmps35
  simp only [S.val, S.cells]
  go_wp2_with fail
  refine (hri _).mono ?_
  rintro e w5 ⟨rfl, hb5⟩
  have hr5:=RowAt.below hr hb5
  have c0 : w5.cell? ⟨w.heap.size, 0, none⟩ = some (.i st):=RowAt.cell hr5 0
  have c1 : w5.cell? ⟨w.heap.size, 1, none⟩ = some (.i ow):=RowAt.cell hr5 1
  have c2 : w5.cell? ⟨w.heap.size, 2, none⟩ = some (.i sm):=RowAt.cell hr5 2
  have c3 : w5.cell? ⟨w.heap.size, 3, none⟩ = some (.bool br):=RowAt.cell hr5 3
  have c4 : w5.cell? ⟨w.heap.size, 4, none⟩ = some (.bool ma):=RowAt.cell hr5 4
  have c5 : w5.cell? ⟨w.heap.size, 5, none⟩ = some (.i us):=RowAt.cell hr5 5
  have c6 : w5.cell? ⟨w.heap.size, 6, none⟩ = some (.i ge):=RowAt.cell hr5 6
  have c7 : w5.cell? ⟨w.heap.size, 7, none⟩ = some (.i ep):=RowAt.cell hr5 7
  have c8 : w5.cell? ⟨w.heap.size, 8, none⟩ = some (.i ve):=RowAt.cell hr5 8
  have hB:=hA.trans (hb5.mono hA.size)
  clear hri hb5 hr hr5 r_st r_ow r_sm r_us r_ge r_ep r_ve hA
  cases br <;> cases ma <;> (go_wp2_with fail; go_ret2; refine ⟨?_, hB⟩; have hy:=HY.out; simp [bit]; simp only [wrap64] at *; omega)
theorem ref_word_any (w : World) (s : S) : Calls Tryz.prog 11 #[s.val] w fun e w' => e = .returned (.i (docW s)) ∧ Below w.heap.size w w':=by
 have hen:=fun w => ref_encode_any w s
 have hA : Below w.heap.size w (w.alloc (.cells s.cells 30)):=(Below.refl _ _).alloc (Nat.le_refl _) _
 generalize docW s = d at *
 generalize s.right = r at *
 obtain ⟨st, ow, sm, br, ma, us, ge, ep, ve⟩:=s
 simp only [S.val, S.cells] at hen hA
 go_enter Tryz.func11, Tryz.ntmps11
 simp only [S.val, S.cells]
 go_wp2_with fail
 refine (hen _).mono ?_
 rintro e w5 ⟨rfl, hb5⟩
 have hB:=hA.trans (hb5.mono hA.size)
 clear hen hb5
 go_wp2_with fail
 go_ret
 exact ⟨rfl, hB⟩
theorem qd (n d : Int) (h0 : 0 ≤ n) (h1 : n < 9223372036854775808) (hd : 0 < d) : wrap64 (n.tdiv d) = n / d:=by
 rw [Int.tdiv_eq_ediv_of_nonneg h0]
 have a : 0 ≤ n / d:=Int.ediv_nonneg h0 (by omega)
 have b : n / d ≤ n:=Int.ediv_le_self d h0
 unfold wrap64
 omega
theorem qm (n d m : Int) (h0 : 0 ≤ n) (h1 : n < 9223372036854775808) (hd : 0 < d) : (wrap64 (n.tdiv d)).tmod m = n / d % m:=by
 rw [qd n d h0 h1 hd, Int.tmod_eq_emod_of_nonneg (Int.ediv_nonneg h0 (by omega))]
theorem ref_decode_any (w : World) (n : Int) (h1 : n < 9223372036854775808) : Calls Tryz.prog 18 #[.i n] w fun e w' => e = .returned (.tuple #[((dec n).getD S.zero).val, .bool (dec n).isSome]) ∧ Below w.heap.size w w':=by
 have hA : Below w.heap.size w (w.alloc (.cells zero9 30)):=(Below.refl _ _).alloc (Nat.le_refl _) _
 have hz : RowAt (w.alloc (.cells zero9 30)) w.heap.size zero9 30:=heap_alloc_new w _
 by_cases h0 : 0 ≤ n
 rotate_left
 ·have hd : dec n = none:=by rw [dec_doc, if_neg (fun h => h0 h.1)]
  rw [hd]
  have hlt : n < 0:=by omega
  clear hd h0 h1
  go_enter Tryz.func18, Tryz.ntmps18
  go_upto_region 2 with (fail)
  refine wp_region_lit ?_
  refine gl (.agg Zs) ?_
  refine gSt hz Zs 30 (.tmp 2) (.tmp 8) ?_
  go_wp2_with fail
  refine bR2 w.heap.size (hz.set Zs) Tryz.underlying30 ?_
  exact ⟨rfl, bSetRow hA (Nat.le_refl _) _⟩
 have hri:=fun w => ref_slot_right_any w (cutD n)
 have hd : dec n = if (cutD n).right = true then some (cutD n) else none:=by
  rw [dec_doc]
  by_cases e : (cutD n).right = true
  ·rw [if_pos ⟨h0, e⟩, if_pos e]
  ·rw [if_neg (fun h => e h.2), if_neg e]
 rw [hd]
 have hlt : ¬ n < 0:=by omega
 clear hd
 have f_own : (wrap64 (n.tdiv 8)).tmod 16 = n / 8 % 16:=qm n 8 16 h0 h1 (by omega)
 have f_streams : (wrap64 (n.tdiv 128)).tmod 256 = n / 128 % 256:=qm n 128 256 h0 h1 (by omega)
 have f_b3 : (wrap64 (n.tdiv 32768)).tmod 2 = n / 32768 % 2:=qm n 32768 2 h0 h1 (by omega)
 have f_b4 : (wrap64 (n.tdiv 65536)).tmod 2 = n / 65536 % 2:=qm n 65536 2 h0 h1 (by omega)
 have f_uses : (wrap64 (n.tdiv 131072)).tmod 64 = n / 131072 % 64:=qm n 131072 64 h0 h1 (by omega)
 have f_gen : (wrap64 (n.tdiv 8388608)).tmod 4096 = n / 8388608 % 4096:=qm n 8388608 4096 h0 h1 (by omega)
 have f_epoch : (wrap64 (n.tdiv 34359738368)).tmod 4096 = n / 34359738368 % 4096:=qm n 34359738368 4096 h0 h1 (by omega)
 have f_v : wrap64 (n.tdiv 140737488355328) = n / 140737488355328:=qd n _ h0 h1 (by omega)
 have hcs : (cutD n).cells = [.i (n % 8), .i (n / 8 % 16), .i (n / 128 % 256), .bool (n / 32768 % 2 == 1), .bool (n / 65536 % 2 == 1), .i (n / 131072 % 64), .i (n / 8388608 % 4096), .i (n / 34359738368 % 4096), .i (n / 140737488355328)].toArray:=rfl
 generalize (cutD n).right = r at *
 generalize cutD n = c at *
 have HC:=Lib.hid hcs
 clear hcs
 go_enter Tryz.func18, Tryz.ntmps18
 go_wp2_with fail
 rw [← HC.out]
 have hb2 : Below w.heap.size w ((w.alloc (.cells zero9 30)).alloc (.cells c.cells 30)):=hA.alloc hA.size _
 have hz2 : RowAt ((w.alloc (.cells zero9 30)).alloc (.cells c.cells 30)) w.heap.size zero9 30:=RowAt.below hz ((Below.refl _ _).alloc (Nat.le_refl _) _)
 have hs2 : RowAt ((w.alloc (.cells zero9 30)).alloc (.cells c.cells 30)) (w.heap.size + 1) c.cells 30:=by
  have h:=heap_alloc_new (w.alloc (.cells zero9 30)) (.cells c.cells 30)
  simpa [RowAt] using h
 generalize ((w.alloc (.cells zero9 30)).alloc (.cells c.cells 30)) = wa at *
 refine (hri _).mono ?_
 rintro e w5 ⟨rfl, hb5⟩
 have hB:=hb2.trans (hb5.mono hb2.size)
 have hz5:=RowAt.below hz2 hb5
 have hs5:=RowAt.below hs2 hb5
 clear hri hb5 hz2 hs2 hb2 hz hA f_own f_streams f_b3 f_b4 f_uses f_gen f_epoch f_v h0 h1
 cases r
 ·go_upto_region 6 with (fail)
  refine wp_region_lit ?_
  refine gl (.agg Zs) ?_
  refine gSt hz5 Zs 30 (.tmp 2) (.tmp 41) ?_
  go_wp2_with fail
  refine bR2 w.heap.size (hz5.set Zs) Tryz.underlying30 ?_
  exact ⟨rfl, bSetRow hB (Nat.le_refl _) _⟩
 ·go_upto_region 7 with (fail)
  refine wp_region_lit ?_
  refine grow hs5 30 (.tmp 4) Tryz.underlying30 ?_
  try simp only [Act.put, sA, sZ, sS]
  refine gSt hz5 c.cells 30 (.tmp 2) (.tmp 42) ?_
  go_wp2_with fail
  refine bR2 w.heap.size (hz5.set c.cells) Tryz.underlying30 ?_
  exact ⟨rfl, bSetRow hB (Nat.le_refl _) _⟩
end Go.Proofs.YtefpoidnklflnaaGreatDoor.Slot
namespace Go.Proofs.YtefpoidnklflnaaGreatDoor.Tk
open Go.RowKit Hp Slot RowL Life
def leasedV (s : S) (w : Int) : S:={ leased s w with version:=(s.version + 1) % 32768 }
def moveV (s : S) (w : Int) : S:={ «to» s w 2 with version:=(s.version + 1) % 32768 }
def dialV (s : S) (w : Int) : S:={ «to» s w 1 with version:=(s.version + 1) % 32768 }
section
variable {c : Conf.Cf} {pre : List Int} {ss : List S} {t : Tk} {kd ow wd w : Int} {k j : Nat} {good : Bool}
theorem done1 : DoneX 1:=.inl (by simp [Mod.Done])
theorem done2 : DoneX 2:=.inl (by simp [Mod.Done])
theorem swap_own (h : Pool c pre ss) (hc : t.cf = c) {s s' : S} (hs : ss[j]? = some s) {d : Nat} (hn : nextX s d t.w 0 = some s') :
  t.swap j s.word d (cells pre ss) = (true, { t with i:=j, word:=s'.word, gen:=s'.gen }, cells pre (ss.set j s'), 1):=by
 unfold Tk.swap
 rw [dec_word (h.get hs)]
 simp only [Option.bind_some, hn, hc]
 rw [if_pos (rd_slot h hs), set_slot h]
def moveL (v w : Int) : Bool → List S → List S
 | _, [] => []
 | p, s :: l => if Find.fits s 0 v then (if p then s :: moveL v w false l else moveV s w :: moveL v w true l) else s :: moveL v w p l
end
end Go.Proofs.YtefpoidnklflnaaGreatDoor.Tk
