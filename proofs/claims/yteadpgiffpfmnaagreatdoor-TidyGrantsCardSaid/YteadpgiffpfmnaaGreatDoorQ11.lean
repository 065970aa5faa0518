/- Part 11 of the walks and plain laws that the last text joins. -/
import Derived.Test.YteadpgiffpfmnaaGreatDoorQ10
import Derived.Great.BuildSlice
import Derived.Deep.Slices
import Derived.Deep.Fields
import Derived.ChangeSame
import Derived.Lib.SmallJoins
set_option maxRecDepth 100000
set_option maxHeartbeats 16000000
set_option linter.unusedVariables false
set_option linter.unusedSimpArgs false
namespace Go.Proofs.YteadpgiffpfmnaaGreatDoor.Ty
open Go.RowKit Hp Slot RowL Life Tk
def pc (i : Nat) : Nat:=3 + i
def gc (c : Conf.Cf) (i : Nat) : Nat:=3 + c.workers.toNat + i
structure Ty where
 cf : Conf.Cf
 w : Nat
 st : Nat
 epoch : Int
 closed : Int
 queue : Int
 look : Option Tk.Fd
 i : Nat
 word : Int
 other : Int
 head : Int
 rt : Option Rt
 deriving DecidableEq
def Ty.new (c : Conf.Cf) (w : Nat) : Ty:=⟨c, w, 0, 0, 0, 0, none, 0, 0, 0, 0, none⟩
def Ty.search (t : Ty) (st : Nat) (kind own : Int) : Ty:={ t with look:=some (Tk.Fd.new kind own), st:=st }
def Ty.fd (t : Ty) : Tk.Fd:=t.look.getD (Tk.Fd.new 0 0)
def Ty.ret (t : Ty) : Rt:=t.rt.getD (Rt.new 0 0)
def Ty.seek (t : Ty) (ws : List Int) : Bool × Bool × Ty × Nat :=
 let r:=t.fd.step t.cf ws
 (r.2.1.found, r.1 && !r.2.1.found, if r.2.1.found then { t with look:=some r.2.1, i:=r.2.1.at', word:=r.2.1.word } else { t with look:=some r.2.1 }, r.2.2)
def Ty.swap (t : Ty) (d : Nat) (own : Int) (ws : List Int) : Bool × List Int × Nat :=
 match nextW t.word d own 0 with
 | some nw => ((cas ws (sc t.cf t.i) t.word nw).1, (cas ws (sc t.cf t.i) t.word nw).2, 1)
 | none => (false, ws, 0)
def Ty.is (t : Ty) : Int:=match dec t.word with | some s => s.state | none => -1
def nxt (w : Nat) (o : Int) : Int:=if o + 1 = w then o + 2 else o + 1
def Ty.another (t : Ty) : Bool × Ty:=(decide (nxt t.w t.other < t.cf.workers), { t with other:=nxt t.w t.other })
def blocks (word epoch : Int) : Bool:=decide (1 ≤ word ∧ word - 1 ≤ epoch)
def Ty.ep (t : Ty) : Int:=match dec t.word with | some s => s.epoch | none => 0
def Ty.again (t : Ty) : Ty:={ t with look:=some t.fd.again }
def Ty.go (t : Ty) : Ty:={ t with look:=some t.fd.go }
def Ty.step (t : Ty) (ws : List Int) : Ty × List Int × Nat :=
 match t.st with
 | 0 => ({ t with epoch:=rd ws 2, st:=1 }, ws, 1)
 | 1 => ({ t with st:=2 }, ws.set (pc t.w) (wrap64 (t.epoch + 1)), 1)
 | 2 => ({ t with closed:=rd ws 0 }.search 3 4 (rd ws 0), ws, 1)
 | 3 => let r:=t.seek ws
  if r.1 then ({ r.2.2.1 with rt:=some (Rt.new (sc t.cf r.2.2.1.i) r.2.2.1.word), st:=4 }, ws, r.2.2.2)
  else if r.2.1 then (r.2.2.1.search 5 5 t.w, ws, r.2.2.2) else (r.2.2.1, ws, r.2.2.2)
 | 4 => let r:=t.ret.step ws
  if r.1 then ({ t.again with rt:=some r.2.1, st:=3 }, r.2.2) else ({ t with rt:=some r.2.1 }, r.2.2)
 | 5 => let r:=t.seek ws
  if r.1 then (let a:=Ty.another { r.2.2.1 with other:=-1, st:=6 }; if a.1 then (a.2, ws, r.2.2.2) else ({ a.2 with st:=7 }, ws, r.2.2.2))
  else if r.2.1 then (if t.closed ≠ 0 then ({ r.2.2.1 with st:=15 }, ws, r.2.2.2) else ({ r.2.2.1 with st:=8 }, ws, r.2.2.2)) else (r.2.2.1, ws, r.2.2.2)
 | 6 => if blocks (rd ws (pc t.other.toNat)) t.ep then ({ t.go with st:=5 }, ws, 1)
  else (let a:=t.another; if a.1 then (a.2, ws, 1) else ({ a.2 with st:=7 }, ws, 1))
 | 7 => let r:=t.swap 12 t.w ws
  ({ t.go with st:=5 }, r.2)
 | 8 => if 0 < rd ws 1 then ({ t with queue:=rd ws 1, head:=rd ws 1 % 16 - 1 }.search 9 3 t.w, ws, 1) else ({ t with queue:=rd ws 1, st:=15 }, ws, 1)
 | 9 => let r:=t.seek ws
  if r.1 then ({ r.2.2.1 with st:=10 }, ws, r.2.2.2) else if r.2.1 then ({ r.2.2.1 with st:=15 }, ws, r.2.2.2) else (r.2.2.1, ws, r.2.2.2)
 | 10 => let r:=t.swap (if t.is = 2 then 5 else 7) t.head ws
  if r.1 then ({ t with st:=11 }, r.2) else ({ t.again with st:=9 }, r.2)
 | 11 => let r:=cas ws 1 t.queue (t.queue / 16)
  if r.1 then ({ t with st:=12 }, r.2, 1) else ({ t with st:=13 }, r.2, 1)
 | 12 => ({ t with st:=8 }, ws.set (gc t.cf t.head.toNat) (t.i + 1), 1)
 | 13 => let t' : Ty:={ t with word:=rd ws (sc t.cf t.i) }
  if t'.is = 4 ∨ t'.is = 5 then ({ t' with st:=14 }, ws, 1) else ({ t' with st:=8 }, ws, 1)
 | 14 => let r:=t.swap (if t.is = 4 then 6 else 8) t.w ws
  if r.1 then ({ t with st:=2 }, r.2) else ({ t with st:=13 }, r.2)
 | 15 => ({ t with st:=16 }, ws.set (pc t.w) 0, 1)
 | 16 => if rd ws 2 = t.epoch then ({ t with st:=17 }, ws, 1) else ({ t with st:=0 }, ws, 1)
 | _ => (t, ws, 0)
section
variable {t : Ty} {ws : List Int}
theorem st_0 (hk : t.st = 0) : t.step ws =
  (({ t with epoch:=rd ws 2, st:=1 }, ws, 1)):=by
 unfold Ty.step
 rw [hk]
 try rfl
theorem st_1 (hk : t.st = 1) : t.step ws =
  (({ t with st:=2 }, ws.set (pc t.w) (wrap64 (t.epoch + 1)), 1)):=by
 unfold Ty.step
 rw [hk]
 try rfl
theorem st_2 (hk : t.st = 2) : t.step ws =
  (({ t with closed:=rd ws 0 }.search 3 4 (rd ws 0), ws, 1)):=by
 unfold Ty.step
 rw [hk]
 try rfl
theorem st_3 (hk : t.st = 3) : t.step ws =
  (let r:=t.seek ws
  if r.1 then ({ r.2.2.1 with rt:=some (Rt.new (sc t.cf r.2.2.1.i) r.2.2.1.word), st:=4 }, ws, r.2.2.2)
  else if r.2.1 then (r.2.2.1.search 5 5 t.w, ws, r.2.2.2) else (r.2.2.1, ws, r.2.2.2)):=by
 unfold Ty.step
 rw [hk]
 try rfl
theorem st_4 (hk : t.st = 4) : t.step ws =
  (let r:=t.ret.step ws
  if r.1 then ({ t.again with rt:=some r.2.1, st:=3 }, r.2.2) else ({ t with rt:=some r.2.1 }, r.2.2)):=by
 unfold Ty.step
 rw [hk]
 try rfl
theorem st_5 (hk : t.st = 5) : t.step ws =
  (let r:=t.seek ws
  if r.1 then (let a:=Ty.another { r.2.2.1 with other:=-1, st:=6 }; if a.1 then (a.2, ws, r.2.2.2) else ({ a.2 with st:=7 }, ws, r.2.2.2))
  else if r.2.1 then (if t.closed ≠ 0 then ({ r.2.2.1 with st:=15 }, ws, r.2.2.2) else ({ r.2.2.1 with st:=8 }, ws, r.2.2.2)) else (r.2.2.1, ws, r.2.2.2)):=by
 unfold Ty.step
 rw [hk]
 try rfl
theorem st_6 (hk : t.st = 6) : t.step ws =
  (if blocks (rd ws (pc t.other.toNat)) t.ep then ({ t.go with st:=5 }, ws, 1)
  else (let a:=t.another; if a.1 then (a.2, ws, 1) else ({ a.2 with st:=7 }, ws, 1))):=by
 unfold Ty.step
 rw [hk]
 try rfl
theorem st_7 (hk : t.st = 7) : t.step ws =
  (let r:=t.swap 12 t.w ws
  ({ t.go with st:=5 }, r.2)):=by
 unfold Ty.step
 rw [hk]
 try rfl
theorem st_8 (hk : t.st = 8) : t.step ws =
  (if 0 < rd ws 1 then ({ t with queue:=rd ws 1, head:=rd ws 1 % 16 - 1 }.search 9 3 t.w, ws, 1) else ({ t with queue:=rd ws 1, st:=15 }, ws, 1)):=by
 unfold Ty.step
 rw [hk]
 try rfl
theorem st_9 (hk : t.st = 9) : t.step ws =
  (let r:=t.seek ws
  if r.1 then ({ r.2.2.1 with st:=10 }, ws, r.2.2.2) else if r.2.1 then ({ r.2.2.1 with st:=15 }, ws, r.2.2.2) else (r.2.2.1, ws, r.2.2.2)):=by
 unfold Ty.step
 rw [hk]
 try rfl
theorem st_10 (hk : t.st = 10) : t.step ws =
  (let r:=t.swap (if t.is = 2 then 5 else 7) t.head ws
  if r.1 then ({ t with st:=11 }, r.2) else ({ t.again with st:=9 }, r.2)):=by
 unfold Ty.step
 rw [hk]
 try rfl
theorem st_11 (hk : t.st = 11) : t.step ws =
  (let r:=cas ws 1 t.queue (t.queue / 16)
  if r.1 then ({ t with st:=12 }, r.2, 1) else ({ t with st:=13 }, r.2, 1)):=by
 unfold Ty.step
 rw [hk]
 try rfl
theorem st_12 (hk : t.st = 12) : t.step ws =
  (({ t with st:=8 }, ws.set (gc t.cf t.head.toNat) (t.i + 1), 1)):=by
 unfold Ty.step
 rw [hk]
 try rfl
theorem st_13 (hk : t.st = 13) : t.step ws =
  (let t' : Ty:={ t with word:=rd ws (sc t.cf t.i) }
  if t'.is = 4 ∨ t'.is = 5 then ({ t' with st:=14 }, ws, 1) else ({ t' with st:=8 }, ws, 1)):=by
 unfold Ty.step
 rw [hk]
 try rfl
theorem st_14 (hk : t.st = 14) : t.step ws =
  (let r:=t.swap (if t.is = 4 then 6 else 8) t.w ws
  if r.1 then ({ t with st:=2 }, r.2) else ({ t with st:=13 }, r.2)):=by
 unfold Ty.step
 rw [hk]
 try rfl
theorem st_15 (hk : t.st = 15) : t.step ws =
  (({ t with st:=16 }, ws.set (pc t.w) 0, 1)):=by
 unfold Ty.step
 rw [hk]
 try rfl
theorem st_16 (hk : t.st = 16) : t.step ws =
  (if rd ws 2 = t.epoch then ({ t with st:=17 }, ws, 1) else ({ t with st:=0 }, ws, 1)):=by
 unfold Ty.step
 rw [hk]
 try rfl
theorem st_17 (hk : t.st = 17) : t.step ws = (t, ws, 0):=by
 unfold Ty.step
 rw [hk]
 try rfl
end
def QOk (c : Conf.Cf) (ws : List Int) : Prop:=0 < rd ws 1 → 1 ≤ rd ws 1 % 16 ∧ rd ws 1 % 16 ≤ c.workers
def FdOkY (c : Conf.Cf) (f : Tk.Fd) : Prop:=(0 ≤ f.kind ∧ f.kind ≤ 6) ∧ f.at' ≤ ns c ∧ (f.found = true → f.at' < ns c)
theorem FdOkY.new {c : Conf.Cf} {kind own : Int} (hk : 0 ≤ kind ∧ kind ≤ 6) : FdOkY c (Tk.Fd.new kind own):=⟨hk, Nat.zero_le _, fun h => nomatch h⟩
theorem FdOkY.step {c : Conf.Cf} {f : Tk.Fd} (h : FdOkY c f) (ws : List Int) : FdOkY c (f.step c ws).2.1:=by
 unfold Tk.Fd.step
 split
 ·exact h
 ·rename_i hn
  simp only [not_or] at hn
  split
  ·exact ⟨h.1, h.2.1, fun _ => by simp only; omega⟩
  ·exact ⟨h.1, by simp only; omega, fun hf => absurd hf hn.1⟩
theorem FdOkY.again {c : Conf.Cf} {f : Tk.Fd} (h : FdOkY c f) : FdOkY c f.again:=⟨h.1, h.2.1, fun h => nomatch h⟩
theorem FdOkY.go {c : Conf.Cf} {f : Tk.Fd} (h : FdOkY c f) : FdOkY c f.go:=by
 unfold Tk.Fd.go
 split
 ·rename_i hf
  have:=h.2.2 hf
  exact ⟨h.1, by simp only; omega, fun h => nomatch h⟩
 ·exact h
structure TyOk (t : Ty) (n : Nat) : Prop where
 c : SmallC t.cf
 ns : 1 ≤ Tk.ns t.cf
 w : (t.w : Int) < t.cf.workers
 len : n = 3 + 2 * t.cf.workers.toNat + Tk.ns t.cf
 i : t.i < Tk.ns t.cf
 look : ∀ f, t.look = some f → FdOkY t.cf f
 has : 3 ≤ t.st → t.st ≤ 14 → ∃ f, t.look = some f
 rt : ∀ r, t.rt = some r → RtOk n r
 hasr : t.st = 4 → ∃ r, t.rt = some r
 other : t.st = 6 → 0 ≤ t.other ∧ t.other < t.cf.workers
 head : 9 ≤ t.st → t.st ≤ 14 → 0 ≤ t.head ∧ t.head < t.cf.workers
 st : t.st ≤ 17
theorem TyOk.new {c : Conf.Cf} {w n : Nat} (h1 : SmallC c) (h2 : 1 ≤ Tk.ns c) (h3 : (w : Int) < c.workers) (h4 : n = 3 + 2 * c.workers.toNat + Tk.ns c) : TyOk (Ty.new c w) n :=
 ⟨h1, h2, h3, h4, by simp only [Ty.new]; omega, fun f h => (by cases h), fun h => (by simp [Ty.new] at h), fun f h => (by cases h), fun h => (by simp [Ty.new] at h), fun h => (by simp [Ty.new] at h), fun h => (by simp [Ty.new] at h), by simp [Ty.new]⟩
theorem TyOk.to {t t' : Ty} {n : Nat} (h : TyOk t n) (hcf : t'.cf = t.cf) (hw : t'.w = t.w) (hi : t'.i < Tk.ns t.cf) (hlook : ∀ f, t'.look = some f → FdOkY t.cf f)
  (hhas : 3 ≤ t'.st → t'.st ≤ 14 → ∃ f, t'.look = some f) (hrt : ∀ r, t'.rt = some r → RtOk n r) (hasr : t'.st = 4 → ∃ r, t'.rt = some r) (hother : t'.st = 6 → 0 ≤ t'.other ∧ t'.other < t.cf.workers)
  (hhead : 9 ≤ t'.st → t'.st ≤ 14 → 0 ≤ t'.head ∧ t'.head < t.cf.workers) (hst : t'.st ≤ 17) : TyOk t' n :=
 ⟨by rw [hcf]; exact h.c, by rw [hcf]; exact h.ns, by rw [hcf, hw]; exact h.w, by rw [hcf]; exact h.len, by rw [hcf]; exact hi, by rw [hcf]; exact hlook, hhas, hrt, hasr, by rw [hcf]; exact hother, by rw [hcf]; exact hhead, hst⟩
theorem TyOk.looks {t : Ty} {n : Nat} (h : TyOk t n) {f : Tk.Fd} (hf : FdOkY t.cf f) (k i : Nat) (wd : Int) (hi : i < Tk.ns t.cf) (hk : k ≤ 17) (h4 : k ≠ 4) (h6 : k ≠ 6) (hh : 9 ≤ k → k ≤ 14 → 0 ≤ t.head ∧ t.head < t.cf.workers) : TyOk { t with look:=some f, st:=k, i:=i, word:=wd } n :=
 h.to rfl rfl hi (fun f' e => by cases e; exact hf) (fun _ _ => ⟨f, rfl⟩) h.rt (fun e => absurd e h4) (fun e => absurd e h6) hh hk
theorem TyOk.states {t : Ty} {n : Nat} (h : TyOk t n) (k : Nat) (hk : k ≤ 17) (h4 : k ≠ 4) (h6 : k ≠ 6) (hl : 3 ≤ k → k ≤ 14 → ∃ f, t.look = some f) (hh : 9 ≤ k → k ≤ 14 → 0 ≤ t.head ∧ t.head < t.cf.workers) : TyOk { t with st:=k } n :=
 h.to rfl rfl h.i h.look hl h.rt (fun e => absurd e h4) (fun e => absurd e h6) hh hk
theorem TyOk.other' {t : Ty} {n : Nat} (h : TyOk t n) (o : Int) (k : Nat) (hk : k ≤ 17) (h4 : k ≠ 4) (h6 : k = 6 → 0 ≤ o ∧ o < t.cf.workers) (hl : 3 ≤ k → k ≤ 14 → ∃ f, t.look = some f) (hh : 9 ≤ k → k ≤ 14 → 0 ≤ t.head ∧ t.head < t.cf.workers) : TyOk { t with st:=k, other:=o } n :=
 h.to rfl rfl h.i h.look hl h.rt (fun e => absurd e h4) h6 hh hk
theorem seek_eq {t : Ty} {f : Tk.Fd} (hl : t.look = some f) (ws : List Int) : t.seek ws = ((f.step t.cf ws).2.1.found, (f.step t.cf ws).1 && !(f.step t.cf ws).2.1.found, (if (f.step t.cf ws).2.1.found then { t with look:=some (f.step t.cf ws).2.1, i:=(f.step t.cf ws).2.1.at', word:=(f.step t.cf ws).2.1.word } else { t with look:=some (f.step t.cf ws).2.1 }), (f.step t.cf ws).2.2):=by
 unfold Ty.seek Ty.fd
 rw [hl]
 rfl
theorem TyOk.seek {t : Ty} {n : Nat} (h : TyOk t n) {f : Tk.Fd} (hl : t.look = some f) (ws : List Int) : ∃ f' i wd, FdOkY t.cf f' ∧ i < Tk.ns t.cf ∧ (t.seek ws).2.2.1 = { t with look:=some f', i:=i, word:=wd }:=by
 rw [seek_eq hl]
 have hS:=(h.look f hl).step ws
 generalize f.step t.cf ws = q at *
 dsimp only
 split
 ·rename_i hf
  exact ⟨_, _, _, hS, hS.2.2 hf, rfl⟩
 ·exact ⟨_, t.i, t.word, hS, h.i, rfl⟩
theorem nxt_pos {w : Nat} {o : Int} (h : -1 ≤ o) : 0 ≤ nxt w o:=by unfold nxt; split <;> omega
theorem cas_len (ws : List Int) (i : Nat) (a b : Int) : (cas ws i a b).2.length = ws.length:=by unfold cas; split <;> simp
theorem swap_len (t : Ty) (d : Nat) (own : Int) (ws : List Int) : (t.swap d own ws).2.1.length = ws.length:=by
 unfold Ty.swap
 split
 ·exact cas_len _ _ _ _
 ·rfl
theorem TyOk.step {t : Ty} {ws : List Int} (h : TyOk t ws.length) (hq : QOk t.cf ws) : TyOk (t.step ws).1 ws.length ∧ (t.step ws).2.1.length = ws.length:=by
 have hst:=h.st
 have hcases : t.st = 0 ∨ t.st = 1 ∨ t.st = 2 ∨ t.st = 3 ∨ t.st = 4 ∨ t.st = 5 ∨ t.st = 6 ∨ t.st = 7 ∨ t.st = 8 ∨ t.st = 9 ∨ t.st = 10 ∨ t.st = 11 ∨ t.st = 12 ∨ t.st = 13 ∨ t.st = 14 ∨ t.st = 15 ∨ t.st = 16 ∨ t.st = 17:=by omega
 have hfd : ∀ f, t.look = some f → t.fd = f:=fun f e => by unfold Ty.fd; rw [e]; rfl
 have hag : 3 ≤ t.st → t.st ≤ 14 → ∃ f, t.look = some f ∧ t.again = { t with look:=some f.again } ∧ t.go = { t with look:=some f.go } ∧ FdOkY t.cf f.again ∧ FdOkY t.cf f.go:=by
  intro h1 h2
  obtain ⟨f, hf⟩:=h.has h1 h2
  exact ⟨f, hf, by unfold Ty.again; rw [hfd f hf], by unfold Ty.go; rw [hfd f hf], (h.look f hf).again, (h.look f hf).go⟩
 rcases hcases with hk | hk | hk | hk | hk | hk | hk | hk | hk | hk | hk | hk | hk | hk | hk | hk | hk | hk
 ·rw [st_0 hk]
  exact ⟨h.to rfl rfl h.i h.look (by simp) h.rt (by simp) (by simp) (by simp) (by simp), rfl⟩
 ·rw [st_1 hk]
  exact ⟨h.to rfl rfl h.i h.look (by simp) h.rt (by simp) (by simp) (by simp) (by simp), by simp⟩
 ·rw [st_2 hk]
  exact ⟨h.to rfl rfl h.i (fun f e => by cases e; exact FdOkY.new (by omega)) (fun _ _ => ⟨_, rfl⟩) h.rt (by simp [Ty.search]) (by simp [Ty.search]) (by simp [Ty.search]) (by simp [Ty.search]), rfl⟩
 ·rw [st_3 hk]
  obtain ⟨f, hf⟩:=h.has (by omega) (by omega)
  obtain ⟨f', i, wd, h1, h2, h3⟩:=h.seek hf ws
  dsimp only
  rw [h3]
  split
  ·refine ⟨h.to rfl rfl h2 (fun f e => by cases e; exact h1) (fun _ _ => ⟨_, rfl⟩) (fun r e => ?_) (fun _ => ⟨_, rfl⟩) (by simp) (by simp) (by simp), rfl⟩
   cases e
   exact ⟨by have:=h.len; simp only [Rt.new, sc]; omega, by simp [Rt.new]⟩
  ·split
   ·exact ⟨h.to rfl rfl h2 (fun f e => by cases e; exact FdOkY.new (by omega)) (fun _ _ => ⟨_, rfl⟩) h.rt (by simp [Ty.search]) (by simp [Ty.search]) (by simp [Ty.search]) (by simp [Ty.search]), rfl⟩
   ·exact ⟨h.looks h1 t.st i wd h2 (by omega) (by omega) (by omega) (by omega), rfl⟩
 ·rw [st_4 hk]
  obtain ⟨r, hr⟩:=h.hasr hk
  have hret : t.ret = r:=by unfold Ty.ret; rw [hr]; rfl
  rw [hret]
  obtain ⟨q1, q2⟩:=(h.rt r hr).step ws
  obtain ⟨f, hf, hA, hG, oA, oG⟩:=hag (by omega) (by omega)
  generalize r.step ws = q at *
  dsimp only
  split
  ·rw [hA]
   exact ⟨h.to rfl rfl h.i (fun f e => by cases e; exact oA) (fun _ _ => ⟨_, rfl⟩) (fun r' e => by cases e; exact q1) (by simp) (by simp) (by simp) (by simp), q2⟩
  ·exact ⟨h.to rfl rfl h.i h.look (fun h1 h2 => h.has h1 h2) (fun r' e => by cases e; exact q1) (fun _ => ⟨_, rfl⟩) (fun e => absurd e (by simp only; omega)) (fun e => absurd e (by simp only; omega)) (by simp only; omega), q2⟩
 ·rw [st_5 hk]
  obtain ⟨f, hf⟩:=h.has (by omega) (by omega)
  obtain ⟨f', i, wd, h1, h2, h3⟩:=h.seek hf ws
  dsimp only
  rw [h3]
  split
  ·split
   ·rename_i hb
    simp only [Ty.another, decide_eq_true_eq] at hb
    exact ⟨h.to rfl rfl h2 (fun f e => by cases e; exact h1) (fun _ _ => ⟨_, rfl⟩) h.rt (by simp [Ty.another]) (fun _ => ⟨nxt_pos (Int.le_refl _), hb⟩) (by simp [Ty.another]) (by simp [Ty.another]), rfl⟩
   ·exact ⟨h.to rfl rfl h2 (fun f e => by cases e; exact h1) (fun _ _ => ⟨_, rfl⟩) h.rt (by simp) (by simp) (by simp) (by simp), rfl⟩
  ·split
   ·split
    ·exact ⟨h.looks h1 15 i wd h2 (by omega) (by omega) (by omega) (by omega), rfl⟩
    ·exact ⟨h.looks h1 8 i wd h2 (by omega) (by omega) (by omega) (by omega), rfl⟩
   ·exact ⟨h.looks h1 t.st i wd h2 (by omega) (by omega) (by omega) (by omega), rfl⟩
 ·rw [st_6 hk]
  obtain ⟨f, hf, hA, hG, oA, oG⟩:=hag (by omega) (by omega)
  have ho:=h.other hk
  dsimp only
  split
  ·rw [hG]
   exact ⟨h.looks oG 5 t.i t.word h.i (by omega) (by omega) (by omega) (by omega), rfl⟩
  ·split
   ·rename_i hb
    simp only [Ty.another, decide_eq_true_eq] at hb
    exact ⟨h.other' _ t.st (by omega) (by omega) (fun _ => ⟨nxt_pos (by omega), hb⟩) (fun _ _ => ⟨f, hf⟩) (by omega), rfl⟩
   ·exact ⟨h.other' _ 7 (by omega) (by omega) (by omega) (fun _ _ => ⟨f, hf⟩) (by omega), rfl⟩
 ·rw [st_7 hk]
  obtain ⟨f, hf, hA, hG, oA, oG⟩:=hag (by omega) (by omega)
  dsimp only
  rw [hG]
  exact ⟨h.looks oG 5 t.i t.word h.i (by omega) (by omega) (by omega) (by omega), swap_len _ _ _ _⟩
 ·rw [st_8 hk]
  split
  ·rename_i hb
   have:=hq hb
   exact ⟨h.to rfl rfl h.i (fun f e => by cases e; exact FdOkY.new (by omega)) (fun _ _ => ⟨_, rfl⟩) h.rt (by simp [Ty.search]) (by simp [Ty.search]) (fun _ _ => by simp only [Ty.search]; omega) (by simp [Ty.search]), rfl⟩
  ·exact ⟨h.to rfl rfl h.i h.look (by simp) h.rt (by simp) (by simp) (by simp) (by simp), rfl⟩
 ·rw [st_9 hk]
  obtain ⟨f, hf⟩:=h.has (by omega) (by omega)
  obtain ⟨f', i, wd, h1, h2, h3⟩:=h.seek hf ws
  have hh:=h.head (by omega) (by omega)
  dsimp only
  rw [h3]
  split
  ·exact ⟨h.looks h1 10 i wd h2 (by omega) (by omega) (by omega) (fun _ _ => hh), rfl⟩
  ·split
   ·exact ⟨h.looks h1 15 i wd h2 (by omega) (by omega) (by omega) (by omega), rfl⟩
   ·exact ⟨h.looks h1 t.st i wd h2 (by omega) (by omega) (by omega) (fun _ _ => hh), rfl⟩
 ·rw [st_10 hk]
  generalize (if t.is = 2 then (5 : Nat) else 7) = d
  obtain ⟨f, hf, hA, hG, oA, oG⟩:=hag (by omega) (by omega)
  have hh:=h.head (by omega) (by omega)
  dsimp only
  split
  ·exact ⟨h.states 11 (by omega) (by omega) (by omega) (fun _ _ => ⟨f, hf⟩) (fun _ _ => hh), swap_len _ _ _ _⟩
  ·rw [hA]
   exact ⟨h.looks oA 9 t.i t.word h.i (by omega) (by omega) (by omega) (fun _ _ => hh), swap_len _ _ _ _⟩
 ·rw [st_11 hk]
  obtain ⟨f, hf⟩:=h.has (by omega) (by omega)
  have hh:=h.head (by omega) (by omega)
  dsimp only
  split
  ·exact ⟨h.states 12 (by omega) (by omega) (by omega) (fun _ _ => ⟨f, hf⟩) (fun _ _ => hh), cas_len _ _ _ _⟩
  ·exact ⟨h.states 13 (by omega) (by omega) (by omega) (fun _ _ => ⟨f, hf⟩) (fun _ _ => hh), cas_len _ _ _ _⟩
 ·rw [st_12 hk]
  obtain ⟨f, hf⟩:=h.has (by omega) (by omega)
  exact ⟨h.states 8 (by omega) (by omega) (by omega) (fun _ _ => ⟨f, hf⟩) (by omega), by simp⟩
 ·rw [st_13 hk]
  obtain ⟨f, hf⟩:=h.has (by omega) (by omega)
  have hh:=h.head (by omega) (by omega)
  dsimp only
  split
  ·exact ⟨h.to rfl rfl h.i h.look (fun _ _ => ⟨f, hf⟩) h.rt (by simp) (by simp) (fun _ _ => hh) (by simp), rfl⟩
  ·exact ⟨h.to rfl rfl h.i h.look (fun _ _ => ⟨f, hf⟩) h.rt (by simp) (by simp) (by simp) (by simp), rfl⟩
 ·rw [st_14 hk]
  generalize (if t.is = 4 then (6 : Nat) else 8) = d
  obtain ⟨f, hf⟩:=h.has (by omega) (by omega)
  have hh:=h.head (by omega) (by omega)
  dsimp only
  split
  ·exact ⟨h.states 2 (by omega) (by omega) (by omega) (by omega) (by omega), swap_len _ _ _ _⟩
  ·exact ⟨h.states 13 (by omega) (by omega) (by omega) (fun _ _ => ⟨f, hf⟩) (fun _ _ => hh), swap_len _ _ _ _⟩
 ·rw [st_15 hk]
  exact ⟨h.states 16 (by omega) (by omega) (by omega) (by omega) (by omega), by simp⟩
 ·rw [st_16 hk]
  split
  ·exact ⟨h.states 17 (by omega) (by omega) (by omega) (by omega) (by omega), rfl⟩
  ·exact ⟨h.states 0 (by omega) (by omega) (by omega) (by omega) (by omega), rfl⟩
 ·rw [st_17 hk]
  exact ⟨h, rfl⟩
theorem seek_cf (t : Ty) (ws : List Int) : (t.seek ws).2.2.1.cf = t.cf ∧ (t.seek ws).2.2.1.w = t.w:=by
 unfold Ty.seek
 dsimp only
 split <;> exact ⟨rfl, rfl⟩
theorem step_cf (t : Ty) (ws : List Int) : (t.step ws).1.cf = t.cf ∧ (t.step ws).1.w = t.w:=by
 have h:=seek_cf t ws
 unfold Ty.step
 split <;> (try dsimp only [Ty.search, Ty.again, Ty.go, Ty.another]) <;> (repeat' split) <;> first | exact ⟨rfl, rfl⟩ | exact h
def it : Nat → Ty × List Int → Ty × List Int
 | 0, x => x
 | n + 1, x => it n ((x.1.step x.2).1, (x.1.step x.2).2.1)
theorem it_add (m n : Nat) (x : Ty × List Int) : it (m + n) x = it n (it m x):=by
 induction m generalizing x with
 | zero => rw [Nat.zero_add]; rfl
 | succ m ih => rw [Nat.succ_add]; exact ih _
theorem step_done {t : Ty} {ws : List Int} (h : t.st = 17) : t.step ws = (t, ws, 0):=by
 unfold Ty.step
 rw [h]
 rfl
theorem it_done (n : Nat) {t : Ty} {ws : List Int} (h : t.st = 17) : it n (t, ws) = (t, ws):=by
 induction n with
 | zero => rfl
 | succ n ih =>
  show it n _ = _
  rw [step_done h]
  exact ih
def In (n : Nat) (x y : Ty × List Int) : Prop:=∃ m, m ≤ n ∧ it m x = y
theorem In.refl (x : Ty × List Int) : In 0 x x:=⟨0, Nat.le_refl _, rfl⟩
theorem In.one {t t' : Ty} {ws ws' : List Int} {k : Nat} (h : t.step ws = (t', ws', k)) : In 1 (t, ws) (t', ws'):=⟨1, Nat.le_refl _, by show ((t.step ws).1, (t.step ws).2.1) = _; rw [h]⟩
theorem In.trans {a b : Nat} {x y z : Ty × List Int} (h1 : In a x y) (h2 : In b y z) : In (a + b) x z:=by
 obtain ⟨m, hm, h1⟩:=h1
 obtain ⟨n, hn, h2⟩:=h2
 exact ⟨m + n, by omega, by rw [it_add, h1, h2]⟩
theorem In.mono {a b : Nat} {x y : Ty × List Int} (h : In a x y) (hab : a ≤ b) : In b x y:=by
 obtain ⟨m, hm, h1⟩:=h
 exact ⟨m, by omega, h1⟩
structure At (c : Conf.Cf) (w : Nat) (cl e : Int) (st : Nat) (look : Option Tk.Fd) (t : Ty) : Prop where
 cf : t.cf = c
 w : t.w = w
 cl : t.closed = cl
 e : t.epoch = e
 st : t.st = st
 look : t.look = look
section
variable {c : Conf.Cf} {pre : List Int} {ss : List S} {t : Ty} {kd ow wd cl e E : Int} {k w : Nat}
theorem fd_lk (hl : t.look = lk kd ow k wd) : t.fd = ⟨kd, ow, k, wd, false⟩:=by unfold Ty.fd; rw [hl]; rfl
theorem fd_is {f : Tk.Fd} (hl : t.look = some f) : t.fd = f:=by unfold Ty.fd; rw [hl]; rfl
theorem seek_miss (h : Pool c pre ss) (hc : t.cf = c) (hl : t.look = lk kd ow k wd) {s : S} (hs : ss[k]? = some s) (hf : Find.fits s kd ow = false) :
  t.seek (cells pre ss) = (false, decide (ns c ≤ k + 1), { t with look:=lk kd ow (k + 1) wd }, 1):=by
 have hk : k < ns c:=by rw [← h.sl]; exact (List.getElem?_eq_some_iff.1 hs).1
 unfold Ty.seek
 rw [fd_lk hl]
 simp only [lk, Tk.Fd.step, hc, Bool.false_eq_true, false_or]
 rw [if_neg (by omega), if_neg (by rw [fits_slot h hs, hf]; simp)]
 simp
theorem seek_hit (h : Pool c pre ss) (hc : t.cf = c) (hl : t.look = lk kd ow k wd) {s : S} (hs : ss[k]? = some s) (hf : Find.fits s kd ow = true) :
  t.seek (cells pre ss) = (true, false, { t with look:=some ⟨kd, ow, k, s.word, true⟩, i:=k, word:=s.word }, 1):=by
 have hk : k < ns c:=by rw [← h.sl]; exact (List.getElem?_eq_some_iff.1 hs).1
 unfold Ty.seek
 rw [fd_lk hl]
 simp only [Tk.Fd.step, hc, Bool.false_eq_true, false_or]
 rw [if_neg (by omega), if_pos (by rw [fits_slot h hs, hf])]
 simp [rd_slot h hs]
theorem seek_end (hc : t.cf = c) (hl : t.look = lk kd ow k wd) (hk : ns c ≤ k) (ws : List Int) : t.seek ws = (false, true, t, 0):=by
 unfold Ty.seek
 rw [fd_lk hl]
 simp only [Tk.Fd.step, hc, Bool.false_eq_true, false_or]
 rw [if_pos hk]
 simp only [Bool.not_false, Bool.and_true, Bool.false_eq_true, if_false]
 obtain ⟨a1, a2, a3, a4, a5, a6, a7, a8, a9, a10, a11, a12⟩:=t
 simp only at hl hc
 subst hl
 simp [lk, hc]
theorem nextW_is {s s' : S} {d : Nat} {own more : Int} (h : s.right = true) (hn : nextX s d own more = some s') : nextW s.word d own more = some s'.word:=by
 unfold nextW
 rw [dec_word h]
 simp only [Option.bind_some, hn, Option.map_some]
theorem swap_is (h : Pool c pre ss) (hc : t.cf = c) {s s' : S} (hs : ss[t.i]? = some s) (hw : t.word = s.word) {d : Nat} {own : Int} (hn : nextX s d own 0 = some s') :
  t.swap d own (cells pre ss) = (true, cells pre (ss.set t.i s'), 1):=by
 unfold Ty.swap
 rw [hw, nextW_is (h.get hs) hn]
 simp only [cas, hc]
 rw [if_pos (rd_slot h hs), set_slot h]
def lim1 (s : S) : S:={ (actX 11 s 0 4095).1 with version:=(s.version + 1) % 32768 }
def lim (s : S) (E : Int) : S:={ (actX 17 (lim1 s) 0 E).1 with version:=((lim1 s).version + 1) % 32768 }
theorem next_lim1 {s : S} (h : s.right = true) (hs : s.state = 2 ∨ s.state = 3) : nextX s 11 0 4095 = some (lim1 s):=by
 rw [next_is h (by omega) (by simp [actX, hs])]
 rfl
theorem lim1_state (s : S) : (lim1 s).state = 6:=rfl
theorem lim1_right {s : S} (h : s.right = true) (hs : s.state = 2 ∨ s.state = 3) : (lim1 s).right = true:=next_right (.inr (.inr (.inr (.inl rfl)))) (next_lim1 h hs)
theorem next_lim {s : S} {E : Int} (h : s.right = true) (hs : s.state = 2 ∨ s.state = 3) (hE : 0 ≤ E ∧ E ≤ 4095) : nextX (lim1 s) 17 0 E = some (lim s E):=by
 rw [next_is (lim1_right h hs) (by omega) (by simp [actX, lim1_state, hE])]
 rfl
theorem lim_right {s : S} {E : Int} (h : s.right = true) (hs : s.state = 2 ∨ s.state = 3) (hE : 0 ≤ E ∧ E ≤ 4095) : (lim s E).right = true:=next_right (.inr (.inr (.inr (.inr (.inr rfl))))) (next_lim h hs hE)
theorem lim_facts (s : S) (E : Int) : (lim s E).state = 6 ∧ (lim s E).epoch = E ∧ (lim s E).gen = s.gen:=⟨rfl, rfl, rfl⟩
theorem swept_state {s : S} (h : Find.fits s 4 cl = true) : s.state = 2 ∨ s.state = 3:=by
 simp [Find.fits, Find.swept] at h
 split at h
 ·rename_i h2; exact .inl h2
 ·exact .inr h.1
theorem lim_unswept (s : S) (E : Int) : Find.fits (lim s E) 4 cl = false:=by
 simp [Find.fits, Find.swept, (lim_facts s E).1]
theorem set_set_self {ss : List S} {k : Nat} (a b : S) : (ss.set k a).set k b = ss.set k b:=by simp
theorem sweep_hit (h : Pool c pre ss) (ha : At c w cl e 3 (lk 4 cl k wd) t) {s : S} (hs : ss[k]? = some s) (hf : Find.fits s 4 cl = true) (hE : rd pre 2 = E) (h4 : 0 ≤ E ∧ E ≤ 4095) :
  ∃ t', In 5 (t, cells pre ss) (t', cells (pre.set 2 (E + 1)) (ss.set k (lim s E))) ∧ At c w cl e 3 (lk 4 cl k s.word) t':=by
 have hcf:=ha.cf
 subst hcf
 have hst:=swept_state hf
 have hr:=h.get hs
 have hk : k < ss.length:=(List.getElem?_eq_some_iff.1 hs).1
 have h1:=seek_hit h ha.cf ha.look hs hf
 let t1 : Ty:={ t with look:=some ⟨4, cl, k, s.word, true⟩, i:=k, word:=s.word, rt:=some (Rt.new (sc t.cf k) s.word), st:=4 }
 have e1 : t.step (cells pre ss) = (t1, cells pre ss, 1):=by unfold Ty.step; rw [ha.st]; simp only [h1, if_true]; rfl
 have hP1 : Pool t.cf pre (ss.set k (lim1 s)):=h.set (lim1_right hr hst)
 have hs1 : (ss.set k (lim1 s))[k]? = some (lim1 s):=by simp [hk]
 let t2 : Ty:={ t1 with rt:=some { (Rt.new (sc t.cf k) s.word) with word:=(lim1 s).word, swapped:=true, st:=1 } }
 have e2 : t1.step (cells pre ss) = (t2, cells pre (ss.set k (lim1 s)), 1):=by
  unfold Ty.step
  simp only [t1, Ty.ret, Option.getD_some, Rt.step, Rt.new, nextW_is hr (next_lim1 hr hst), rd_slot h hs, if_true, set_slot h, Bool.false_eq_true, if_false]
  rfl
 let t3 : Ty:={ t1 with rt:=some { (Rt.new (sc t.cf k) s.word) with word:=(lim1 s).word, swapped:=true, st:=2, epoch:=E } }
 have hE2 : rd (cells pre (ss.set k (lim1 s))) 2 = E:=by rw [rd_pre hP1 (by omega)]; exact hE
 have e3 : t2.step (cells pre (ss.set k (lim1 s))) = (t3, cells pre (ss.set k (lim1 s)), 1):=by
  unfold Ty.step
  simp only [t2, t1, Ty.ret, Option.getD_some, Rt.step, hE2, Bool.false_eq_true, if_false]
  rfl
 have hP2 : Pool t.cf pre (ss.set k (lim s E)):=h.set (lim_right hr hst h4)
 let t4 : Ty:={ t1 with rt:=some { (Rt.new (sc t.cf k) s.word) with word:=(lim1 s).word, swapped:=true, st:=3, epoch:=E } }
 have e4 : t3.step (cells pre (ss.set k (lim1 s))) = (t4, cells pre (ss.set k (lim s E)), 1):=by
  unfold Ty.step
  simp only [t3, t1, Ty.ret, Option.getD_some, Rt.step, Rt.new, nextW_is (lim1_right hr hst) (next_lim hr hst h4), cas, rd_slot hP1 hs1, if_true, set_slot hP1, set_set_self, Bool.false_eq_true, if_false]
  rfl
 have hE3 : rd (cells pre (ss.set k (lim s E))) 2 = E:=by rw [rd_pre hP2 (by omega)]; exact hE
 have hw : wrap64 (E + 1) = E + 1:=by unfold wrap64; omega
 let t5 : Ty:={ t1 with look:=lk 4 cl k s.word, rt:=some (Rt.end' { (Rt.new (sc t.cf k) s.word) with word:=(lim1 s).word, swapped:=true, st:=3, epoch:=E }), st:=3 }
 have e5 : t4.step (cells pre (ss.set k (lim s E))) = (t5, cells (pre.set 2 (E + 1)) (ss.set k (lim s E)), 1):=by
  unfold Ty.step
  simp only [t4, t1, Ty.ret, Option.getD_some, Rt.step, hE3, hw, set_pre hP2 (i:=2) (by omega), if_true]
  rfl
 exact ⟨t5, ((((In.one e1).trans (In.one e2)).trans (In.one e3)).trans (In.one e4)).trans (In.one e5), ha.cf, ha.w, ha.cl, ha.e, rfl, rfl⟩
theorem sweep_miss (h : Pool c pre ss) (ha : At c w cl e 3 (lk 4 cl k wd) t) {s : S} (hs : ss[k]? = some s) (hf : Find.fits s 4 cl = false) (hk : k + 1 < ns c) :
  ∃ t', In 1 (t, cells pre ss) (t', cells pre ss) ∧ At c w cl e 3 (lk 4 cl (k + 1) wd) t':=by
 have h1:=seek_miss h ha.cf ha.look hs hf
 rw [decide_eq_false (by omega)] at h1
 refine ⟨{ t with look:=lk 4 cl (k + 1) wd }, In.one (k:=1) ?_, ha.cf, ha.w, ha.cl, ha.e, ha.st, rfl⟩
 unfold Ty.step; rw [ha.st]; simp only [h1, Bool.false_eq_true, if_false]; rw [← ha.st]
theorem sweep_last (h : Pool c pre ss) (ha : At c w cl e 3 (lk 4 cl k wd) t) {s : S} (hs : ss[k]? = some s) (hf : Find.fits s 4 cl = false) (hk : ns c ≤ k + 1) :
  ∃ t', In 1 (t, cells pre ss) (t', cells pre ss) ∧ At c w cl e 5 (lk 5 w 0 0) t':=by
 have h1:=seek_miss h ha.cf ha.look hs hf
 rw [decide_eq_true hk] at h1
 refine ⟨{ t with look:=lk 5 w 0 0, st:=5 }, In.one (k:=1) ?_, ha.cf, ha.w, ha.cl, ha.e, rfl, rfl⟩
 unfold Ty.step; rw [ha.st]; simp only [h1]; simp [Ty.search, lk, Tk.Fd.new, ha.w]
def sweepAll (cl : Int) : Int → List S → Int × List S
 | E, [] => (E, [])
 | E, s :: ss => if Find.fits s 4 cl then ((sweepAll cl (E + 1) ss).1, lim s E :: (sweepAll cl (E + 1) ss).2) else ((sweepAll cl E ss).1, s :: (sweepAll cl E ss).2)
theorem get_mid (a : List S) (s : S) (r : List S) : (a ++ s :: r)[a.length]? = some s:=by simp
theorem set_mid (a : List S) (s s' : S) (r : List S) : (a ++ s :: r).set a.length s' = a ++ s' :: r:=by simp
theorem sweep_all : ∀ (rest a : List S) {pre : List Int} {E wd : Int} {t : Ty}, rest ≠ [] → Pool c pre (a ++ rest) → At c w cl e 3 (lk 4 cl a.length wd) t → rd pre 2 = E → 0 ≤ E → E + rest.length ≤ 4095 →
  ∃ t', In (6 * rest.length) (t, cells pre (a ++ rest)) (t', cells (pre.set 2 (sweepAll cl E rest).1) (a ++ (sweepAll cl E rest).2)) ∧ At c w cl e 5 (lk 5 w 0 0) t' ∧ Pool c (pre.set 2 (sweepAll cl E rest).1) (a ++ (sweepAll cl E rest).2):=by
 intro rest
 induction rest with
 | nil => intro a pre E wd t h; exact absurd rfl h
 | cons s rest ih =>
  intro a pre E wd t _ h ha hE h0 h4
  have hns : a.length + (rest.length + 1) = ns c:=by have:=h.sl; simpa using this
  have hpre : pre.set 2 E = pre:=by
   have h3:=h.pl
   have : pre[2] = E:=by rw [← hE]; unfold rd; rw [List.getD_eq_getElem?_getD, List.getElem?_eq_getElem (by omega)]; rfl
   rw [← this, List.set_getElem_self]
  simp only [List.length_cons] at h4 ⊢
  have key : ∀ {s' : S} {pre' : List Int} {E' wd' : Int} {t1 : Ty}, Find.fits s' 4 cl = false → Pool c pre' (a ++ s' :: rest) → At c w cl e 3 (lk 4 cl a.length wd') t1 → rd pre' 2 = E' → 0 ≤ E' → E' + rest.length ≤ 4095 →
    ∃ t', In (6 * rest.length + 1) (t1, cells pre' (a ++ s' :: rest)) (t', cells (pre'.set 2 (sweepAll cl E' rest).1) (a ++ s' :: (sweepAll cl E' rest).2)) ∧ At c w cl e 5 (lk 5 w 0 0) t' ∧ Pool c (pre'.set 2 (sweepAll cl E' rest).1) (a ++ s' :: (sweepAll cl E' rest).2):=by
   intro s' pre' E' wd' t1 hf hP hA hE' h0' h4'
   cases rest with
   | nil =>
    obtain ⟨t', h1, h2⟩:=sweep_last hP hA (get_mid a s' []) hf (by simp at hns; omega)
    have hpre' : pre'.set 2 E' = pre':=by
     have h3:=hP.pl
     have : pre'[2] = E':=by rw [← hE']; unfold rd; rw [List.getD_eq_getElem?_getD, List.getElem?_eq_getElem (by omega)]; rfl
     rw [← this, List.set_getElem_self]
    refine ⟨t', ?_, h2, ?_⟩
    ·simp only [sweepAll, hpre']; exact h1
    ·simp only [sweepAll, hpre']; exact hP
   | cons s2 r2 =>
    obtain ⟨t2, h1, h2⟩:=sweep_miss hP hA (get_mid a s' (s2 :: r2)) hf (by simp at hns; omega)
    have e1 : a ++ s' :: s2 :: r2 = (a ++ [s']) ++ s2 :: r2:=by simp
    rw [e1] at h1 hP
    obtain ⟨t3, h3, h5, h6⟩:=ih (a ++ [s']) (by simp) hP (by simpa using h2) hE' h0' h4'
    refine ⟨t3, ?_, h5, ?_⟩
    ·rw [e1]
     have:=(h1.trans h3).mono (b:=6 * (s2 :: r2).length + 1) (by omega)
     simpa using this
    ·simpa using h6
  cases hf : Find.fits s 4 cl
  ·obtain ⟨t', h1, h2, h3⟩:=key hf h ha hE h0 (by omega)
   refine ⟨t', ?_, h2, ?_⟩
   ·simp only [sweepAll, hf, Bool.false_eq_true, if_false]; exact h1.mono (by omega)
   ·simp only [sweepAll, hf, Bool.false_eq_true, if_false]; exact h3
  ·obtain ⟨t1, h1, h2⟩:=sweep_hit h ha (get_mid a s rest) hf hE ⟨h0, by omega⟩
   rw [set_mid] at h1
   have hst:=swept_state hf
   have hr:=h.get (get_mid a s rest)
   have hP : Pool c (pre.set 2 (E + 1)) (a ++ lim s E :: rest):=by
    have:=(h.setPre 2 (E + 1)).set (i:=a.length) (lim_right hr hst ⟨h0, by omega⟩)
    rwa [set_mid] at this
   have hE1 : rd (pre.set 2 (E + 1)) 2 = E + 1:=by
    have:=h.pl
    unfold rd
    rw [List.getD_eq_getElem?_getD, List.getElem?_set]
    simp [show 2 < pre.length by omega]
   obtain ⟨t', h3, h4', h5⟩:=key (lim_unswept s E) hP h2 hE1 (by omega) (by omega)
   refine ⟨t', ?_, h4', ?_⟩
   ·simp only [sweepAll, hf, if_true]
    have:=(h1.trans h3).mono (b:=6 * (rest.length + 1)) (by omega)
    simpa using this
   ·simp only [sweepAll, hf, if_true]
    simpa using h5
end
end Go.Proofs.YteadpgiffpfmnaaGreatDoor.Ty
namespace Go.Proofs.YteadpgiffpfmnaaGreatDoor.Cl
open Go.RowKit Hp Slot RowL Life
def flatS (l : List S) : List Value:=(l.map fun s => s.cells.toList).flatten
theorem flatS_len (l : List S) : (flatS l).length = l.length * 9:=by
 induction l with
 | nil => rfl
 | cons s l ih =>
  have e : flatS (s :: l) = s.cells.toList ++ flatS l:=rfl
  rw [e, List.length_append, ih, List.length_cons]
  show 9 + l.length * 9 = _
  omega
theorem flatS_get (l : List S) (k : Nat) (s : S) (h : l[k]? = some s) (j : Nat) (v : Value) (hv : s.cells[j]? = some v) : (flatS l)[k * 9 + j]? = some v:=by
 induction l generalizing k with
 | nil => simp at h
 | cons x l ih =>
  have e : flatS (x :: l) = x.cells.toList ++ flatS l:=rfl
  have hx : x.cells.toList.length = 9:=rfl
  have hj : j < 9:=by have:=(Array.getElem?_eq_some_iff.1 hv).1; simpa [S.cells] using this
  cases k with
  | zero =>
   simp at h
   subst h
   rw [e, List.getElem?_append_left (by omega), ← hv]
   simp
  | succ k =>
   rw [e, List.getElem?_append_right (by omega), hx, show (k + 1) * 9 + j - 9 = k * 9 + j by omega]
   exact ih k (by simpa using h)
theorem flatS_add (l : List S) (s : S) : flatS (l ++ [s]) = flatS l ++ s.cells.toList:=by simp [flatS]
theorem rd_here {ws : List Int} {i : Nat} (h : i < ws.length) : ws[i]? = some (Tk.rd ws i):=by
 unfold Tk.rd
 rw [List.getD_eq_getElem?_getD, List.getElem?_eq_getElem h]
 rfl
def decZ (x : Int) : S:=(dec x).getD S.zero
def slotsOf (c : Conf.Cf) (ws : List Int) : List S:=(List.range (Tk.ns c)).map fun k => decZ (Tk.rd ws (Tk.sc c k))
theorem slotsOf_len (c : Conf.Cf) (ws : List Int) : (slotsOf c ws).length = Tk.ns c:=by simp [slotsOf]
theorem slotsOf_get (c : Conf.Cf) (ws : List Int) {k : Nat} (h : k < Tk.ns c) : (slotsOf c ws)[k]? = some (decZ (Tk.rd ws (Tk.sc c k))):=by simp [slotsOf, h]
theorem slotsOf_cells {c : Conf.Cf} {pre : List Int} {ss : List S} (h : Tk.Pool c pre ss) : slotsOf c (Tk.cells pre ss) = ss:=by
 apply List.ext_getElem?
 intro k
 by_cases hk : k < Tk.ns c
 ·obtain ⟨s, hs⟩ : ∃ s, ss[k]? = some s:=⟨_, List.getElem?_eq_getElem (by rw [h.sl]; exact hk)⟩
  rw [slotsOf_get c _ hk, Tk.rd_slot h hs, hs]
  unfold decZ
  rw [dec_word (h.get hs)]
  rfl
 ·rw [List.getElem?_eq_none (by rw [slotsOf_len]; omega), List.getElem?_eq_none (by rw [h.sl]; omega)]
theorem s_new (w : World) (y : S) : ∀ j u, y.cells.toList[j]? = some u → (w.alloc (.cells y.cells 41)).cell? ((⟨w.heap.size, 0, none⟩ : Addr).add j) = some u:=by
 intro j u hu
 have h:=RowAt.cell (RowAt.new w y.cells 41) j
 have he : (⟨w.heap.size, 0, none⟩ : Addr).add j = ⟨w.heap.size, j, none⟩:=by by_cases h0 : j = 0 <;> simp [Addr.add, h0]
 rw [he, h]
 simpa using hu
theorem s_one (y : S) : ∀ u ∈ y.cells.toList, u.oneCell' = true:=by
 intro u hu
 simp [S.cells] at hu
 rcases hu with rfl | rfl | rfl | rfl | rfl | rfl | rfl | rfl | rfl <;> rfl
theorem slot_info : ∃ i0, Tryz.prog.info? 41 = some i0 ∧ i0.zero = some S.zero.val ∧ i0.size = 9 ∧ i0.bytes = 64:=by
 have h : (Tryz.prog.info? 41).map (fun i => (i.zero, i.size, i.bytes)) = some (some S.zero.val, 9, 64):=by kernel_rfl
 cases hi : Tryz.prog.info? 41 with
 | none => rw [hi] at h; cases h
 | some i =>
  rw [hi] at h
  simp only [Option.map_some, Option.some.injEq, Prod.mk.injEq] at h
  exact ⟨i, rfl, h.1, h.2.1, h.2.2⟩
theorem s_fill (y : S) : Instr.fill (fun i => some (i * 9, 9)) ((Array.range (1 * 9)).map (S.zero.val.cells[· % S.zero.val.cells.size]!)) [(0, y.val)] = some y.cells:=by kernel_rfl
theorem build_s (w : World) (y : S) : (Instr.buildSlice 24 1 #[(0, .agg y.cells)]).run Tryz.prog w = .ok (.slice (some ⟨w.heap.size, 0, none⟩) 1 1) (w.alloc (.cells y.cells 41)):=by
 obtain ⟨ie, hi, hz, hs, hb⟩:=slot_info
 refine run_buildSlice w 24 41 1 #[(0, .agg y.cells)] y.cells ie S.zero.val Tryz.underlying24 hi hz (by rw [hs]; omega) (by rw [hs]; omega) ?_
 rw [hs]
 exact s_fill y
theorem wpList_build_s {ops : Array Oper} {rest : List Oper} {o : Oper} {a : Act} {w : World} {Q : Exit → Act → World → Prop} (hg : o.guard = none) (x : Operand) (ho : o.op = .buildSlice 24 1 #[(0, x)]) (y : S) (hx : a.eval x = .agg y.cells)
  (h : wpList Tryz.prog ops Q rest (a.put o.dst (.slice (some ⟨w.heap.size, 0, none⟩) 1 1)) (w.alloc (.cells y.cells 41))) : wpList Tryz.prog ops Q (o :: rest) a w :=
 wpList_plain hg fun _ hK => by
  have e : ((#[(0, x)] : Array (Nat × Operand)).map fun (i, x) => (i, a.eval x)) = #[(0, .agg y.cells)]:=by simp [hx]
  unfold Oper.wp execOp
  simp only [ho]
  rw [e]
  simp only [Sem.run_bind, build_s w y, Result.andThen_ok]
  exact hK _ _ h
def SlotsPost (W : World) (ss : List S) (e : Ending) (W' : World) : Prop :=
 ∃ a c, e = .returned (.slice a ss.length c) ∧ SlotsIn W' a ss ∧ Below W.heap.size W W'
theorem slotsIn_own {W : World} {a : Option Addr} {n c : Nat} {l : List S} (h : OwnS W (.slice a n c) n 9 (flatS l)) (hn : l.length = n) : SlotsIn W a l:=by
 intro k s hs
 have hk : k < l.length:=(List.getElem?_eq_some_iff.1 hs).1
 rcases h.2 with ⟨e, h0⟩ | ⟨g, off, cap, e, h1, h2, h3, h4, h5, h6⟩
 ·omega
 ·cases e
  exact ⟨g, off, rfl, fun j v hv => by rw [Nat.add_assoc]; exact h6 _ _ (flatS_get l k s hs j v hv)⟩
theorem ref_slots_any (W : World) (c : Conf.Cf) (hr : c.right = true) (g o cap : Nat) (ws : List Int) (hl : ws.length = Tk.sc c (Tk.ns c)) (hs : IntsB W g o ws) (hw : ∀ x ∈ ws, x < 9223372036854775808) :
  Calls Tryz.prog 14 #[c.val, .slice (some ⟨g, o, none⟩) ws.length cap] W (SlotsPost W (slotsOf c ws)):=by
 obtain ⟨⟨a0, a1⟩, b0, b1⟩:=right_small hr
 have hce:=fun w => ref_cells_any w c ⟨by omega, a1⟩ ⟨b0, by omega⟩
 have hn : 3 + 2 * c.workers + c.slots = (ws.length : Int):=by rw [hl]; unfold Tk.sc Tk.ns; omega
 simp only [hn] at hce
 have hsl : ∀ k, k < Tk.ns c → ∃ j x, j < ws.length ∧ ws[j]? = some x ∧ decZ x = decZ (Tk.rd ws (Tk.sc c k)) ∧ x < 9223372036854775808 ∧ ∀ w, Calls Tryz.prog 20 #[c.val, .i k] w fun e w' => e = .returned (.i (j : Nat)) ∧ Below w.heap.size w w':=by
  intro k hk
  have hj : Tk.sc c k < ws.length:=by rw [hl]; unfold Tk.sc Tk.ns at *; omega
  refine ⟨Tk.sc c k, Tk.rd ws (Tk.sc c k), hj, rd_here hj, rfl, hw _ (List.mem_of_getElem? (rd_here hj)), fun w => ?_⟩
  have h:=ref_slot_any w c k ⟨by omega, a1⟩ ⟨by unfold Tk.ns at hk; omega, by omega⟩
  rwa [show 3 + 2 * c.workers + (k : Int) = ((Tk.sc c k : Nat) : Int) by unfold Tk.sc; omega] at h
 have hdl:=slotsOf_len c ws
 have hdg:=fun k (h : k < Tk.ns c) => slotsOf_get c ws h
 have hnc : (Tk.ns c : Int) = c.slots:=by unfold Tk.ns; omega
 have hnl : 1 ≤ ws.length ∧ ws.length ≤ 4096:=by rw [hl]; unfold Tk.sc Tk.ns; omega
 have hds : ∀ k, k < Tk.ns c → ∃ j x, j < ws.length ∧ ws[j]? = some x ∧ (slotsOf c ws)[k]? = some (decZ x) ∧ x < 9223372036854775808 ∧ ∀ w, Calls Tryz.prog 20 #[c.val, .i k] w fun e w' => e = .returned (.i (j : Nat)) ∧ Below w.heap.size w w':=by
  intro k hk
  obtain ⟨j, x, h1, h2, h3, h4, h5⟩:=hsl k hk
  exact ⟨j, x, h1, h2, by rw [hdg k hk, h3], h4, h5⟩
 clear hsl hdg hw
 generalize slotsOf c ws = ds at *
 generalize hN : Tk.ns c = N at *
 clear hl hr hN
 obtain ⟨i0, hi, hz0, hz1, hz2⟩:=slot_info
 have HI:=Lib.hid hi
 clear hi
 obtain ⟨cw, cs, cst, cwa, cu⟩:=c
 simp only [Conf.Cf.val, Conf.Cf.cells] at hce hds
 dsimp only at *
 subst hnc
 have hA : Below W.heap.size W (W.alloc (.cells (Ae cw N cst cwa cu) 30)):=(Below.refl _ _).alloc (Nat.le_refl _) _
 have hrow : RowAt (W.alloc (.cells (Ae cw N cst cwa cu) 30)) W.heap.size (Ae cw N cst cwa cu) 30:=RowAt.new _ _ _
 have hgl : g < W.heap.size:=hs.lt (by omega)
 have hs1:=hs.below hA
 have Hds:=Lib.hid hds
 have HA:=Lib.hid hA
 have HR:=Lib.hid hrow
 have HS:=Lib.hid hs1
 clear hs hA hrow hs1 hds
 go_enter Tryz.func14, Tryz.ntmps14
 simp only [Conf.Cf.val, Conf.Cf.cells]
 go_wp2_with fail
 generalize (W.alloc (.cells (Ae cw N cst cwa cu) 30)) = w0 at *
 go_loopw [5, 6] (fun v i wr => ∃ k : Nat, k ≤ N ∧ i = .i k ∧ RowKit.Hid (OwnS wr v k 9 (flatS (ds.take k))) ∧ RowKit.Hid (∀ x, Fp v x → W.heap.size + 1 ≤ x) ∧ RowKit.Hid (Below W.heap.size W wr) ∧ RowKit.Hid (RowAt wr W.heap.size (Ae cw N cst cwa cu) 30) ∧ RowKit.Hid (IntsB wr g o ws)) (fun v i _ => N - (intOf i).toNat)
 case atStart => exact ⟨0, by omega, rfl, Lib.hid (by rw [List.take_zero]; exact ownS_nil _ 9), fun x h => absurd h (fp_nil x), HA, HR, HS⟩
 case round =>
  obtain ⟨k, hk, rfl, hown, hfp, hB, hrw, hI⟩:=hrel
  obtain ⟨a, cp, rfl⟩:=hown.out.form
  clear HA HR HS
  have c0 : wr.cell? ⟨W.heap.size, 0, none⟩ = some (.i cw):=RowAt.cell hrw.out 0
  have c1 : wr.cell? ⟨W.heap.size, 1, none⟩ = some (.i N):=RowAt.cell hrw.out 1
  have c2 : wr.cell? ⟨W.heap.size, 2, none⟩ = some (.i cst):=RowAt.cell hrw.out 2
  have c3 : wr.cell? ⟨W.heap.size, 3, none⟩ = some (.i cwa):=RowAt.cell hrw.out 3
  have c4 : wr.cell? ⟨W.heap.size, 4, none⟩ = some (.i cu):=RowAt.cell hrw.out 4
  by_cases hlt : k < N
  ·obtain ⟨j, x, j1, j2, j3, j4, j5⟩:=Hds.out k hlt
   have k1 : (k : Int) < N:=by omega
   have kl : k ≤ 100:=by omega
   have j6 : (0 : Int) ≤ (j : Int):=by omega
   have j7 : (j : Int) < (ws.length : Int):=by omega
   have hx:=fun w (h : Below wr.heap.size wr w) => Field.bkeep h (hI.out j x j2)
   have HX:=Lib.hid hx
   have HJ3:=Lib.hid j3
   clear j2 j3 hx
   go_wp2_with fail
   refine (hce _).mono ?_
   rintro e w1 ⟨rfl, hb1⟩
   have d0:=Field.bkeep hb1 c0
   have d1:=Field.bkeep hb1 c1
   have d2:=Field.bkeep hb1 c2
   have d3:=Field.bkeep hb1 c3
   have d4:=Field.bkeep hb1 c4
   clear c0 c1 c2 c3 c4
   go_wp2_with fail
   refine (j5 _).mono ?_
   rintro e w2 ⟨rfl, hb2⟩
   have hb2:=hb1.trans (hb2.mono hb1.size)
   have ex:=HX.out w2 hb2
   have hdc:=ref_decode_any w2 x j4
   clear d0 d1 d2 d3 d4 hb1
   go_wp2_with fail
   refine hdc.mono ?_
   rintro e w3 ⟨rfl, hb3⟩
   have hb3:=hb2.trans (hb3.mono hb2.size)
   have hdz : (dec x).getD S.zero = decZ x:=rfl
   rw [hdz]
   generalize (dec x).isSome = isd at *
   generalize decZ x = y at *
   clear hdc ex hb2 hdz
   dsimp only
   go_step
   refine gl (.tuple #[y.val, .bool isd]) ?_
   refine gl y.val ?_
   refine gl (.bool isd) ?_
   refine gbox (ob:=.cells zero9 41) (Z:=zero9) (cs:=y.cells) (t:=41) 41 (.tmp 7) (.tmp 30) rfl ?_
   refine gl (.bool isd) ?_
   try simp only [Act.put, sA, sZ, sS]
   rw [setRow_new]
   have hb4 : Below wr.heap.size wr (w3.alloc (.cells y.cells 41)):=hb3.alloc hb3.size _
   have hy : RowAt (w3.alloc (.cells y.cells 41)) w3.heap.size y.cells 41:=heap_alloc_new w3 _
   have hs3:=hb3.size
   clear hb3
   generalize (w3.alloc (.cells y.cells 41)) = w4 at *
   generalize w3.heap.size = yb at *
   have hown4:=(hown.out.stable hb4.size (fun x hx => hb4.block x (hown.out.lt hx)))
   have hi:=HI.out
   go_upto_region 6 with (fail)
   refine wp_region_lit ?_
   refine gl (.slice a k cp) ?_
   refine grow hy 41 (.tmp 7) Tryz.underlying41 ?_
   try simp only [Act.put, sA, sZ, sS]
   refine wpList_build_s rfl (.tmp 33) rfl y rfl ?_
   try simp only [Act.put, sA, sZ, sS]
   refine Hp.wpList_append _ rfl (.tmp 32) (.tmp 34) 24 rfl 41 i0 S.zero.val 9 64 Tryz.underlying24 hi hz0 hz1 hz2 rfl (by decide) (.slice a k cp) k (flatS (ds.take k)) rfl (hown4.alloc _) ⟨w4.heap.size, 0, none⟩ 1 1 y.cells.toList rfl rfl (s_new w4 y) (s_one y) ?c3 ?c4 ?_
   case c3 => unfold maxLen; omega
   case c4 => omega
   intro a' cn w9 hown' hfp' hch
   have hbn : Below w4.heap.size w4 (w4.alloc (.cells y.cells 41)):=(Below.refl _ _).alloc (Nat.le_refl _) _
   have hb9 : Below (W.heap.size + 1) wr w9:=(hb4.trans (hbn.mono hb4.size)).mono (by have:=(hrw.out).lt; omega) |>.trans (hch.below (B:=W.heap.size + 1) (by have:=(hrw.out).lt; have:=hb4.size; have:=hbn.size; omega) (fun q hq => hfp.out q hq))
   have hx9 : flatS (ds.take k) ++ y.cells.toList = flatS (ds.take (k + 1)):=by rw [← flatS_add, List.take_add_one, HJ3.out]; rfl
   rw [hx9] at hown'
   have HB9:=Lib.hid (hB.out.trans (hb9.mono (Nat.le_succ _)))
   have HO9:=Lib.hid hown'
   have HR9:=Lib.hid (show RowAt w9 W.heap.size (Ae cw N cst cwa cu) 30 from (hb9.block W.heap.size (Nat.lt_succ_self _)).trans hrw.out)
   have HI9:=Lib.hid (show IntsB w9 g o ws from fun q z hz => (World.cell?_of_block (w:=wr) (hb9.block g (by omega))).trans (hI.out q z hz))
   have HF9:=Lib.hid (show ∀ x, Fp (.slice a' (k + 1) cn) x → W.heap.size + 1 ≤ x from fun q hq => (hfp' q hq).elim (hfp.out q) (fun h => by have:=(hrw.out).lt; have:=hb4.size; have:=hbn.size; omega))
   clear hb9 hown' hx9 hbn hb4 hown4 hch hfp' hy hi hB hrw hI hfp hown HX HJ3
   dsimp only
   go_wp2_with fail
   go_roundw
   case rel => exact ⟨k + 1, by omega, by go_num, HO9, HF9, HB9, HR9, HI9⟩
   case measure => simp [intOf]; omega
  ·have hke : k = N:=by omega
   subst hke
   have k1 : ¬ (k : Int) < k:=by omega
   go_wp2_with fail
   go_ret
   have ho:=hown.out
   have hl : ds.take k = ds:=List.take_of_length_le (by omega)
   rw [hl] at ho
   exact ⟨a, cp, by rw [hdl]; rfl, slotsIn_own ho hdl, hB.out⟩
theorem int_info : ∃ i0, Tryz.prog.info? 3 = some i0 ∧ i0.zero = some (.i 0) ∧ i0.size = 1 ∧ i0.bytes = 8:=by
 have h : (Tryz.prog.info? 3).map (fun i => (i.zero, i.size, i.bytes)) = some (some (.i 0), 1, 8):=by kernel_rfl
 cases hi : Tryz.prog.info? 3 with
 | none => rw [hi] at h; cases h
 | some i =>
  rw [hi] at h
  simp only [Option.map_some, Option.some.injEq, Prod.mk.injEq] at h
  exact ⟨i, rfl, h.1, h.2.1, h.2.2⟩
theorem i_fill (x : Int) : Instr.fill (fun i => some (i * 1, 1)) ((Array.range (1 * 1)).map ((Value.int .i64 0).cells[· % (Value.int .i64 0).cells.size]!)) [(0, .i x)] = some #[.i x]:=by kernel_rfl
theorem build_i (w : World) (x : Int) : (Instr.buildSlice 31 1 #[(0, .i x)]).run Tryz.prog w = .ok (.slice (some ⟨w.heap.size, 0, none⟩) 1 1) (w.alloc (.cells #[.i x] 3)):=by
 obtain ⟨ie, hi, hz, hs, hb⟩:=int_info
 refine run_buildSlice w 31 3 1 #[(0, .i x)] #[.i x] ie (.i 0) Tryz.underlying31 hi hz (by rw [hs]; omega) (by rw [hs]; omega) ?_
 rw [hs]
 exact i_fill x
theorem wpList_build_i {ops : Array Oper} {rest : List Oper} {o : Oper} {a : Act} {w : World} {Q : Exit → Act → World → Prop} (hg : o.guard = none) (y : Operand) (ho : o.op = .buildSlice 31 1 #[(0, y)]) (x : Int) (hx : a.eval y = .i x)
  (h : wpList Tryz.prog ops Q rest (a.put o.dst (.slice (some ⟨w.heap.size, 0, none⟩) 1 1)) (w.alloc (.cells #[.i x] 3))) : wpList Tryz.prog ops Q (o :: rest) a w :=
 wpList_plain hg fun _ hK => by
  have e : ((#[(0, y)] : Array (Nat × Operand)).map fun (i, x) => (i, a.eval x)) = #[(0, .i x)]:=by simp [hx]
  unfold Oper.wp execOp
  simp only [ho]
  rw [e]
  simp only [Sem.run_bind, build_i w x, Result.andThen_ok]
  exact hK _ _ h
theorem wpList_push {ops : Array Oper} {rest : List Oper} {o1 o2 : Oper} {a : Act} {w : World} {Q : Exit → Act → World → Prop} (hg1 : o1.guard = none) (y : Operand) (ho1 : o1.op = .buildSlice 31 1 #[(0, y)]) (x : Int) (hx : a.eval y = .i x)
  (hg2 : o2.guard = none) (s z : Operand) (ho2 : o2.op = Op.call { callee:=Callee.builtin Builtin.append, args:=#[s, z], argTypes:=#[31, 31] })
  (v : Value) (n : Nat) (l : List Int) (hown : OwnS w v n 1 (l.map (Value.int .i64))) (hn : n ≤ 1000)
  (hs : (a.put o1.dst (.slice (some ⟨w.heap.size, 0, none⟩) 1 1)).eval s = v) (hz : (a.put o1.dst (.slice (some ⟨w.heap.size, 0, none⟩) 1 1)).eval z = .slice (some ⟨w.heap.size, 0, none⟩) 1 1)
  (hK : ∀ a' c' w', OwnS w' (.slice a' (n + 1) c') (n + 1) 1 ((l ++ [x]).map (Value.int .i64)) → (∀ k, Fp (.slice a' (n + 1) c') k → Fp v k ∨ w.heap.size ≤ k) → Chg (Fp v) w w' → wpList Tryz.prog ops Q rest ((a.put o1.dst (.slice (some ⟨w.heap.size, 0, none⟩) 1 1)).put o2.dst (.slice a' (n + 1) c')) w') :
  wpList Tryz.prog ops Q (o1 :: o2 :: rest) a w:=by
 obtain ⟨i0, hi, hz0, hz1, hz2⟩:=int_info
 refine wpList_build_i hg1 y ho1 x hx ?_
 have hal : Chg (Fp v) w (w.alloc (.cells #[.i x] 3)):=(Chg.refl _ _).alloc _
 have hrw : RowAt (w.alloc (.cells #[.i x] 3)) w.heap.size #[.i x] 3:=RowAt.new w _ _
 refine Hp.wpList_append _ hg2 s z 31 ho2 3 i0 (.i 0) 1 8 Tryz.underlying31 hi hz0 hz1 hz2 rfl (by decide) v n (l.map (Value.int .i64)) hs (hown.alloc _) ⟨w.heap.size, 0, none⟩ 1 1 [.i x] hz rfl ?_ ?_ ?_ ?_ ?_
 ·intro j u hu
  have he : (⟨w.heap.size, 0, none⟩ : Addr).add j = ⟨w.heap.size, j, none⟩:=by by_cases h0 : j = 0 <;> simp [Addr.add, h0]
  rw [he, RowAt.cell hrw j]
  simpa using hu
 ·intro u hu
  simp at hu
  subst hu
  rfl
 ·unfold maxLen; omega
 ·omega
 ·intro a' c' w' h1 h2 h3
  refine hK a' c' w' (by simpa using h1) (fun k hk => (h2 k hk).imp id fun h => by simp at h; omega) (hal.trans h3 (fun _ _ h => h))
end Go.Proofs.YteadpgiffpfmnaaGreatDoor.Cl
namespace Go.Proofs.YteadpgiffpfmnaaGreatDoor.Cl
open Go.RowKit Hp RowL Conf Tk
def rfun (rb : Nat) : Nat → Value
 | 0 => .func (.func 117) #[.pointer (some ⟨rb, 0, none⟩)] #[]
 | 1 => .func (.func 130) #[.pointer (some ⟨rb, 0, none⟩)] #[]
 | 2 => .func (.func 144) #[.pointer (some ⟨rb, 0, none⟩)] #[]
 | 3 => .func (.func 173) #[.pointer (some ⟨rb, 0, none⟩)] #[]
 | _ => .func (.func 129) #[.pointer (some ⟨rb, 0, none⟩)] #[]
def rcells (rb : Nat) (r : Rt) : Array Value:=#[.i r.cell, .i r.word, .i r.epoch, rfun rb r.st, .bool r.swapped, .bool r.done]
def RtAt (W : World) (rb : Nat) (r : Rt) : Prop:=RowAt W rb (rcells rb r) 127
section
variable {W : World} {rb : Nat} {r : Rt}
theorem RtAt.lt (h : RtAt W rb r) : rb < W.heap.size:=RowAt.lt h
theorem RtAt.below {W' : World} (h : RtAt W rb r) (hb : Below W.heap.size W W') : RtAt W' rb r:=(hb.block _ h.lt).trans h
theorem RtAt.chg {W' : World} {F : Nat → Prop} (h : RtAt W rb r) (hc : Chg F W W') (hF : ¬ F rb) : RtAt W' rb r:=(hc.block _ h.lt hF).trans h
theorem RtAt.cell (h : RtAt W rb r) (i : Nat) : W.cell? ⟨rb, i, none⟩ = (rcells rb r)[i]?:=RowAt.cell h i
theorem RtAt.frozen (h : RtAt W rb r) (i : Nat) : W.frozen? ⟨rb, i, none⟩ = false:=RowAt.frozen h i
theorem RtAt.setWord (h : RtAt W rb r) (x : Int) : RtAt (W.setCell ⟨rb, 1, none⟩ (.i x)) rb { r with word:=x }:=RowAt.setc h 1 _
theorem RtAt.setEpoch (h : RtAt W rb r) (x : Int) : RtAt (W.setCell ⟨rb, 2, none⟩ (.i x)) rb { r with epoch:=x }:=RowAt.setc h 2 _
theorem RtAt.setSt (h : RtAt W rb r) (k : Nat) : RtAt (W.setCell ⟨rb, 3, none⟩ (rfun rb k)) rb { r with st:=k }:=RowAt.setc h 3 _
theorem RtAt.setSwapped (h : RtAt W rb r) (b : Bool) : RtAt (W.setCell ⟨rb, 4, none⟩ (.bool b)) rb { r with swapped:=b }:=RowAt.setc h 4 _
theorem RtAt.setDone (h : RtAt W rb r) (b : Bool) : RtAt (W.setCell ⟨rb, 5, none⟩ (.bool b)) rb { r with done:=b }:=RowAt.setc h 5 _
end
theorem rend_any {W : World} {rb mb : Nat} {r : Rt} (h : RtAt W rb r) : Calls Tryz.prog 129 #[.pointer (some ⟨rb, 0, none⟩), .pointer (some ⟨mb, 0, none⟩)] W fun e w' => e = .returned (.bool true) ∧ RtAt w' rb r.end' ∧ Chg (fun k => k = rb) W w':=by
 have c3 : W.cell? ⟨rb, 3, none⟩ = some (rfun rb r.st):=h.cell 3
 have c5 : W.cell? ⟨rb, 5, none⟩ = some (.bool r.done):=h.cell 5
 have f3:=h.frozen 3
 have f5:=h.frozen 5
 have H:=Lib.hid h
 clear h
 go_enter Tryz.func129, Tryz.ntmps129
 go_wp2_with fail
 go_ret
 have h1 : Chg (fun k => k = rb) W (W.setCell ⟨rb, 5, none⟩ (.bool true)):=(Chg.refl _ _).setCell _ _ (fun _ => rfl)
 exact ⟨rfl, (H.out.setDone true).setSt 4, h1.setCell ⟨rb, 3, none⟩ _ (fun _ => rfl)⟩
theorem rnew_any (w : World) (c : Cf) (i : Nat) (word : Int) (hc : Small c) (hi : i < ns c) : Calls Tryz.prog 95 #[c.val, .i i, .i word] w fun e w' => ∃ rb, e = .returned (.pointer (some ⟨rb, 0, none⟩)) ∧ RtAt w' rb (Rt.new (sc c i) word) ∧ w.heap.size ≤ rb ∧ Below w.heap.size w w':=by
 have hsl:=fun W => slot_any W c i hc.w ⟨by have:=hc.s; unfold ns at hi; omega, hc.s.2⟩
 have hsc : (3 + 2 * c.workers + (i : Int)) = ((sc c i : Nat) : Int):=by have:=hc.w; unfold sc; omega
 simp only [hsc, Cf.val, Cf.cells] at hsl
 go_enter Tryz.func95, Tryz.ntmps95
 simp only [Cf.val, Cf.cells]
 go_wp2_with fail
 refine (hsl _).mono ?_
 rintro e w5 ⟨rfl, hb5⟩
 have hB : Below w.heap.size w w5:=((Below.refl _ _).alloc (Nat.le_refl _) _).trans (hb5.mono (by simp))
 clear hsl hb5
 go_wp2_with fail
 go_ret
 refine ⟨w5.heap.size, rfl, ?_, hB.size, ?_⟩
 ·exact RowAt.new w5 _ _
 ·exact hB.trans (((Below.refl _ _).alloc (Nat.le_refl _) _).mono hB.size)
def RPost (W : World) (rb mb wb : Nat) (tc : Int) (r : Bool × Rt × List Int × Nat) (e : Ending) (W' : World) : Prop :=
 e = .returned (.bool r.1) ∧ RtAt W' rb r.2.1 ∧ CAt W' mb wb r.2.2.1 (tc + r.2.2.2) ∧ Chg (fun k => k = rb ∨ cfp mb wb k) W W'
theorem CAt.far {W : World} {mb wb : Nat} {ws : List Int} {tc : Int} (h : CAt W mb wb ws tc) (g o : Nat) (v : Value) (h1 : mb ≠ g) (h2 : wb ≠ g) : CAt (W.setCell ⟨g, o, none⟩ v) mb wb ws tc :=
 h.stable (heap_setCell_other W ⟨g, o, none⟩ mb v h1) (heap_setCell_other W ⟨g, o, none⟩ wb v h2)
theorem rlook_any {W : World} {rb mb wb : Nat} {r : Rt} {ws : List Int} {tc : Int} (h : RtAt W rb r) (hm : CAt W mb wb ws tc) (ha : Apart rb mb wb) (ht : 0 ≤ tc ∧ tc ≤ 4000000000000000000) (hl : 3 ≤ ws.length) (hst : r.st = 1) :
  Calls Tryz.prog 130 #[.pointer (some ⟨rb, 0, none⟩), .pointer (some ⟨mb, 0, none⟩)] W (RPost W rb mb wb tc (r.step ws)):=by
 have hx : ws[2]? = some (rd ws 2):=by unfold rd; rw [List.getD_eq_getElem?_getD, List.getElem?_eq_getElem (by omega)]; rfl
 have hs : r.step ws = (false, { r with epoch:=rd ws 2, st:=2 }, ws, 1):=by unfold Rt.step; rw [hst]; rfl
 rw [hs]
 have hld : Calls Tryz.prog 90 #[.pointer (some ⟨mb, 0, none⟩), .i 2] W _:=load_any hm ht 2 _ hx
 have c2 : W.cell? ⟨rb, 2, none⟩ = some (.i r.epoch):=h.cell 2
 have c3 : W.cell? ⟨rb, 3, none⟩ = some (rfun rb r.st):=h.cell 3
 have f2:=h.frozen 2
 have f3:=h.frozen 3
 have H:=Lib.hid h
 clear h hm hs hx
 go_enter Tryz.func130, Tryz.ntmps130
 go_wp2_with fail
 refine hld.mono ?_
 rintro e w5 ⟨rfl, hm5, hc5⟩
 have hn : ¬ cfp mb wb rb:=fun e => e.elim ha.m ha.w
 have hr5:=H.out.chg hc5 hn
 have d2 : w5.cell? ⟨rb, 2, none⟩ = some (.i r.epoch):=hr5.cell 2
 have d3 : w5.cell? ⟨rb, 3, none⟩ = some (rfun rb r.st):=hr5.cell 3
 have g2:=hr5.frozen 2
 have g3:=hr5.frozen 3
 have R5:=Lib.hid hr5
 have M5:=Lib.hid hm5
 have C5:=Lib.hid hc5
 clear hld hr5 hm5 hc5 c2 c3 f2 f3
 go_wp2_with fail
 go_ret
 have h1 : Chg (fun k => k = rb ∨ cfp mb wb k) W (w5.setCell ⟨rb, 2, none⟩ (.i (rd ws 2))):=(C5.out.mono (fun _ _ h => .inr h)).setCell _ _ (fun _ => .inl rfl)
 exact ⟨rfl, (R5.out.setEpoch _).setSt 2, (M5.out.far rb 2 _ (fun e => ha.m e.symm) (fun e => ha.w e.symm)).far rb 3 _ (fun e => ha.m e.symm) (fun e => ha.w e.symm), h1.setCell ⟨rb, 3, none⟩ _ (fun _ => .inl rfl)⟩
theorem rgoon_any {W : World} {rb mb wb : Nat} {r : Rt} {ws : List Int} {tc : Int} (h : RtAt W rb r) (hm : CAt W mb wb ws tc) (ha : Apart rb mb wb) (ht : 0 ≤ tc ∧ tc ≤ 4000000000000000000) (hl : 3 ≤ ws.length) (hst : r.st = 3) :
  Calls Tryz.prog 173 #[.pointer (some ⟨rb, 0, none⟩), .pointer (some ⟨mb, 0, none⟩)] W (RPost W rb mb wb tc (r.step ws)):=by
 have hx : ws[2]? = some (rd ws 2):=by unfold rd; rw [List.getD_eq_getElem?_getD, List.getElem?_eq_getElem (by omega)]; rfl
 have hs : r.step ws = (true, r.end', ws.set 2 (wrap64 (rd ws 2 + 1)), 1):=by unfold Rt.step; rw [hst]; rfl
 rw [hs]
 have hld : Calls Tryz.prog 182 #[.pointer (some ⟨mb, 0, none⟩), .i 2, .i 1] W _:=add_any hm ht 2 _ hx 1
 have H:=Lib.hid h
 clear h hm hs hx
 go_enter Tryz.func173, Tryz.ntmps173
 go_wp2_with fail
 refine hld.mono ?_
 rintro e w5 ⟨rfl, hm5, hc5⟩
 have hn : ¬ cfp mb wb rb:=fun e => e.elim ha.m ha.w
 have hr5:=H.out.chg hc5 hn
 have hen:=rend_any (mb:=mb) hr5
 have M5:=Lib.hid hm5
 have C5:=Lib.hid hc5
 clear hld hr5 hm5 hc5
 go_wp2_with fail
 refine hen.mono ?_
 rintro e w6 ⟨rfl, hr6, hc6⟩
 have hP : RPost W rb mb wb tc (true, r.end', ws.set 2 (wrap64 (rd ws 2 + 1)), 1) (.returned (.bool true)) w6 :=
  ⟨rfl, hr6, M5.out.chg hc6 (fun e => ha.m e.symm) (fun e => ha.w e.symm), (C5.out.mono (fun _ _ h => .inr h)).trans hc6 (fun _ _ h => .inl h)⟩
 have HP:=Lib.hid hP
 clear hP hen hr6 hc6
 go_wp2_with fail
 go_ret
 exact HP.out
theorem rstep_swap {W : World} {rb mb wb : Nat} {r : Rt} {tc : Int} {q : Bool × Rt × List Int × Nat} (h : RtAt W rb r) (hst : r.st = 0)
  (hc : Calls Tryz.prog 117 #[.pointer (some ⟨rb, 0, none⟩), .pointer (some ⟨mb, 0, none⟩)] W (RPost W rb mb wb tc q)) :
  Calls Tryz.prog 96 #[.pointer (some ⟨rb, 0, none⟩), .pointer (some ⟨mb, 0, none⟩)] W (RPost W rb mb wb tc q):=by
 have c3 : W.cell? ⟨rb, 3, none⟩ = some (.func (.func 117) #[.pointer (some ⟨rb, 0, none⟩)] #[]):=by
  have c:=h.cell 3
  unfold rcells at c
  rw [hst] at c
  exact c
 clear h
 go_enter Tryz.func96, Tryz.ntmps96
 go_wp2_with fail
 refine hc.mono ?_
 rintro e w5 ⟨rfl, h2⟩
 have H2:=Lib.hid h2
 clear hc h2
 go_wp2_with fail
 go_ret
 exact ⟨rfl, H2.out⟩
theorem rstep_look {W : World} {rb mb wb : Nat} {r : Rt} {tc : Int} {q : Bool × Rt × List Int × Nat} (h : RtAt W rb r) (hst : r.st = 1)
  (hc : Calls Tryz.prog 130 #[.pointer (some ⟨rb, 0, none⟩), .pointer (some ⟨mb, 0, none⟩)] W (RPost W rb mb wb tc q)) :
  Calls Tryz.prog 96 #[.pointer (some ⟨rb, 0, none⟩), .pointer (some ⟨mb, 0, none⟩)] W (RPost W rb mb wb tc q):=by
 have c3 : W.cell? ⟨rb, 3, none⟩ = some (.func (.func 130) #[.pointer (some ⟨rb, 0, none⟩)] #[]):=by
  have c:=h.cell 3
  unfold rcells at c
  rw [hst] at c
  exact c
 clear h
 go_enter Tryz.func96, Tryz.ntmps96
 go_wp2_with fail
 refine hc.mono ?_
 rintro e w5 ⟨rfl, h2⟩
 have H2:=Lib.hid h2
 clear hc h2
 go_wp2_with fail
 go_ret
 exact ⟨rfl, H2.out⟩
theorem rstep_age {W : World} {rb mb wb : Nat} {r : Rt} {tc : Int} {q : Bool × Rt × List Int × Nat} (h : RtAt W rb r) (hst : r.st = 2)
  (hc : Calls Tryz.prog 144 #[.pointer (some ⟨rb, 0, none⟩), .pointer (some ⟨mb, 0, none⟩)] W (RPost W rb mb wb tc q)) :
  Calls Tryz.prog 96 #[.pointer (some ⟨rb, 0, none⟩), .pointer (some ⟨mb, 0, none⟩)] W (RPost W rb mb wb tc q):=by
 have c3 : W.cell? ⟨rb, 3, none⟩ = some (.func (.func 144) #[.pointer (some ⟨rb, 0, none⟩)] #[]):=by
  have c:=h.cell 3
  unfold rcells at c
  rw [hst] at c
  exact c
 clear h
 go_enter Tryz.func96, Tryz.ntmps96
 go_wp2_with fail
 refine hc.mono ?_
 rintro e w5 ⟨rfl, h2⟩
 have H2:=Lib.hid h2
 clear hc h2
 go_wp2_with fail
 go_ret
 exact ⟨rfl, H2.out⟩
theorem rstep_goOn {W : World} {rb mb wb : Nat} {r : Rt} {tc : Int} {q : Bool × Rt × List Int × Nat} (h : RtAt W rb r) (hst : r.st = 3)
  (hc : Calls Tryz.prog 173 #[.pointer (some ⟨rb, 0, none⟩), .pointer (some ⟨mb, 0, none⟩)] W (RPost W rb mb wb tc q)) :
  Calls Tryz.prog 96 #[.pointer (some ⟨rb, 0, none⟩), .pointer (some ⟨mb, 0, none⟩)] W (RPost W rb mb wb tc q):=by
 have c3 : W.cell? ⟨rb, 3, none⟩ = some (.func (.func 173) #[.pointer (some ⟨rb, 0, none⟩)] #[]):=by
  have c:=h.cell 3
  unfold rcells at c
  rw [hst] at c
  exact c
 clear h
 go_enter Tryz.func96, Tryz.ntmps96
 go_wp2_with fail
 refine hc.mono ?_
 rintro e w5 ⟨rfl, h2⟩
 have H2:=Lib.hid h2
 clear hc h2
 go_wp2_with fail
 go_ret
 exact ⟨rfl, H2.out⟩
theorem rstep_end {W : World} {rb mb wb : Nat} {r : Rt} {tc : Int} {q : Bool × Rt × List Int × Nat} (h : RtAt W rb r) (hst : r.st = 4)
  (hc : Calls Tryz.prog 129 #[.pointer (some ⟨rb, 0, none⟩), .pointer (some ⟨mb, 0, none⟩)] W (RPost W rb mb wb tc q)) :
  Calls Tryz.prog 96 #[.pointer (some ⟨rb, 0, none⟩), .pointer (some ⟨mb, 0, none⟩)] W (RPost W rb mb wb tc q):=by
 have c3 : W.cell? ⟨rb, 3, none⟩ = some (.func (.func 129) #[.pointer (some ⟨rb, 0, none⟩)] #[]):=by
  have c:=h.cell 3
  unfold rcells at c
  rw [hst] at c
  exact c
 clear h
 go_enter Tryz.func96, Tryz.ntmps96
 go_wp2_with fail
 refine hc.mono ?_
 rintro e w5 ⟨rfl, h2⟩
 have H2:=Lib.hid h2
 clear hc h2
 go_wp2_with fail
 go_ret
 exact ⟨rfl, H2.out⟩
end Go.Proofs.YteadpgiffpfmnaaGreatDoor.Cl
namespace Go.Proofs.YteadpgiffpfmnaaGreatDoor.Cl
open Go.RowKit Hp RowL Conf Tk Slot
theorem fstep_lookO {W : World} {fb mb wb : Nat} {c : Cf} {f : Tk.Fd} {ws : List Int} {tc x : Int} (hL : Laid W) (h : FdAt W fb c f) (hm : CAt W mb wb ws tc) (hc : Small c) (ha : Apart fb mb wb) (ht : 0 ≤ tc ∧ tc ≤ 4000000000000000000)
  (hk : f.kind = 0 ∨ f.kind = 1 ∨ f.kind = 2 ∨ f.kind = 3 ∨ f.kind = 4 ∨ f.kind = 5 ∨ f.kind = 6) (hf : f.found = false) (hat : f.at' < ns c) (hx : ws[sc c f.at']? = some x) :
  Calls Tryz.prog 115 #[.pointer (some ⟨fb, 0, none⟩), .pointer (some ⟨mb, 0, none⟩)] W (FPost W fb mb wb c ws tc (f.step c ws)):=by
 have hal:=fall_any h
 have hrd : rd ws (sc c f.at') = x:=by unfold rd; rw [List.getD_eq_getElem?_getD, hx]; rfl
 have hs : f.step c ws = if fitsW x f.kind f.own then (true, { f with word:=x, found:=true }, 1) else (decide (ns c ≤ f.at' + 1), { f with at':=f.at' + 1 }, 1):=by
  unfold Fd.step
  rw [if_neg (by rw [hf]; simp; exact hat), hrd]
 have HS:=Lib.hid hs
 have hd : decide (c.slots ≤ (f.at' : Int)) = false:=by
  have h2:=hc.s
  unfold ns at hat
  simp
  omega
 rw [hd] at hal
 have hF:=h
 have hcell:=fun i => h.cell i
 simp only [fcells, hf] at hcell
 have a0 : W.cell? ⟨fb, 0, none⟩ = some (.i c.workers):=hcell 0
 have a1 : W.cell? ⟨fb, 1, none⟩ = some (.i c.slots):=hcell 1
 have a2 : W.cell? ⟨fb, 2, none⟩ = some (.i c.streams):=hcell 2
 have a3 : W.cell? ⟨fb, 3, none⟩ = some (.i c.waiters):=hcell 3
 have a4 : W.cell? ⟨fb, 4, none⟩ = some (.i c.uses):=hcell 4
 have a5 : W.cell? ⟨fb, 5, none⟩ = some (.i f.kind):=hcell 5
 have a6 : W.cell? ⟨fb, 6, none⟩ = some (.i f.own):=hcell 6
 have a7 : W.cell? ⟨fb, 7, none⟩ = some (.i f.at'):=hcell 7
 have a8 : W.cell? ⟨fb, 8, none⟩ = some (.i f.word):=hcell 8
 have a9 : W.cell? ⟨fb, 9, none⟩ = some (.bool false):=hcell 9
 clear hcell
 have hE:=Lib.hid (show Laid W ∧ FdAt W fb c f ∧ CAt W mb wb ws tc from ⟨hL, h, hm⟩)
 clear hs hL h hm hF
 go_enter Tryz.func115, Tryz.ntmps115
 go_wp2_with fail
 refine hal.mono ?_
 rintro e w5 ⟨rfl, hb5⟩
 have hL5:=hE.out.1.stable (hb5.block 0 (hE.out.1.lt (by decide)))
 have hF5:=hE.out.2.1.below hb5
 have hM5:=hE.out.2.2.below hb5
 have b0 : w5.cell? ⟨fb, 0, none⟩ = some (.i c.workers):=Field.bkeep hb5 a0
 have b1 : w5.cell? ⟨fb, 1, none⟩ = some (.i c.slots):=Field.bkeep hb5 a1
 have b2 : w5.cell? ⟨fb, 2, none⟩ = some (.i c.streams):=Field.bkeep hb5 a2
 have b3 : w5.cell? ⟨fb, 3, none⟩ = some (.i c.waiters):=Field.bkeep hb5 a3
 have b4 : w5.cell? ⟨fb, 4, none⟩ = some (.i c.uses):=Field.bkeep hb5 a4
 have b5 : w5.cell? ⟨fb, 5, none⟩ = some (.i f.kind):=Field.bkeep hb5 a5
 have b6 : w5.cell? ⟨fb, 6, none⟩ = some (.i f.own):=Field.bkeep hb5 a6
 have b7 : w5.cell? ⟨fb, 7, none⟩ = some (.i f.at'):=Field.bkeep hb5 a7
 have b8 : w5.cell? ⟨fb, 8, none⟩ = some (.i f.word):=Field.bkeep hb5 a8
 have b9 : w5.cell? ⟨fb, 9, none⟩ = some (.bool false):=Field.bkeep hb5 a9
 clear hal a0 a1 a2 a3 a4 a5 a6 a7 a8 a9
 have hsl:=fun W => slot_any W c f.at' hc.w ⟨by unfold ns at hat; omega, hc.s.2⟩
 have hsc : (3 + 2 * c.workers + (f.at' : Int)) = ((sc c f.at' : Nat) : Int):=by have:=hc.w; unfold sc; omega
 simp only [hsc, Cf.val, Cf.cells] at hsl
 have hld:=fun W (h : CAt W mb wb ws tc) => load_any h ht (sc c f.at') x hx
 have H5:=Lib.hid (show Laid w5 ∧ FdAt w5 fb c f ∧ CAt w5 mb wb ws tc from ⟨hL5, hF5, hM5⟩)
 have hM5d:=hM5.below (Below.refl _ _).drew
 have HB5:=Lib.hid hb5
 clear hL5 hF5 hM5 hb5
 go_wp2_with fail
 go_region_held3 (fun w' => w'.cell? ⟨fb, 0, none⟩ = some (.i c.workers) ∧ w'.cell? ⟨fb, 1, none⟩ = some (.i c.slots) ∧ w'.cell? ⟨fb, 2, none⟩ = some (.i c.streams) ∧ w'.cell? ⟨fb, 3, none⟩ = some (.i c.waiters) ∧ w'.cell? ⟨fb, 4, none⟩ = some (.i c.uses) ∧ w'.cell? ⟨fb, 5, none⟩ = some (.i f.kind) ∧ w'.cell? ⟨fb, 6, none⟩ = some (.i f.own) ∧ w'.cell? ⟨fb, 7, none⟩ = some (.i f.at') ∧ w'.cell? ⟨fb, 8, none⟩ = some (.i f.word) ∧ w'.cell? ⟨fb, 9, none⟩ = some (.bool false)) (first | go_keep | exact ⟨by assumption, by assumption, by assumption, by assumption, by assumption, by assumption, by assumption, by assumption, by assumption, by assumption⟩)
  ((first
  | (go_at_call 108; refine (hsl _).mono ?_; rintro e w6 ⟨rfl, hb6⟩; have hM6:=hM5d.below hb6; have d0:=Field.bkeep hb6 b0; have d1:=Field.bkeep hb6 b1; have d2:=Field.bkeep hb6 b2; have d3:=Field.bkeep hb6 b3; have d4:=Field.bkeep hb6 b4; have d5:=Field.bkeep hb6 b5; have d6:=Field.bkeep hb6 b6; have d7:=Field.bkeep hb6 b7; have d8:=Field.bkeep hb6 b8; have d9:=Field.bkeep hb6 b9)
  | (go_at_call 90; refine (hld _ hM6).mono ?_; rintro e w7 ⟨rfl, hM7, hC7⟩; have k0:=(hC7.cell (p:=⟨fb, 0, none⟩) (World.block_lt_of_cell? _ _ d0) (fun e => e.elim ha.m ha.w)).trans d0; have k1:=(hC7.cell (p:=⟨fb, 1, none⟩) (World.block_lt_of_cell? _ _ d1) (fun e => e.elim ha.m ha.w)).trans d1; have k2:=(hC7.cell (p:=⟨fb, 2, none⟩) (World.block_lt_of_cell? _ _ d2) (fun e => e.elim ha.m ha.w)).trans d2; have k3:=(hC7.cell (p:=⟨fb, 3, none⟩) (World.block_lt_of_cell? _ _ d3) (fun e => e.elim ha.m ha.w)).trans d3; have k4:=(hC7.cell (p:=⟨fb, 4, none⟩) (World.block_lt_of_cell? _ _ d4) (fun e => e.elim ha.m ha.w)).trans d4; have k5:=(hC7.cell (p:=⟨fb, 5, none⟩) (World.block_lt_of_cell? _ _ d5) (fun e => e.elim ha.m ha.w)).trans d5; have k6:=(hC7.cell (p:=⟨fb, 6, none⟩) (World.block_lt_of_cell? _ _ d6) (fun e => e.elim ha.m ha.w)).trans d6; have k7:=(hC7.cell (p:=⟨fb, 7, none⟩) (World.block_lt_of_cell? _ _ d7) (fun e => e.elim ha.m ha.w)).trans d7; have k8:=(hC7.cell (p:=⟨fb, 8, none⟩) (World.block_lt_of_cell? _ _ d8) (fun e => e.elim ha.m ha.w)).trans d8; have k9:=(hC7.cell (p:=⟨fb, 9, none⟩) (World.block_lt_of_cell? _ _ d9) (fun e => e.elim ha.m ha.w)).trans d9)))
 have hL6 : Laid w6:=(show Laid w5.drew from H5.out.1).stable (hb6.block 0 ((show Laid w5.drew from H5.out.1).lt (by decide)))
 have hL7 : Laid w7:=hL6.stable (hC7.block 0 (hL6.lt (by decide)) (fun e => e.elim ha.m0 ha.w0))
 have hF7 : FdAt w7 fb c f:=((show FdAt w5.drew fb c f from H5.out.2.1).below hb6).chg hC7 (fun e => e.elim ha.m ha.w)
 have g5 : Chg (fun k => k = fb ∨ cfp mb wb k) W w5:=Chg.ofBelow HB5.out
 have g7 : Chg (fun k => k = fb ∨ cfp mb wb k) W w7:=(g5.drew.trans (Chg.ofBelow hb6) (fun _ _ h => h)).trans hC7 (fun _ _ h => .inr h)
 have hdc:=decode_val w7 x hL7
 have hns : f.at' + 1 ≤ 101:=by have:=hc.s; unfold ns at hat; omega
 have e7 : wrap64 ((f.at' : Int) + 1) = (f.at' : Int) + 1:=by unfold wrap64; omega
 have hdd : decide (c.slots ≤ ((f.at' + 1 : Nat) : Int)) = decide (ns c ≤ f.at' + 1):=by
  have:=hc.s
  unfold ns
  apply decide_eq_decide.mpr
  omega
 have hmiss : ∀ w9, FdAt w9 fb c f → CAt w9 mb wb ws (tc + 1) → Chg (fun k => k = fb ∨ cfp mb wb k) W w9 → FdAt (w9.setCell ⟨fb, 7, none⟩ (.i ((f.at' : Int) + 1))) fb c { f with at':=f.at' + 1 } ∧
   (∀ w10, Below (w9.setCell ⟨fb, 7, none⟩ (.i ((f.at' : Int) + 1))).heap.size (w9.setCell ⟨fb, 7, none⟩ (.i ((f.at' : Int) + 1))) w10 → fitsW x f.kind f.own = false → FPost W fb mb wb c ws tc (f.step c ws) (.returned (.bool (decide (c.slots ≤ ((f.at' + 1 : Nat) : Int))))) w10):=by
  intro w9 h1 h2 h3
  have q : FdAt (w9.setCell ⟨fb, 7, none⟩ (.i ((f.at' : Int) + 1))) fb c { f with at':=f.at' + 1 }:=h1.setAt (f.at' + 1)
  refine ⟨q, fun w10 hb hfw => ?_⟩
  have q2:=(h2.stable (heap_setCell_other w9 ⟨fb, 7, none⟩ mb (.i ((f.at' : Int) + 1)) (fun e => ha.m e.symm)) (heap_setCell_other w9 ⟨fb, 7, none⟩ wb (.i ((f.at' : Int) + 1)) (fun e => ha.w e.symm)))
  have q3 : Chg (fun k => k = fb ∨ cfp mb wb k) W (w9.setCell ⟨fb, 7, none⟩ (.i ((f.at' : Int) + 1))):=h3.setCell _ _ (fun _ => .inl rfl)
  rw [HS.out, hfw]
  exact ⟨by rw [hdd]; rfl, q.below hb, q2.below hb, q3.trans (Chg.ofBelow hb) (fun _ _ h => h)⟩
 have HM:=Lib.hid hmiss
 have H7:=Lib.hid (show FdAt w7 fb c f ∧ CAt w7 mb wb ws (tc + 1) ∧ Chg (fun k => k = fb ∨ cfp mb wb k) W w7 from ⟨hF7, hM7, g7⟩)
 have z7:=hF7.frozen 7
 have z8:=hF7.frozen 8
 have z9:=hF7.frozen 9
 clear hmiss hL6 hL7 hF7 hM7 hM6 hM5d hC7 hb6 g5 g7 hsl hld hsc d0 d1 d2 d3 d4 d5 d6 d7 d8 d9 b0 b1 b2 b3 b4 b5 b6 b7 b8 b9
 cases hdx : dec x with
 | none =>
  have hfw : fitsW x f.kind f.own = false:=by unfold fitsW; rw [hdx]
  rw [hdx] at hdc
  simp only [Option.getD_none, Option.isSome_none, S.val, S.cells, Life.S.zero] at hdc
  go_wp2_with fail
  refine hdc.mono ?_
  rintro e w8 ⟨rfl, hb8⟩
  have hbA : Below w7.heap.size w7 (w8.alloc (.cells Zs 41)).drew:=(hb8.trans ((Below.refl _ _).alloc (Nat.le_refl _) _ |>.mono hb8.size)).drew
  have n7:=Field.bkeep hbA k7
  have y7:=Field.bkeepz hbA k7 z7
  have hm9:=HM.out _ (H7.out.1.below hbA) (H7.out.2.1.below hbA) (H7.out.2.2.trans (Chg.ofBelow hbA) (fun _ _ h => h))
  have HM9:=Lib.hid hm9
  clear hdc hm9 hbA hb8
  go_wp2_with fail
  go_region
  go_wp2_with fail
  refine (fall_any HM9.out.1).mono ?_
  rintro e w10 ⟨rfl, hb10⟩
  have hP:=HM9.out.2 w10 hb10 hfw
  have HP:=Lib.hid hP
  clear hP hb10
  go_wp2_with fail
  go_ret
  exact HP.out
 | some s =>
  have hfw : fitsW x f.kind f.own = Find.fits s f.kind f.own:=by unfold fitsW; rw [hdx]
  have hfit:=fun W => Find.fits_all W s f.kind f.own hk
  rw [hdx] at hdc
  obtain ⟨st, ow, sm, br, ma, us, ge, ep, ve⟩:=s
  generalize Find.fits ⟨st, ow, sm, br, ma, us, ge, ep, ve⟩ f.kind f.own = fv at *
  simp only [Option.getD_some, Option.isSome_some, S.val, S.cells] at hdc hfit
  go_wp2_with fail
  refine hdc.mono ?_
  rintro e w8 ⟨rfl, hb8⟩
  have hbA : Below w7.heap.size w7 (w8.alloc (.cells (Aa st ow sm br ma us ge ep ve) 41)):=hb8.trans ((Below.refl _ _).alloc (Nat.le_refl _) _ |>.mono hb8.size)
  have n0:=Field.bkeep hbA k0
  have n1:=Field.bkeep hbA k1
  have n2:=Field.bkeep hbA k2
  have n3:=Field.bkeep hbA k3
  have n4:=Field.bkeep hbA k4
  have n5:=Field.bkeep hbA k5
  have n6:=Field.bkeep hbA k6
  have n7:=Field.bkeep hbA k7
  have n8:=Field.bkeep hbA k8
  have n9:=Field.bkeep hbA k9
  have p0 : (w8.alloc (.cells (Aa st ow sm br ma us ge ep ve) 41)).cell? ⟨w8.heap.size, 0, none⟩ = some (.i st):=by simp
  have p1 : (w8.alloc (.cells (Aa st ow sm br ma us ge ep ve) 41)).cell? ⟨w8.heap.size, 1, none⟩ = some (.i ow):=by simp
  have p2 : (w8.alloc (.cells (Aa st ow sm br ma us ge ep ve) 41)).cell? ⟨w8.heap.size, 2, none⟩ = some (.i sm):=by simp
  have p3 : (w8.alloc (.cells (Aa st ow sm br ma us ge ep ve) 41)).cell? ⟨w8.heap.size, 3, none⟩ = some (.bool br):=by simp
  have p4 : (w8.alloc (.cells (Aa st ow sm br ma us ge ep ve) 41)).cell? ⟨w8.heap.size, 4, none⟩ = some (.bool ma):=by simp
  have p5 : (w8.alloc (.cells (Aa st ow sm br ma us ge ep ve) 41)).cell? ⟨w8.heap.size, 5, none⟩ = some (.i us):=by simp
  have p6 : (w8.alloc (.cells (Aa st ow sm br ma us ge ep ve) 41)).cell? ⟨w8.heap.size, 6, none⟩ = some (.i ge):=by simp
  have p7 : (w8.alloc (.cells (Aa st ow sm br ma us ge ep ve) 41)).cell? ⟨w8.heap.size, 7, none⟩ = some (.i ep):=by simp
  have p8 : (w8.alloc (.cells (Aa st ow sm br ma us ge ep ve) 41)).cell? ⟨w8.heap.size, 8, none⟩ = some (.i ve):=by simp
  have y7:=Field.bkeepz hbA k7 z7
  have y8:=Field.bkeepz hbA k8 z8
  have y9:=Field.bkeepz hbA k9 z9
  have HA:=Lib.hid hbA
  clear hdc hbA hb8
  go_wp2_with fail
  generalize w8.alloc (.cells (Aa st ow sm br ma us ge ep ve) 41) = wz at *
  generalize w8.heap.size = sb at *
  go_region_held3 (fun w' => w'.cell? ⟨fb, 0, none⟩ = some (.i c.workers) ∧ w'.cell? ⟨fb, 1, none⟩ = some (.i c.slots) ∧ w'.cell? ⟨fb, 2, none⟩ = some (.i c.streams) ∧ w'.cell? ⟨fb, 3, none⟩ = some (.i c.waiters) ∧ w'.cell? ⟨fb, 4, none⟩ = some (.i c.uses) ∧ w'.cell? ⟨fb, 5, none⟩ = some (.i f.kind) ∧ w'.cell? ⟨fb, 6, none⟩ = some (.i f.own) ∧ w'.cell? ⟨fb, 7, none⟩ = some (.i f.at') ∧ w'.cell? ⟨fb, 8, none⟩ = some (.i f.word) ∧ w'.cell? ⟨fb, 9, none⟩ = some (.bool false) ∧ w'.cell? ⟨sb, 0, none⟩ = some (.i st) ∧ w'.cell? ⟨sb, 1, none⟩ = some (.i ow) ∧ w'.cell? ⟨sb, 2, none⟩ = some (.i sm) ∧ w'.cell? ⟨sb, 3, none⟩ = some (.bool br) ∧ w'.cell? ⟨sb, 4, none⟩ = some (.bool ma) ∧ w'.cell? ⟨sb, 5, none⟩ = some (.i us) ∧ w'.cell? ⟨sb, 6, none⟩ = some (.i ge) ∧ w'.cell? ⟨sb, 7, none⟩ = some (.i ep) ∧ w'.cell? ⟨sb, 8, none⟩ = some (.i ve)) (first | go_keep | exact ⟨by assumption, by assumption, by assumption, by assumption, by assumption, by assumption, by assumption, by assumption, by assumption, by assumption, by assumption, by assumption, by assumption, by assumption, by assumption, by assumption, by assumption, by assumption, by assumption⟩)
   ((first
   | (go_at_call 127; refine (hfit _).mono ?_; rintro e w9 ⟨rfl, hb9⟩; have r0:=Field.bkeep hb9 n0; have r1:=Field.bkeep hb9 n1; have r2:=Field.bkeep hb9 n2; have r3:=Field.bkeep hb9 n3; have r4:=Field.bkeep hb9 n4; have r5:=Field.bkeep hb9 n5; have r6:=Field.bkeep hb9 n6; have r7:=Field.bkeep hb9 n7; have r8:=Field.bkeep hb9 n8; have r9:=Field.bkeep hb9 n9; have s0:=Field.bkeep hb9 p0; have s1:=Field.bkeep hb9 p1; have s2:=Field.bkeep hb9 p2; have s3:=Field.bkeep hb9 p3; have s4:=Field.bkeep hb9 p4; have s5:=Field.bkeep hb9 p5; have s6:=Field.bkeep hb9 p6; have s7:=Field.bkeep hb9 p7; have s8:=Field.bkeep hb9 p8)))
  have v7:=Field.bkeepz hb9 n7 y7
  have v8:=Field.bkeepz hb9 n8 y8
  have v9:=Field.bkeepz hb9 n9 y9
  have hbB : Below w7.heap.size w7 w9:=HA.out.drew.trans (hb9.mono HA.out.size)
  have q1:=H7.out.1.below hbB
  have q2:=H7.out.2.1.below hbB
  have q3:=H7.out.2.2.trans (Chg.ofBelow hbB) (fun _ _ h => h)
  have hm9:=HM.out _ q1 q2 q3
  have HM9:=Lib.hid hm9
  have HQ:=Lib.hid (show FdAt w9 fb c f ∧ CAt w9 mb wb ws (tc + 1) ∧ Chg (fun k => k = fb ∨ cfp mb wb k) W w9 from ⟨q1, q2, q3⟩)
  clear hm9 hbB hb9 q1 q2 q3 hfit n0 n1 n2 n3 n4 n5 n6 n7 n8 n9 p0 p1 p2 p3 p4 p5 p6 p7 p8 s0 s1 s2 s3 s4 s5 s6 s7 s8 k0 k1 k2 k3 k4 k5 k6 k7 k8 k9 y7 y8 y9 z7 z8 z9
  cases fv
  ·go_wp2_with fail
   refine (fall_any HM9.out.1).mono ?_
   rintro e w10 ⟨rfl, hb10⟩
   have hP:=HM9.out.2 w10 hb10 hfw
   have HP:=Lib.hid hP
   clear hP hb10
   go_wp2_with fail
   go_ret
   exact HP.out
  ·go_wp2_with fail
   go_ret
   obtain ⟨q1, q2, q3⟩:=HQ.out
   have u1 : FdAt ((w9.setCell ⟨fb, 8, none⟩ (.i x)).setCell ⟨fb, 9, none⟩ (.bool true)) fb c { f with word:=x, found:=true }:=(q1.setWord x).setFound true
   have u2 : CAt ((w9.setCell ⟨fb, 8, none⟩ (.i x)).setCell ⟨fb, 9, none⟩ (.bool true)) mb wb ws (tc + 1):=(q2.stable (heap_setCell_other w9 ⟨fb, 8, none⟩ mb (.i x) (fun e => ha.m e.symm)) (heap_setCell_other w9 ⟨fb, 8, none⟩ wb (.i x) (fun e => ha.w e.symm))).stable (heap_setCell_other _ ⟨fb, 9, none⟩ mb (.bool true) (fun e => ha.m e.symm)) (heap_setCell_other _ ⟨fb, 9, none⟩ wb (.bool true) (fun e => ha.w e.symm))
   have u3 : Chg (fun k => k = fb ∨ cfp mb wb k) W (w9.setCell ⟨fb, 8, none⟩ (.i x)):=q3.setCell _ _ (fun _ => .inl rfl)
   rw [HS.out, hfw]
   exact ⟨rfl, u1, u2, u3.setCell _ _ (fun _ => .inl rfl)⟩
theorem fstep_all {W : World} {fb mb wb : Nat} {c : Conf.Cf} {f : Tk.Fd} {ws : List Int} {tc : Int} (hL : Laid W) (h : FdAt W fb c f) (hm : CAt W mb wb ws tc) (hc : Small c) (ha : Apart fb mb wb) (ht : 0 ≤ tc ∧ tc ≤ 4000000000000000000)
  (hf : Ty.FdOkY c f) (hlen : ws.length = 3 + 2 * c.workers.toNat + Tk.ns c) :
  Calls Tryz.prog 115 #[.pointer (some ⟨fb, 0, none⟩), .pointer (some ⟨mb, 0, none⟩)] W (FPost W fb mb wb c ws tc (f.step c ws)):=by
 by_cases hI : f.found = true ∨ Tk.ns c ≤ f.at'
 ·exact fstep_idle h hm hc hI
 ·simp only [not_or] at hI
  have hlt : Tk.sc c f.at' < ws.length:=by unfold Tk.sc; omega
  have hx : ws[Tk.sc c f.at']? = some ws[Tk.sc c f.at']:=List.getElem?_eq_getElem hlt
  exact fstep_lookO hL h hm hc ha ht (by have:=hf.1; omega) (by simpa using hI.1) (by omega) hx
end Go.Proofs.YteadpgiffpfmnaaGreatDoor.Cl
namespace Go.Proofs.YteadpgiffpfmnaaGreatDoor.Cl
open Go.RowKit Hp Slot RowL Life
def DoneY (d : Nat) : Prop:=d = 5 ∨ d = 6 ∨ d = 7 ∨ d = 8 ∨ d = 12
theorem DoneY.x {d : Nat} (h : DoneY d) : Tk.DoneX d:=by
 rcases h with rfl | rfl | rfl | rfl | rfl
 ·exact .inl (by simp [Mod.Done])
 ·exact .inr (.inl rfl)
 ·exact .inl (by simp [Mod.Done])
 ·exact .inr (.inr (.inl rfl))
 ·exact .inr (.inr (.inr (.inr (.inl rfl))))
theorem acty_any (d : Nat) (hd : DoneY d) (s : S) (own more : Int) : ∃ F, (∀ args w, (callFunc F args).run Tryz.prog w = .ok (.enter F args) w) ∧ acts[d]? = some (.func (.func F) #[] #[]) ∧
  (s.right = true → ∀ W, Calls Tryz.prog F #[cval s own more] W fun e W' => e = .returned (.tuple #[(Tk.actX d s own more).1.val, .bool (Tk.actX d s own more).2]) ∧ Below W.heap.size W W'):=by
 rcases hd with rfl | rfl | rfl | rfl | rfl
 ·exact ⟨_, enters_of Tryz.func153 (by kernel_rfl) rfl, rfl, fun h W => keep_any W s own more⟩
 ·exact ⟨_, enters_of Tryz.func154 (by kernel_rfl) rfl, rfl, fun h W => unkeep_any W s own more⟩
 ·exact ⟨_, enters_of Tryz.func155 (by kernel_rfl) rfl, rfl, fun h W => hold_any W s own more⟩
 ·exact ⟨_, enters_of Tryz.func156 (by kernel_rfl) rfl, rfl, fun h W => unhold_any W s own more⟩
 ·exact ⟨_, enters_of Tryz.func160 (by kernel_rfl) rfl, rfl, fun h W => clear_any W s own more⟩
theorem nexty_any (W : World) (s : S) (d : Nat) (own more : Int) (hd : DoneY d) (hr : s.right = true) (hL : Laid W) : Calls Tryz.prog 121 #[s.val, .i d, .i own, .i more] W fun e W' =>
  e = .returned (.tuple #[((Tk.nextX s d own more).getD S.zero).val, .bool (Tk.nextX s d own more).isSome]) ∧ Below W.heap.size W W':=by
 obtain ⟨F, h1, h2, h3⟩:=acty_any d hd s own more
 exact next_gen W s own more F d _ _ (by unfold DoneY at hd; omega) h1 h2 hL (Mod.right_wf hr) h3
end Go.Proofs.YteadpgiffpfmnaaGreatDoor.Cl
namespace Go.Proofs.YteadpgiffpfmnaaGreatDoor.Cl
open Go.RowKit Hp RowL Conf
theorem pin_any (w : World) (c : Cf) (i : Nat) (hw : 0 ≤ c.workers ∧ c.workers ≤ 8) (hi : (i : Int) < c.workers) : Calls Tryz.prog 91 #[c.val, .i i] w fun e w' => e = .returned (.i (3 + i)) ∧ Below w.heap.size w w':=by
 obtain ⟨cw, cs, cst, cwa, cu⟩:=c
 dsimp only at hw hi
 go_enter Tryz.func91, Tryz.ntmps91
 simp only [Cf.val, Cf.cells]
 have n0 : ¬ ((i : Int) < 0):=by omega
 have n1 : ¬ (cw ≤ (i : Int)):=by omega
 have n2 : decide (cw ≤ (i : Int)) = false:=by simpa using n1
 have e2 : wrap64 (3 + (i : Int)) = 3 + i:=by unfold wrap64; omega
 go_wp2_with fail
 go_ret
 exact ⟨by first | rfl | (simp <;> omega), (Below.refl _ _).alloc (Nat.le_refl _) _⟩
theorem grant_any (w : World) (c : Cf) (i : Nat) (hw : 0 ≤ c.workers ∧ c.workers ≤ 8) (hi : (i : Int) < c.workers) : Calls Tryz.prog 107 #[c.val, .i i] w fun e w' => e = .returned (.i (3 + c.workers + i)) ∧ Below w.heap.size w w':=by
 obtain ⟨cw, cs, cst, cwa, cu⟩:=c
 dsimp only at hw hi
 go_enter Tryz.func107, Tryz.ntmps107
 simp only [Cf.val, Cf.cells]
 have n0 : ¬ ((i : Int) < 0):=by omega
 have n1 : ¬ (cw ≤ (i : Int)):=by omega
 have n2 : decide (cw ≤ (i : Int)) = false:=by simpa using n1
 have e2 : wrap64 (3 + cw + (i : Int)) = 3 + cw + i:=by unfold wrap64; omega
 go_wp2_with fail
 go_ret
 exact ⟨by first | rfl | (simp <;> omega), (Below.refl _ _).alloc (Nat.le_refl _) _⟩
theorem pword_any (w : World) (e : Int) : Calls Tryz.prog 92 #[.i e] w fun r w' => r = .returned (.i (wrap64 (e + 1))) ∧ w = w':=by
 go_enter Tryz.func92, Tryz.ntmps92
 go_wp2
 go_ret
 exact ⟨rfl, rfl⟩
theorem pepoch_yes (w : World) (x : Int) (h : 1 ≤ x) (hx : x ≤ 9223372036854775807) : Calls Tryz.prog 120 #[.i x] w fun r w' => r = .returned (.tuple #[.i (x - 1), .bool true]) ∧ w = w':=by
 go_enter Tryz.func120, Tryz.ntmps120
 go_wp2
 go_ret2
 exact ⟨rfl, rfl⟩
theorem pepoch_no (w : World) (x : Int) (h : x < 1) : Calls Tryz.prog 120 #[.i x] w fun r w' => r = .returned (.tuple #[.i 0, .bool false]) ∧ w = w':=by
 go_enter Tryz.func120, Tryz.ntmps120
 go_wp2
 go_ret2
 exact ⟨rfl, rfl⟩
theorem pblocks_any (w : World) (x e : Int) (hx : x ≤ 9223372036854775807) : Calls Tryz.prog 100 #[.i x, .i e] w fun r w' => r = .returned (.bool (Ty.blocks x e)) ∧ w = w':=by
 by_cases h : 1 ≤ x
 ·by_cases h2 : x - 1 ≤ e
  ·go_enter Tryz.func100, Tryz.ntmps100
   go_wp2_with (go_at_call 120; refine (pepoch_yes _ _ h hx).mono ?_; rintro r w' ⟨rfl, rfl⟩)
   go_ret
   exact ⟨Base.ret_bool (by symm; simp [Ty.blocks]; omega), rfl⟩
  ·go_enter Tryz.func100, Tryz.ntmps100
   go_wp2_with (go_at_call 120; refine (pepoch_yes _ _ h hx).mono ?_; rintro r w' ⟨rfl, rfl⟩)
   go_ret
   exact ⟨Base.ret_bool (by unfold Ty.blocks; rw [decide_eq_false (by omega)]; simp; omega), rfl⟩
 ·go_enter Tryz.func100, Tryz.ntmps100
  go_wp2_with (go_at_call 120; refine (pepoch_no _ _ (by omega)).mono ?_; rintro r w' ⟨rfl, rfl⟩)
  go_ret
  exact ⟨Base.ret_bool (by unfold Ty.blocks; rw [decide_eq_false (by omega)]), rfl⟩
end Go.Proofs.YteadpgiffpfmnaaGreatDoor.Cl
namespace Go.Proofs.YteadpgiffpfmnaaGreatDoor.Mod
open Go.RowKit Hp Slot RowL Life Cl Go.ChangeShapes Go.WideShapes Go.Deep Go.Joins
section
variable {H : Type} {enc : TypeId × Value → H} {P : Program} {w : World} {base : Nat} {spare : Nat → Bool} {held : Bool}
theorem open_slice_fields {t e : TypeId} {fs : Array Field} {fuel : Nat} {cs : List Value} {x : DataW H × List MemPlace} (ht : P.underlying t = some (.slice e)) (he : P.underlying e = some (.struct fs))
  (hone : oneCellFields P fs = true) (hC : P.cellsOf e = fs.size) (h : DataW.trod enc P w base spare held fuel t cs = some x) :
  (cs = [.slice none 0 0]) ∨
  ∃ (a : Addr) (len cap m : Nat), cs = [.slice (some a) len cap] ∧ len ≤ cap ∧ cap ≤ maxLen ∧ len ≤ m ∧
   ∀ i, i < m → ∀ (j : Nat) (f : Field), fs[j]? = some f → ∃ (v : Value) (y : DataW H × List MemPlace) (n : Nat), w.cell? (a.add (i * fs.size + j)) = some v ∧ DataW.trod enc P w base spare held n f.type [v] = some y:=by
 rcases open_slice ht h with h0 | ⟨a, len, cap, m, n, D, Pl, hcs, hb, hl, hm, hmm, hx, hi⟩
 ·exact .inl h0.1
 ·refine .inr ⟨a, len, cap, m, hcs, hl, hm, by rw [hmm]; split <;> omega, fun i him j f hj => ?_⟩
  obtain ⟨cs', hc, ht'⟩:=hi i him
  rw [hC] at hc
  obtain ⟨ys, n', hn', hy, hlen, hyl, hf⟩:=DataW.trod_struct he ht'
  obtain ⟨_, hcl, hat⟩:=World.cells?_some hc
  obtain ⟨ho, hk⟩:=hone_of hone j f hj
  have hjl : j < fs.size:=(Array.getElem?_eq_some_iff.1 hj).1
  have hcell:=hat j hjl
  have hv : cs'[j]? = some (cs'[j]'(by omega)):=List.getElem?_eq_getElem (by omega)
  have h1:=hf j f hj
  rw [ho, hk] at h1
  have hone' : (cs'.drop j).take 1 = [cs'[j]'(by omega)]:=by
   rw [List.drop_eq_getElem_cons (by omega)]
   rfl
  rw [hone'] at h1
  have hys : ys[j]? = some (ys[j]'(by omega)):=List.getElem?_eq_getElem (by omega)
  refine ⟨_, _, n', ?_, h1.trans hys⟩
  rw [← Go.Deep.add_add, hcell, hv]
theorem open_agg_any {r : Reach} {b0 : Nat} {t : TypeId} {fs : Array Field} {v : Value} {d : DataW H} {p : List MemPlace} (hs : P.underlying t = some (.struct fs)) (hone : oneCellFields P fs = true) (hC : P.cellsOf t = fs.size)
  (hv : Value.okWide P w r b0 t v) (h : DataW.Trod enc P w base spare held t v d p) :
  ∃ cs : List Value, v = .agg ⟨cs⟩ ∧ cs.length = fs.size ∧ ∀ (j : Nat) (f : Field), fs[j]? = some f → ∃ (u : Value) (y : DataW H × List MemPlace) (n : Nat), cs[j]? = some u ∧ DataW.trod enc P w base spare held n f.type [u] = some y:=by
 obtain ⟨cs, rfl, hsz⟩:=okWide_struct hs hv
 obtain ⟨l⟩:=cs
 have hl : l.length = fs.size:=hsz.trans hC
 obtain ⟨fuel, hf⟩:=h
 obtain ⟨xs, n, _, hx, _, hlen, hg⟩:=DataW.trod_struct hs hf
 refine ⟨l, rfl, hl, fun j f hj => ?_⟩
 obtain ⟨ho, hk⟩:=hone_of hone j f hj
 have hjl : j < fs.size:=(Array.getElem?_eq_some_iff.1 hj).1
 have h1:=hg j f hj
 rw [ho, hk] at h1
 have hone' : ((Value.agg ⟨l⟩).cells.toList.drop j).take 1 = [l[j]'(by omega)]:=by
  show (l.drop j).take 1 = _
  rw [List.drop_eq_getElem_cons (by omega)]
  rfl
 rw [hone'] at h1
 have hxs : xs[j]? = some (xs[j]'(by omega)):=List.getElem?_eq_getElem (by omega)
 exact ⟨_, _, n, List.getElem?_eq_getElem (by omega), h1.trans hxs⟩
end
section
variable {H : Type} {enc : TypeId × Value → H} {w : World} {base : Nat} {spare : Nat → Bool} {held : Bool}
theorem u8_bd {n : Int} (h : (Lit.int .u8 n).wf = true) : 0 ≤ n ∧ n < 256:=by
 have:=Base.wf_u8_bounds h
 omega
theorem i64_bd {n : Int} (h : (Lit.int .i64 n).wf = true) : -9223372036854775808 ≤ n ∧ n ≤ 9223372036854775807:=Base.wf_i64_bounds h
theorem open_u8_at {cs : List Value} {fs : Array Field} {j : Nat} {f : Field} (h : ∀ (j : Nat) (f : Field), fs[j]? = some f → ∃ (u : Value) (y : DataW H × List MemPlace) (n : Nat), cs[j]? = some u ∧ DataW.trod enc Tryz.prog w base spare held n f.type [u] = some y) (hj : fs[j]? = some f) (ht : f.type = 5) : ∃ a : Int, cs[j]? = some (.int .u8 a) ∧ 0 ≤ a ∧ a < 256:=by
 obtain ⟨u, y, n, h1, h2⟩:=h j f hj
 rw [ht] at h2
 obtain ⟨k, e1, -, e3⟩:=DataW.trod_int Tryz.underlying5 h2
 cases e1
 exact ⟨k, h1, u8_bd e3⟩
theorem open_int_at {cs : List Value} {fs : Array Field} {j : Nat} {f : Field} (h : ∀ (j : Nat) (f : Field), fs[j]? = some f → ∃ (u : Value) (y : DataW H × List MemPlace) (n : Nat), cs[j]? = some u ∧ DataW.trod enc Tryz.prog w base spare held n f.type [u] = some y) (hj : fs[j]? = some f) (ht : f.type = 3) : ∃ a : Int, cs[j]? = some (.i a) ∧ -9223372036854775808 ≤ a ∧ a ≤ 9223372036854775807:=by
 obtain ⟨u, y, n, h1, h2⟩:=h j f hj
 rw [ht] at h2
 obtain ⟨k, e1, -, e3⟩:=DataW.trod_int Tryz.underlying3 h2
 cases e1
 exact ⟨k, h1, i64_bd e3⟩
theorem open_bool_at {cs : List Value} {fs : Array Field} {j : Nat} {f : Field} (h : ∀ (j : Nat) (f : Field), fs[j]? = some f → ∃ (u : Value) (y : DataW H × List MemPlace) (n : Nat), cs[j]? = some u ∧ DataW.trod enc Tryz.prog w base spare held n f.type [u] = some y) (hj : fs[j]? = some f) (ht : f.type = 4) : ∃ a : Bool, cs[j]? = some (.bool a):=by
 obtain ⟨u, y, n, h1, h2⟩:=h j f hj
 rw [ht] at h2
 obtain ⟨k, e1, -⟩:=DataW.trod_bool Tryz.underlying4 h2
 cases e1
 exact ⟨k, h1⟩
theorem list_of_get {α : Type} : ∀ {cs : List α} {xs : List α}, cs.length = xs.length → (∀ (j : Nat) x, xs[j]? = some x → cs[j]? = some x) → cs = xs:=fun {cs xs} hl h => List.ext_getElem? fun j => by
 cases hx : xs[j]? with
 | none => rw [List.getElem?_eq_none_iff] at hx ⊢; omega
 | some x => exact h j x hx
def numIn : Option Value → Int
 | some (.int _ n) => n
 | _ => 0
def boolIn : Option Value → Bool
 | some (.bool b) => b
 | _ => false
def slotIn (w : World) (a : Addr) (i : Nat) : S:=⟨numIn (w.cell? (a.add (i * 9 + 0))), numIn (w.cell? (a.add (i * 9 + 1))), numIn (w.cell? (a.add (i * 9 + 2))), boolIn (w.cell? (a.add (i * 9 + 3))), boolIn (w.cell? (a.add (i * 9 + 4))), numIn (w.cell? (a.add (i * 9 + 5))), numIn (w.cell? (a.add (i * 9 + 6))), numIn (w.cell? (a.add (i * 9 + 7))), numIn (w.cell? (a.add (i * 9 + 8)))⟩
theorem in_int {u : Value} {y : DataW H × List MemPlace} {q : Nat} {x : Option Value} (h1 : x = some u) (h2 : DataW.trod enc Tryz.prog w base spare held q 3 [u] = some y) : x = some (.i (numIn x)):=by
 obtain ⟨k, e1, -, -⟩:=DataW.trod_int Tryz.underlying3 h2
 cases e1
 rw [h1]
 rfl
theorem in_bool {u : Value} {y : DataW H × List MemPlace} {q : Nat} {x : Option Value} (h1 : x = some u) (h2 : DataW.trod enc Tryz.prog w base spare held q 4 [u] = some y) : x = some (.bool (boolIn x)):=by
 obtain ⟨k, e1, -⟩:=DataW.trod_bool Tryz.underlying4 h2
 cases e1
 rw [h1]
 rfl
theorem open_slots {fuel : Nat} {v : Value} {x : DataW H × List MemPlace} (h : DataW.trod enc Tryz.prog w base spare held fuel 24 [v] = some x) : ∃ a l c, v = .slice a (l : List S).length c ∧ SlotsIn w a l:=by
 rcases open_slice_fields Tryz.underlying24 Tryz.underlying41 (by kernel_rfl) (by kernel_rfl) h with hcs | ⟨x, n, cap, m, hcs, hl, hm, hmm, hi⟩
 ·simp at hcs
  subst hcs
  exact ⟨none, [], 0, rfl, fun k s hs => by simp at hs⟩
 ·simp at hcs
  subst hcs
  have key : ∀ i, i < n → ∀ (j : Nat) (v : Value), (slotIn w x i).cells[j]? = some v → w.cell? (x.add (i * 9 + j)) = some v:=fun i hin j v hv => by
   have hj : j < 9:=by have:=(Array.getElem?_eq_some_iff.1 hv).1; simpa [S.cells] using this
   rcases (by omega : j = 0 ∨ j = 1 ∨ j = 2 ∨ j = 3 ∨ j = 4 ∨ j = 5 ∨ j = 6 ∨ j = 7 ∨ j = 8) with rfl | rfl | rfl | rfl | rfl | rfl | rfl | rfl | rfl
   ·obtain ⟨u, y, q, h1, h2⟩:=hi i (by omega) 0 _ rfl
    exact (in_int (show w.cell? (x.add (i * 9 + 0)) = some u from h1) h2).trans hv
   ·obtain ⟨u, y, q, h1, h2⟩:=hi i (by omega) 1 _ rfl
    exact (in_int (show w.cell? (x.add (i * 9 + 1)) = some u from h1) h2).trans hv
   ·obtain ⟨u, y, q, h1, h2⟩:=hi i (by omega) 2 _ rfl
    exact (in_int (show w.cell? (x.add (i * 9 + 2)) = some u from h1) h2).trans hv
   ·obtain ⟨u, y, q, h1, h2⟩:=hi i (by omega) 3 _ rfl
    exact (in_bool (show w.cell? (x.add (i * 9 + 3)) = some u from h1) h2).trans hv
   ·obtain ⟨u, y, q, h1, h2⟩:=hi i (by omega) 4 _ rfl
    exact (in_bool (show w.cell? (x.add (i * 9 + 4)) = some u from h1) h2).trans hv
   ·obtain ⟨u, y, q, h1, h2⟩:=hi i (by omega) 5 _ rfl
    exact (in_int (show w.cell? (x.add (i * 9 + 5)) = some u from h1) h2).trans hv
   ·obtain ⟨u, y, q, h1, h2⟩:=hi i (by omega) 6 _ rfl
    exact (in_int (show w.cell? (x.add (i * 9 + 6)) = some u from h1) h2).trans hv
   ·obtain ⟨u, y, q, h1, h2⟩:=hi i (by omega) 7 _ rfl
    exact (in_int (show w.cell? (x.add (i * 9 + 7)) = some u from h1) h2).trans hv
   ·obtain ⟨u, y, q, h1, h2⟩:=hi i (by omega) 8 _ rfl
    exact (in_int (show w.cell? (x.add (i * 9 + 8)) = some u from h1) h2).trans hv
  by_cases hn : n = 0
  ·subst hn
   exact ⟨some x, [], cap, rfl, fun k s hs => by simp at hs⟩
  obtain ⟨g, off, rfl⟩:=Base.addr_plain (w:=w) (x:=x) (by have:=key 0 (by omega) 0 _ rfl; simpa using this)
  have hlen : ((List.range n).map (slotIn w ⟨g, off, none⟩)).length = n:=by simp
  refine ⟨some ⟨g, off, none⟩, (List.range n).map (slotIn w ⟨g, off, none⟩), cap, by rw [hlen], fun k s hs => ⟨g, off, rfl, fun j v hv => ?_⟩⟩
  have hin : k < n:=by have:=(List.getElem?_eq_some_iff.1 hs).1; rw [hlen] at this; exact this
  rw [List.getElem?_map, List.getElem?_range hin] at hs
  simp at hs
  subst hs
  have hk:=key k hin j v hv
  have he : (⟨g, off, none⟩ : Addr).add (k * 9 + j) = ⟨g, off + k * 9 + j, none⟩:=by simp [Addr.add, Nat.add_assoc]
  rwa [he] at hk
theorem open_bytes {fuel : Nat} {v : Value} {x : DataW H × List MemPlace} (h : DataW.trod enc Tryz.prog w base (fun _ => true) held fuel 25 [v] = some x) : ∃ a l c, v = .slice a (l : List Int).length c ∧ BytesIn w a l:=by
 rcases open_ints Tryz.underlying25 Tryz.underlying5 (by kernel_rfl) h with ⟨hcs, _⟩ | ⟨x, l, c, zs, hcs, _, hl, hm, hz, _, hcell, hwz⟩
 ·simp at hcs
  subst hcs
  exact ⟨none, [], 0, rfl, fun k s hs => by simp at hs⟩
 ·simp at hcs
  subst hcs
  obtain ⟨b, off, hw⟩:=Base.intsAt_some hl hm (by simpa using hz) hcell hwz
  refine ⟨some x, zs.take l, c, by rw [← hw.len_eq], fun k y hy => ?_⟩
  have hk : k < l:=by have:=(List.getElem?_eq_some_iff.1 hy).1; rw [← hw.len_eq] at this; exact this
  obtain ⟨z, h1, h2, h3, h4, h5⟩:=hw.get hk
  rw [hy] at h1
  cases h1
  exact ⟨u8_bd h2, b, off, h4, h3⟩
theorem c_given12 : Tryz.prog.cellsOf 23 = 5:=by kernel_rfl
theorem c_given14 : Tryz.prog.cellsOf 27 = 8:=by kernel_rfl
theorem c_slots : Tryz.prog.cellsOf 24 = 1:=by kernel_rfl
theorem c_bytes : Tryz.prog.cellsOf 25 = 1:=by kernel_rfl
theorem c_u8 : Tryz.prog.cellsOf 5 = 1:=by kernel_rfl
theorem u8_one {fuel : Nat} {v : Value} {x : DataW H × List MemPlace} (h : DataW.trod enc Tryz.prog w base (fun _ => true) held fuel 5 [v] = some x) : ∃ k : Int, v = .int .u8 k ∧ 0 ≤ k ∧ k < 256:=by
 obtain ⟨k, e1, -, e3⟩:=DataW.trod_int Tryz.underlying5 h
 cases e1
 exact ⟨k, rfl, u8_bd e3⟩
theorem open_gv {r : Reach} {b0 : Nat} {v : Value} {d : DataW H} {p : List MemPlace} (hv : Value.okWide Tryz.prog w r b0 27 v) (h : DataW.Trod enc Tryz.prog w base (fun _ => true) held 27 v d p) :
  ∃ g : Gv, v = g.val ∧ GvAt w g:=by
 obtain ⟨cs, rfl, hsz⟩:=okWide_struct Tryz.underlying27 hv
 obtain ⟨l⟩:=cs
 have hl : l.length = 8:=hsz.trans c_given14
 obtain ⟨fuel, hf⟩:=h
 obtain ⟨xs, n, _, hx, _, hlen, hg⟩:=DataW.trod_struct Tryz.underlying27 hf
 have hxl : xs.length = 4:=hlen
 match l, hl with
 | [c0, c1, c2, c3, c4, c5, c6, c7], _ =>
  have h0 : DataW.trod enc Tryz.prog w base (fun _ => true) held n 23 (([c0, c1, c2, c3, c4, c5, c6, c7].drop 0).take (Tryz.prog.cellsOf 23)) = xs[0]?:=hg 0 _ rfl
  have h1 : DataW.trod enc Tryz.prog w base (fun _ => true) held n 24 (([c0, c1, c2, c3, c4, c5, c6, c7].drop 5).take (Tryz.prog.cellsOf 24)) = xs[1]?:=hg 1 _ rfl
  have h2 : DataW.trod enc Tryz.prog w base (fun _ => true) held n 25 (([c0, c1, c2, c3, c4, c5, c6, c7].drop 6).take (Tryz.prog.cellsOf 25)) = xs[2]?:=hg 2 _ rfl
  have h3 : DataW.trod enc Tryz.prog w base (fun _ => true) held n 25 (([c0, c1, c2, c3, c4, c5, c6, c7].drop 7).take (Tryz.prog.cellsOf 25)) = xs[3]?:=hg 3 _ rfl
  rw [c_given12] at h0
  rw [c_slots] at h1
  rw [c_bytes] at h2 h3
  rw [List.getElem?_eq_getElem (by omega)] at h0 h1 h2 h3
  obtain ⟨sa, ss, sc, rfl, hS⟩:=open_slots (show DataW.trod enc Tryz.prog w base (fun _ => true) held n 24 [c5] = _ from h1)
  obtain ⟨fa, fs, fc, rfl, hF⟩:=open_bytes (show DataW.trod enc Tryz.prog w base (fun _ => true) held n 25 [c6] = _ from h2)
  obtain ⟨pa, ps, pc, rfl, hP⟩:=open_bytes (show DataW.trod enc Tryz.prog w base (fun _ => true) held n 25 [c7] = _ from h3)
  obtain ⟨ys, n', _, hy, _, hyl, hh⟩:=DataW.trod_struct Tryz.underlying23 (show DataW.trod enc Tryz.prog w base (fun _ => true) held n 23 [c0, c1, c2, c3, c4] = _ from h0)
  have hyl5 : ys.length = 5:=hyl
  have g0 : DataW.trod enc Tryz.prog w base (fun _ => true) held n' 5 (([c0, c1, c2, c3, c4].drop 0).take (Tryz.prog.cellsOf 5)) = ys[0]?:=hh 0 _ rfl
  have g1 : DataW.trod enc Tryz.prog w base (fun _ => true) held n' 5 (([c0, c1, c2, c3, c4].drop 1).take (Tryz.prog.cellsOf 5)) = ys[1]?:=hh 1 _ rfl
  have g2 : DataW.trod enc Tryz.prog w base (fun _ => true) held n' 5 (([c0, c1, c2, c3, c4].drop 2).take (Tryz.prog.cellsOf 5)) = ys[2]?:=hh 2 _ rfl
  have g3 : DataW.trod enc Tryz.prog w base (fun _ => true) held n' 5 (([c0, c1, c2, c3, c4].drop 3).take (Tryz.prog.cellsOf 5)) = ys[3]?:=hh 3 _ rfl
  have g4 : DataW.trod enc Tryz.prog w base (fun _ => true) held n' 5 (([c0, c1, c2, c3, c4].drop 4).take (Tryz.prog.cellsOf 5)) = ys[4]?:=hh 4 _ rfl
  rw [c_u8] at g0 g1 g2 g3 g4
  rw [List.getElem?_eq_getElem (by omega)] at g0 g1 g2 g3 g4
  obtain ⟨b0', rfl, w0⟩:=u8_one (show DataW.trod enc Tryz.prog w base (fun _ => true) held n' 5 [c0] = _ from g0)
  obtain ⟨b1', rfl, w1⟩:=u8_one (show DataW.trod enc Tryz.prog w base (fun _ => true) held n' 5 [c1] = _ from g1)
  obtain ⟨b2', rfl, w2⟩:=u8_one (show DataW.trod enc Tryz.prog w base (fun _ => true) held n' 5 [c2] = _ from g2)
  obtain ⟨b3', rfl, w3⟩:=u8_one (show DataW.trod enc Tryz.prog w base (fun _ => true) held n' 5 [c3] = _ from g3)
  obtain ⟨b4', rfl, w4⟩:=u8_one (show DataW.trod enc Tryz.prog w base (fun _ => true) held n' 5 [c4] = _ from g4)
  exact ⟨⟨b0', b1', b2', b3', b4', sa, sc, ss, fa, fc, fs, pa, pc, ps⟩, rfl, w0, w1, w2, w3, w4, hS, hF, hP⟩
end
end Go.Proofs.YteadpgiffpfmnaaGreatDoor.Mod
