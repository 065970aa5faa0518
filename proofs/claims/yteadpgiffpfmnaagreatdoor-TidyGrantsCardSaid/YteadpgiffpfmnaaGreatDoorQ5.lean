/- Part 5 of the walks and plain laws that the last text joins. -/
import Derived.Test.YteadpgiffpfmnaaGreatDoorQ4
set_option maxRecDepth 100000
set_option maxHeartbeats 16000000
set_option linter.unusedVariables false
set_option linter.unusedSimpArgs false
namespace Go.Proofs.YteadpgiffpfmnaaGreatDoor.Slot
open Go.RowKit Hp Life
theorem right_iff (s : S) : s.right = true ↔ ((0 ≤ s.state ∧ s.state ≤ 6) ∧ (0 ≤ s.own ∧ s.own ≤ 15) ∧ (0 ≤ s.streams ∧ s.streams ≤ 255) ∧ (0 ≤ s.uses ∧ s.uses ≤ 63) ∧ (0 ≤ s.gen ∧ s.gen ≤ 4095) ∧ (0 ≤ s.epoch ∧ s.epoch ≤ 4095) ∧ (0 ≤ s.version ∧ s.version ≤ 32767)) ∧
  (s.state = 3 ∨ s.streams = 0) ∧ (s.state = 2 ∨ s.marked = false) ∧ ((s.state = 2 ∨ s.state = 3 ∨ s.state = 4) ∨ (s.broken = false ∧ s.uses = 0)) ∧ (s.state = 6 ∨ s.epoch = 0) ∧ ((s.state ≠ 0 ∧ s.state ≠ 6) ∨ s.own = 0):=by
 have m3 : (Field.mx 3 : Int) = 7:=rfl
 have m4 : (Field.mx 4 : Int) = 15:=rfl
 have m8 : (Field.mx 8 : Int) = 255:=rfl
 have m1 : (Field.mx 1 : Int) = 1:=rfl
 have m6 : (Field.mx 6 : Int) = 63:=rfl
 have m12 : (Field.mx 12 : Int) = 4095:=rfl
 have m15 : (Field.mx 15 : Int) = 32767:=rfl
 have hb : ∀ b, 0 ≤ bit b ∧ bit b ≤ 1:=fun b => by cases b <;> decide
 obtain ⟨st, ow, sm, br, ma, us, ge, ep, ve⟩:=s
 have hb1:=hb br
 have hb2:=hb ma
 simp only [S.right, S.bare, Field.packOk, fields9, S.nums, Bool.and_eq_true, decide_eq_true_eq, m3, m4, m8, m6, m12, m15, m1, S.mk.injEq, true_and, and_true]
 constructor
 ·rintro ⟨h6, ⟨e1, e2, e3, e4, e5, e6⟩, h⟩
  refine ⟨by omega, ?_, ?_, ?_, ?_, ?_⟩
  ·by_cases h3 : st = 3
   ·exact .inl h3
   ·rw [if_neg h3] at e2; exact .inr e2
  ·by_cases h3 : st = 2
   ·exact .inl h3
   ·rw [if_neg h3] at e4; exact .inr e4
  ·by_cases h3 : st = 2 ∨ st = 3 ∨ st = 4
   ·exact .inl h3
   ·rw [if_neg h3] at e3 e5; exact .inr ⟨e3, e5⟩
  ·by_cases h3 : st = 6
   ·exact .inl h3
   ·rw [if_neg h3] at e6; exact .inr e6
  ·by_cases h3 : st = 0 ∨ st = 6
   ·rw [if_pos h3] at e1; exact .inr e1
   ·exact .inl (by omega)
 ·rintro ⟨h, a1, a2, a3, a4, a5⟩
  refine ⟨by omega, ⟨?_, ?_, ?_, ?_, ?_, ?_⟩, by omega⟩
  ·by_cases h3 : st = 0 ∨ st = 6
   ·rw [if_pos h3]; omega
   ·rw [if_neg h3]
  ·by_cases h3 : st = 3
   ·rw [if_pos h3]
   ·rw [if_neg h3]; omega
  ·by_cases h3 : st = 2 ∨ st = 3 ∨ st = 4
   ·rw [if_pos h3]
   ·rw [if_neg h3]; rcases a3 with a3 | a3; exact absurd a3 h3; exact a3.1
  ·by_cases h3 : st = 2
   ·rw [if_pos h3]
   ·rw [if_neg h3]; rcases a2 with a2 | a2; exact absurd a2 h3; exact a2
  ·by_cases h3 : st = 2 ∨ st = 3 ∨ st = 4
   ·rw [if_pos h3]
   ·rw [if_neg h3]; rcases a3 with a3 | a3; exact absurd a3 h3; exact a3.2
  ·by_cases h3 : st = 6
   ·rw [if_pos h3]
   ·rw [if_neg h3]; omega
def from0 (n m : Int) : Bool:=decide (0 ≤ n ∧ n ≤ m)
theorem from0_any (w : World) (n m : Int) : Calls Tryz.prog 59 #[.i n, .i m] w fun e w' => e = .returned (.bool (from0 n m)) ∧ w = w':=by
 go_enter Tryz.func59, Tryz.ntmps59
 by_cases h : 0 ≤ n
 ·go_wp2
  go_ret
  exact ⟨Base.ret_bool (by simp [from0, h]), rfl⟩
 ·go_wp2
  go_ret
  exact ⟨Base.ret_bool (by simp [from0]; omega), rfl⟩
def S.word (s : S) : Int:=s.state + 8 * s.own + 128 * s.streams + 32768 * bit s.broken + 65536 * bit s.marked + 131072 * s.uses + 8388608 * s.gen + 34359738368 * s.epoch + 140737488355328 * s.version
def cut (w : Int) : S:=⟨w % 8, w / 8 % 16, w / 128 % 256, w / 32768 % 2 == 1, w / 65536 % 2 == 1, w / 131072 % 64, w / 8388608 % 4096, w / 34359738368 % 4096, w / 140737488355328 % 32768⟩
def dec (w : Int) : Option S:=if (0 ≤ w ∧ w < 4611686018427387904) ∧ (cut w).right = true then some (cut w) else none
theorem bit_bd (b : Bool) : 0 ≤ bit b ∧ bit b ≤ 1:=by cases b <;> decide
theorem bit_mod (n : Int) : bit (n % 2 == 1) = n % 2:=by
 unfold bit
 rcases Int.emod_two_eq n with h | h <;> simp [h]
theorem mod_bit (b : Bool) : (bit b == 1) = b:=by cases b <;> rfl
theorem word_cut {w : Int} (h : 0 ≤ w) (h2 : w < 4611686018427387904) : (cut w).word = w:=by
 unfold S.word cut
 simp only [bit_mod]
 omega
theorem word_bd {s : S} (h : s.right = true) : 0 ≤ s.word ∧ s.word < 4611686018427387904:=by
 have hb:=(right_iff s).1 h
 have h1:=bit_bd s.broken
 have h2:=bit_bd s.marked
 unfold S.word
 omega
theorem cut_word {s : S} (h : s.right = true) : cut s.word = s:=by
 have hb:=(right_iff s).1 h
 clear h
 obtain ⟨st, ow, sm, br, ma, us, ge, ep, ve⟩:=s
 have h1:=bit_bd br
 have h2:=bit_bd ma
 simp only at hb
 obtain ⟨⟨b1, b2, b3, b4, b5, b6, b7⟩, -⟩:=hb
 unfold cut S.word
 simp only
 generalize hx : bit br = x at *
 generalize hy : bit ma = y at *
 have e1 : (st + 8 * ow + 128 * sm + 32768 * x + 65536 * y + 131072 * us + 8388608 * ge + 34359738368 * ep + 140737488355328 * ve) / 32768 % 2 = x:=by omega
 have e2 : (st + 8 * ow + 128 * sm + 32768 * x + 65536 * y + 131072 * us + 8388608 * ge + 34359738368 * ep + 140737488355328 * ve) / 65536 % 2 = y:=by omega
 rw [e1, e2, ← hx, ← hy, mod_bit, mod_bit, hx, hy]
 congr 1 <;> omega
theorem dec_word {s : S} (h : s.right = true) : dec s.word = some s:=by
 unfold dec
 rw [if_pos ⟨word_bd h, by rw [cut_word h]; exact h⟩, cut_word h]
theorem word_dec {w : Int} {s : S} (h : dec w = some s) : s.right = true ∧ s.word = w:=by
 unfold dec at h
 split at h
 ·rename_i hc
  simp only [Option.some.injEq] at h
  subst h
  exact ⟨hc.2, word_cut hc.1.1 hc.1.2⟩
 ·cases h
theorem zero_right : S.zero.right = true:=by kernel_rfl
theorem zero_word : S.zero.word = 0:=by kernel_rfl
def cutD (w : Int) : S:=⟨w % 8, w / 8 % 16, w / 128 % 256, w / 32768 % 2 == 1, w / 65536 % 2 == 1, w / 131072 % 64, w / 8388608 % 4096, w / 34359738368 % 4096, w / 140737488355328⟩
theorem dec_doc (w : Int) : dec w = if 0 ≤ w ∧ (cutD w).right = true then some (cutD w) else none:=by
 by_cases h : 0 ≤ w ∧ (cutD w).right = true
 ·have hb:=((right_iff _).1 h.2)
  have h2 : w / 140737488355328 ≤ 32767:=hb.1.2.2.2.2.2.2.2
  have e : cut w = cutD w:=by unfold cut cutD; congr 1; omega
  unfold dec
  rw [if_pos h, e, if_pos ⟨⟨h.1, by omega⟩, h.2⟩]
 ·rw [if_neg h]
  unfold dec
  rw [if_neg]
  rintro ⟨⟨h1, h2⟩, h3⟩
  have e : cut w = cutD w:=by unfold cut cutD; congr 1; omega
  exact h ⟨h1, by rw [← e]; exact h3⟩
end Go.Proofs.YteadpgiffpfmnaaGreatDoor.Slot
namespace Go.Proofs.YteadpgiffpfmnaaGreatDoor.Mod
open Go.RowKit Hp Slot RowL Life
def hasBit (n : Int) (i : Nat) : Bool:=n.toNat.testBit i
def lowFree (n : Int) (most : Int) : Option Nat:=(List.range (min most 8).toNat).find? fun i => !hasBit n i
def setBit (n : Int) (i : Nat) : Int:=((n.toNat ||| 2 ^ i : Nat) : Int)
def dropBit (n : Int) (i : Nat) : Int:=n - 2 ^ i
def act (d : Nat) (s : S) (own more : Int) : S × Bool :=
 match d with
 | 0 => («to» s own 1, s.state == 0)
 | 1 => (leased s own, s.state == 1 && s.own == own)
 | 2 => («to» s own 0, s.state == 1 && s.own == own)
 | 3 => (leased s own, s.state == 2 && !s.broken)
 | 4 => («to» s own 2, (s.state == 3 && s.own == own) && s.streams == 0)
 | 5 => («to» s own 4, s.state == 2 && !s.broken)
 | 7 => («to» s own 5, s.state == 0)
 | 9 => («to» s own 2, s.state == 2)
 | 10 => ({ s with marked:=true }, s.state == 2 && !s.marked)
 | 13 => ({ s with broken:=true }, !s.broken && (s.state == 2 || (s.state == 3 || s.state == 4)))
 | 14 => if (s.state == 3 && s.own == own) && !s.broken then (match lowFree s.streams more with | some i => ({ s with streams:=setBit s.streams i }, true) | none => (s, false)) else (s, false)
 | 15 => if (s.state == 3 && s.own == own) && decide (0 ≤ more ∧ more < 8) && hasBit s.streams more.toNat then ({ s with streams:=dropBit s.streams more.toNat }, true) else (s, false)
 | 16 => if s.state == 5 && s.own == own then («to» s own 1, true) else (leased s own, s.state == 4 && s.own == own)
 | _ => (s, false)
def Done (d : Nat) : Prop:=d = 0 ∨ d = 1 ∨ d = 2 ∨ d = 3 ∨ d = 4 ∨ d = 5 ∨ d = 7 ∨ d = 9 ∨ d = 10 ∨ d = 13 ∨ d = 14 ∨ d = 15 ∨ d = 16
theorem setBit_bd {n : Int} {k : Nat} (h : 0 ≤ n ∧ n ≤ 255) (hk : k < 8) : 0 ≤ setBit n k ∧ setBit n k ≤ 255:=by
 have h' : ∀ (m : Fin 256) (j : Fin 8), ((m.val ||| 2 ^ j.val : Nat) : Int) ≤ 255:=by decide +kernel
 obtain ⟨m, rfl⟩:=Int.eq_ofNat_of_zero_le h.1
 exact ⟨by unfold setBit; omega, h' ⟨m, by omega⟩ ⟨k, hk⟩⟩
theorem dropBit_bd {n : Int} {k : Nat} (h : 0 ≤ n ∧ n ≤ 255) (hk : k < 8) (hb : hasBit n k = true) : 0 ≤ dropBit n k ∧ dropBit n k ≤ 255:=by
 have h' : ∀ (m : Fin 256) (j : Fin 8), m.val.testBit j.val = true → 0 ≤ (m.val : Int) - 2 ^ j.val ∧ (m.val : Int) - 2 ^ j.val ≤ 255:=by decide +kernel
 obtain ⟨m, rfl⟩:=Int.eq_ofNat_of_zero_le h.1
 exact h' ⟨m, by omega⟩ ⟨k, hk⟩ hb
theorem lowFree_lt {n most : Int} {k : Nat} (h : lowFree n most = some k) : k < 8:=by
 unfold lowFree at h
 have:=List.mem_of_find?_eq_some h
 simp at this
 omega
theorem leased_right {s : S} {own : Int} (h : s.right = true) (ho : 0 ≤ own ∧ own ≤ 15) : ({ leased s own with version:=0 } : S).right = true:=by
 rw [right_iff] at h ⊢
 obtain ⟨⟨q1, q2, q3, q4, q5, q6, q7⟩, a1, a2, a3, a4, a5⟩:=h
 simp only [leased, «to»]
 simp
 omega
theorem to_right {s : S} {own k : Int} (h : s.right = true) (ho : 0 ≤ own ∧ own ≤ 15) (hk : k = 0 ∨ k = 1 ∨ k = 2 ∨ k = 4 ∨ k = 5) : ({ «to» s own k with version:=0 } : S).right = true:=by
 rw [right_iff] at h ⊢
 obtain ⟨⟨q1, q2, q3, q4, q5, q6, q7⟩, a1, a2, a3, a4, a5⟩:=h
 rcases hk with rfl | rfl | rfl | rfl | rfl <;> simp [«to»] <;> omega
theorem act_right {d : Nat} (hd : Done d) {s : S} {own more : Int} (h : s.right = true) (ho : 0 ≤ own ∧ own ≤ 15) (hb : (act d s own more).2 = true) : ({ (act d s own more).1 with version:=0 } : S).right = true:=by
 rcases hd with rfl | rfl | rfl | rfl | rfl | rfl | rfl | rfl | rfl | rfl | rfl | rfl | rfl
 ·exact to_right h ho (by simp)
 ·exact leased_right h ho
 ·exact to_right h ho (by simp)
 ·exact leased_right h ho
 ·exact to_right h ho (by simp)
 ·exact to_right h ho (by simp)
 ·exact to_right h ho (by simp)
 ·exact to_right h ho (by simp)
 ·simp only [act] at hb ⊢
  simp at hb
  rw [right_iff] at h ⊢
  simp only
  omega
 ·simp only [act] at hb ⊢
  simp at hb
  rw [right_iff] at h ⊢
  obtain ⟨⟨q1, q2, q3, q4, q5, q6, q7⟩, a1, a2, a3, a4, a5⟩:=h
  exact ⟨⟨q1, q2, q3, q4, q5, q6, by simp⟩, a1, a2, .inl hb.2, a4, a5⟩
 ·simp only [act] at hb ⊢
  split at hb
  ·rename_i hc
   rw [if_pos hc]
   simp at hc
   cases hf : lowFree s.streams more with
   | none => rw [hf] at hb; simp at hb
   | some k =>
    rw [right_iff] at h ⊢
    obtain ⟨⟨q1, q2, q3, q4, q5, q6, q7⟩, a1, a2, a3, a4, a5⟩:=h
    exact ⟨⟨q1, q2, setBit_bd q3 (lowFree_lt hf), q4, q5, q6, by simp⟩, .inl hc.1.1, a2, a3, a4, a5⟩
  ·simp at hb
 ·simp only [act] at hb ⊢
  split at hb
  ·rename_i hc
   rw [if_pos hc]
   simp at hc
   rw [right_iff] at h ⊢
   obtain ⟨⟨q1, q2, q3, q4, q5, q6, q7⟩, a1, a2, a3, a4, a5⟩:=h
   exact ⟨⟨q1, q2, dropBit_bd q3 (show more.toNat < 8 by omega) hc.2, q4, q5, q6, by simp⟩, .inl hc.1.1.1, a2, a3, a4, a5⟩
  ·simp at hb
 ·simp only [act] at hb ⊢
  split
  ·exact to_right h ho (by simp)
  ·exact leased_right h ho
theorem right_wf {s : S} (h : s.right = true) : s.wf:=by
 rw [right_iff] at h
 obtain ⟨⟨q1, q2, q3, q4, q5, q6, q7⟩, _⟩:=h
 intro x hx
 have hb : ∀ b : Bool, bit b = 0 ∨ bit b = 1:=by decide
 have h1:=hb s.broken
 have h2:=hb s.marked
 simp only [S.nums, List.mem_cons, List.not_mem_nil, or_false] at hx
 omega
end Go.Proofs.YteadpgiffpfmnaaGreatDoor.Mod
namespace Go.Proofs.YteadpgiffpfmnaaGreatDoor.Tk
open Go.RowKit Hp Slot RowL Life
def actX (d : Nat) (s : S) (own more : Int) : S × Bool :=
 match d with
 | 6 => («to» s own 2, s.state == 4)
 | 8 => («to» s own 0, s.state == 5)
 | 11 => ({ «to» s own 6 with epoch:=more }, decide (0 ≤ more ∧ more ≤ 4095) && (s.state == 2 || s.state == 3))
 | 12 => («to» s own 0, s.state == 6)
 | 17 => ({ «to» s own 6 with epoch:=more }, decide (0 ≤ more ∧ more ≤ 4095) && s.state == 6)
 | d => Mod.act d s own more
def nextX (s : S) (d : Nat) (own more : Int) : Option S:=nextOf s own (actX d s own more).1 (actX d s own more).2
def nextW (w : Int) (d : Nat) (own more : Int) : Option Int:=(dec w).bind fun s => (nextX s d own more).map S.word
def sc (c : Conf.Cf) (i : Nat) : Nat:=3 + 2 * c.workers.toNat + i
def ns (c : Conf.Cf) : Nat:=c.slots.toNat
def rd (ws : List Int) (i : Nat) : Int:=ws.getD i 0
def cas (ws : List Int) (i : Nat) (old new : Int) : Bool × List Int:=if rd ws i = old then (true, ws.set i new) else (false, ws)
structure Fd where
 kind : Int
 own : Int
 at' : Nat
 word : Int
 found : Bool
 deriving DecidableEq
def Fd.new (kind own : Int) : Fd:=⟨kind, own, 0, 0, false⟩
def fitsW (w kind own : Int) : Bool:=match dec w with | some s => Find.fits s kind own | none => false
def Fd.step (c : Conf.Cf) (f : Fd) (ws : List Int) : Bool × Fd × Nat :=
 if f.found ∨ ns c ≤ f.at' then (true, f, 0)
 else if fitsW (rd ws (sc c f.at')) f.kind f.own then (true, { f with word:=rd ws (sc c f.at'), found:=true }, 1)
 else (decide (ns c ≤ f.at' + 1), { f with at':=f.at' + 1 }, 1)
def Fd.again (f : Fd) : Fd:={ f with found:=false }
def Fd.go (f : Fd) : Fd:=if f.found then { f with found:=false, at':=f.at' + 1 } else f
structure Rt where
 cell : Nat
 word : Int
 epoch : Int
 st : Nat
 swapped : Bool
 done : Bool
 deriving DecidableEq
def Rt.new (cell : Nat) (word : Int) : Rt:=⟨cell, word, 0, 0, false, false⟩
def Rt.end' (r : Rt) : Rt:={ r with st:=4, done:=true }
def Rt.step (r : Rt) (ws : List Int) : Bool × Rt × List Int × Nat :=
 match r.st with
 | 0 => match nextW r.word 11 0 4095 with
  | some nw => if rd ws r.cell = r.word then (false, { r with word:=nw, swapped:=true, st:=1 }, ws.set r.cell nw, 1) else (true, r.end', ws, 1)
  | none => (true, r.end', ws, 0)
 | 1 => (false, { r with epoch:=rd ws 2, st:=2 }, ws, 1)
 | 2 => match nextW r.word 17 0 r.epoch with
  | some nw => (false, { r with st:=3 }, (cas ws r.cell r.word nw).2, 1)
  | none => (false, { r with st:=3 }, ws, 0)
 | 3 => (true, r.end', ws.set 2 (wrap64 (rd ws 2 + 1)), 1)
 | _ => (true, r.end', ws, 0)
instance : DecidableEq Conf.Cf:=fun a b => decidable_of_iff (a.workers = b.workers ∧ a.slots = b.slots ∧ a.streams = b.streams ∧ a.waiters = b.waiters ∧ a.uses = b.uses) (by cases a; cases b; simp)
structure Tk where
 cf : Conf.Cf
 w : Int
 st : Nat
 look : Option Fd
 i : Nat
 word : Int
 gen : Int
 passes : Bool
 rt : Option Rt
 e : Int
 deriving DecidableEq
def Tk.new (c : Conf.Cf) (w : Int) : Tk:=⟨c, w, 0, none, 0, 0, 0, false, none, 0⟩
def Tk.finish (t : Tk) (e : Int) : Tk:={ t with e:=e, st:=15 }
def Tk.search (t : Tk) (st : Nat) (kind own : Int) : Tk:={ t with look:=some (Fd.new kind own), st:=st }
def Tk.fd (t : Tk) : Fd:=t.look.getD (Fd.new 0 0)
def Tk.ret (t : Tk) : Rt:=t.rt.getD (Rt.new 0 0)
def Tk.seek (t : Tk) (ws : List Int) : Bool × Bool × Tk × Nat :=
 let r:=t.fd.step t.cf ws
 (r.2.1.found, r.1 && !r.2.1.found, { t with look:=some r.2.1 }, r.2.2)
def Tk.swap (t : Tk) (i : Nat) (word : Int) (d : Nat) (ws : List Int) : Bool × Tk × List Int × Nat :=
 match (dec word).bind fun s => nextX s d t.w 0 with
 | some s => if rd ws (sc t.cf i) = word then (true, { t with i:=i, word:=s.word, gen:=s.gen }, ws.set (sc t.cf i) s.word, 1) else (false, t, ws, 1)
 | none => (false, t, ws, 0)
def Tk.seize (t : Tk) (d : Nat) (ws : List Int) : Bool × Tk × List Int × Nat :=
 let r:=t.swap t.fd.at' t.fd.word d ws
 if r.1 then r else (false, { r.2.1 with look:=some r.2.1.fd.again }, r.2.2)
def Tk.step (t : Tk) (ws : List Int) (good : Bool) : Tk × List Int × Nat :=
 match t.st with
 | 0 => if rd ws 0 ≠ 0 then (t.finish 5, ws, 1) else (t.search 1 0 t.w, ws, 1)
 | 1 => let r:=t.seek ws; if r.1 then ({ r.2.2.1 with st:=2 }, ws, r.2.2.2) else if r.2.1 then (r.2.2.1.search 3 1 t.w, ws, r.2.2.2) else (r.2.2.1, ws, r.2.2.2)
 | 2 => let r:={ t with st:=1 }.seize 3 ws; if r.1 then ({ r.2.1 with st:=10 }, r.2.2) else r.2
 | 3 => let r:=t.seek ws; if r.1 then ({ r.2.2.1 with st:=4 }, ws, r.2.2.2) else if r.2.1 then (r.2.2.1.search 7 2 t.w, ws, r.2.2.2) else (r.2.2.1, ws, r.2.2.2)
 | 4 => let r:={ t with st:=3 }.seize 3 ws
  if r.1 then (match dec t.fd.word with
   | some s => if s.own ≠ t.w then ({ r.2.1 with passes:=false }.search 5 0 s.own, r.2.2) else ({ r.2.1 with st:=10 }, r.2.2)
   | none => ({ r.2.1 with st:=10 }, r.2.2)) else r.2
 | 5 => let r:=t.seek ws
  if r.1 && r.2.2.1.passes then ({ r.2.2.1 with passes:=false, look:=some r.2.2.1.fd.go }, ws, r.2.2.2)
  else if r.1 then ({ r.2.2.1 with passes:=true, st:=6 }, ws, r.2.2.2)
  else if r.2.1 then ({ r.2.2.1 with st:=10 }, ws, r.2.2.2) else (r.2.2.1, ws, r.2.2.2)
 | 6 => match nextW t.fd.word 9 t.w 0 with
  | some nw => ({ t with look:=some t.fd.go, st:=5 }, (cas ws (sc t.cf t.fd.at') t.fd.word nw).2, 1)
  | none => ({ t with look:=some t.fd.go, st:=5 }, ws, 0)
 | 7 => let r:=t.seek ws; if r.1 then ({ r.2.2.1 with st:=8 }, ws, r.2.2.2) else if r.2.1 then (r.2.2.1.finish 3, ws, r.2.2.2) else (r.2.2.1, ws, r.2.2.2)
 | 8 => let r:={ t with st:=7 }.seize 0 ws; if r.1 then ({ r.2.1 with st:=9 }, r.2.2) else r.2
 | 9 => let r:=t.swap t.i t.word (if good then 1 else 2) ws; if r.1 && good then ({ r.2.1 with st:=10 }, r.2.2) else (r.2.1.finish 6, r.2.2)
 | 10 => if rd ws 0 = 0 then (t.finish 0, ws, 1) else ({ t with st:=11 }, ws, 1)
 | 11 => let word:=rd ws (sc t.cf t.i)
  match dec word with
  | some s => if s.state = 3 ∧ s.own = t.w ∧ s.gen = t.gen then ({ t with rt:=some (Rt.new (sc t.cf t.i) word), st:=12 }, ws, 1) else (t.finish 5, ws, 1)
  | none => (t.finish 5, ws, 1)
 | 12 => let r:=t.ret.step ws
  if r.1 then (if r.2.1.swapped then ({ t with rt:=some r.2.1 }.finish 5, r.2.2) else ({ t with rt:=some r.2.1, st:=11 }, r.2.2)) else ({ t with rt:=some r.2.1 }, r.2.2)
 | 13 => ({ t with word:=rd ws (sc t.cf t.i), st:=14 }, ws, 1)
 | 14 => match (dec t.word).bind fun s => nextX s 16 t.w 0 with
  | none => (t.finish 5, ws, 0)
  | some s => let r:=t.swap t.i t.word 16 ws
   if r.1 then (if s.state = 3 then ({ r.2.1 with st:=10 }, r.2.2) else ({ r.2.1 with st:=9 }, r.2.2)) else ({ r.2.1 with st:=13 }, r.2.2)
 | _ => (t, ws, 0)
end Go.Proofs.YteadpgiffpfmnaaGreatDoor.Tk
namespace Go.Proofs.YteadpgiffpfmnaaGreatDoor.Slot
open Go.RowKit Hp
theorem right_bare {s : S} (h : s.right = true) : s = s.bare:=by
 unfold S.right at h
 simp only [Bool.and_eq_true, decide_eq_true_eq] at h
 exact h.2.1
theorem pw_word (s : S) : Field.pw fields9 s.nums 9 = s.word:=by
 simp [Field.pw, S.nums, fields9, S.word]
 omega
theorem right_in {s : S} (h : s.right = true) (k : Nat) (x : Nat × Nat) (v : Int) (h1 : fields9[k]? = some x) (h2 : s.nums[k]? = some v) : 0 ≤ v ∧ v ≤ (Field.mx x.2 : Int):=by
 have hb:=((right_iff s).1 h).1
 have b1:=bit_bd s.broken
 have b2:=bit_bd s.marked
 have hk : k < 9:=(List.getElem?_eq_some_iff.1 h1).1
 have : k = 0 ∨ k = 1 ∨ k = 2 ∨ k = 3 ∨ k = 4 ∨ k = 5 ∨ k = 6 ∨ k = 7 ∨ k = 8:=by omega
 rcases this with rfl | rfl | rfl | rfl | rfl | rfl | rfl | rfl | rfl <;> (simp [fields9, S.nums] at h1 h2; subst h1; subst h2; simp [Field.mx]; omega)
theorem right_asc {s : S} (h : s.right = true) (k : Nat) (x : Nat × Nat) (h1 : fields9[k]? = some x) : 0 ≤ Field.pw fields9 s.nums k ∧ Field.pw fields9 s.nums k < 2 ^ x.1:=by
 have hb:=((right_iff s).1 h).1
 have b1:=bit_bd s.broken
 have b2:=bit_bd s.marked
 have hk : k < 9:=(List.getElem?_eq_some_iff.1 h1).1
 have : k = 0 ∨ k = 1 ∨ k = 2 ∨ k = 3 ∨ k = 4 ∨ k = 5 ∨ k = 6 ∨ k = 7 ∨ k = 8:=by omega
 rcases this with rfl | rfl | rfl | rfl | rfl | rfl | rfl | rfl | rfl <;> (simp [fields9] at h1; subst h1; simp [Field.pw, S.nums, fields9]; try omega)
theorem encode_word (w : World) (s : S) (hL : Laid w) (hr : s.right = true) : Calls Tryz.prog 119 #[s.val] w fun e w' => e = .returned (.tuple #[.i s.word, .bool true]) ∧ Below w.heap.size w w':=by
 have h6 : ¬ 6 < s.state:=by have:=((right_iff s).1 hr).1.1; omega
 have hn : s = s.bare:=right_bare hr
 have hin:=right_in hr
 have hasc:=right_asc hr
 have hb:=fun w => bare_any w s
 have HS:=Lib.hid (pw_word s)
 have HI:=Lib.hid hin
 have HA:=Lib.hid hasc
 rw [← hn] at hb
 clear hn hr hin hasc
 obtain ⟨st, ow, sm, br, ma, us, ge, ep, ve⟩:=s
 have hq:=fun w => eq_slot w st ow sm br ma us ge ep ve st ow sm br ma us ge ep ve
 simp only [decide_true] at hq
 go_enter Tryz.func119, Tryz.ntmps119
 simp only [S.val, S.cells] at hb h6 ⊢
 ·skip
  have hg : decide (6 < st) = false:=by simpa using h6
  have hA:=(Below.refl w.heap.size w).alloc (Nat.le_refl _) (.cells (Aa st ow sm br ma us ge ep ve) 41)
  have hB:=hA.drew
  have hLA : Laid (w.alloc (.cells (Aa st ow sm br ma us ge ep ve) 41)):=hL.stable (hA.block 0 (hL.lt (by decide)))
  have c0 : (w.alloc (.cells (Aa st ow sm br ma us ge ep ve) 41)).cell? ⟨w.heap.size, 0, none⟩ = some (.i st):=by simp
  have c1 : (w.alloc (.cells (Aa st ow sm br ma us ge ep ve) 41)).cell? ⟨w.heap.size, 1, none⟩ = some (.i ow):=by simp
  have c2 : (w.alloc (.cells (Aa st ow sm br ma us ge ep ve) 41)).cell? ⟨w.heap.size, 2, none⟩ = some (.i sm):=by simp
  have c3 : (w.alloc (.cells (Aa st ow sm br ma us ge ep ve) 41)).cell? ⟨w.heap.size, 3, none⟩ = some (.bool br):=by simp
  have c4 : (w.alloc (.cells (Aa st ow sm br ma us ge ep ve) 41)).cell? ⟨w.heap.size, 4, none⟩ = some (.bool ma):=by simp
  have c5 : (w.alloc (.cells (Aa st ow sm br ma us ge ep ve) 41)).cell? ⟨w.heap.size, 5, none⟩ = some (.i us):=by simp
  have c6 : (w.alloc (.cells (Aa st ow sm br ma us ge ep ve) 41)).cell? ⟨w.heap.size, 6, none⟩ = some (.i ge):=by simp
  have c7 : (w.alloc (.cells (Aa st ow sm br ma us ge ep ve) 41)).cell? ⟨w.heap.size, 7, none⟩ = some (.i ep):=by simp
  have c8 : (w.alloc (.cells (Aa st ow sm br ma us ge ep ve) 41)).cell? ⟨w.heap.size, 8, none⟩ = some (.i ve):=by simp
  have hsz : w.heap.size < (w.alloc (.cells (Aa st ow sm br ma us ge ep ve) 41)).heap.size:=by simp
  go_wp2_with fail
  generalize w.alloc (.cells (Aa st ow sm br ma us ge ep ve) 41) = wa at *
  go_region_held3 (fun w' => w'.cell? ⟨w.heap.size, 0, none⟩ = some (.i st) ∧ w'.cell? ⟨w.heap.size, 1, none⟩ = some (.i ow) ∧ w'.cell? ⟨w.heap.size, 2, none⟩ = some (.i sm) ∧ w'.cell? ⟨w.heap.size, 3, none⟩ = some (.bool br) ∧ w'.cell? ⟨w.heap.size, 4, none⟩ = some (.bool ma) ∧ w'.cell? ⟨w.heap.size, 5, none⟩ = some (.i us) ∧ w'.cell? ⟨w.heap.size, 6, none⟩ = some (.i ge) ∧ w'.cell? ⟨w.heap.size, 7, none⟩ = some (.i ep) ∧ w'.cell? ⟨w.heap.size, 8, none⟩ = some (.i ve)) (first | go_keep | exact ⟨by assumption, by assumption, by assumption, by assumption, by assumption, by assumption, by assumption, by assumption, by assumption⟩)
   ((first
   | (go_at_call 133; refine (hb _).mono ?_; rintro e w5 ⟨rfl, hb5⟩; have hL5:=hLA.stable (hb5.block 0 (hLA.lt (by decide))); have hB5:=hB.trans (hb5.mono (Nat.le_of_lt hsz)); have d0:=Field.bkeep hb5 c0; have d1:=Field.bkeep hb5 c1; have d2:=Field.bkeep hb5 c2; have d3:=Field.bkeep hb5 c3; have d4:=Field.bkeep hb5 c4; have d5:=Field.bkeep hb5 c5; have d6:=Field.bkeep hb5 c6; have d7:=Field.bkeep hb5 c7; have d8:=Field.bkeep hb5 c8)))
  have hr9:=range9 hL5
  have hst:=store9
  clear c0 c1 c2 c3 c4 c5 c6 c7 c8 hb5 hq hb
  go_wp2_with (first
   | (refine wpList_load_mid rfl 132 (.global 0) rfl 0 0 rfl cs9 _ hr9 Tryz.underlying132 rfl (by kernel_rfl) ?_))
  have hA2 : Below w5.heap.size w5 (w5.alloc (.cells cs9.toArray 132)):=(Below.refl _ _).alloc (Nat.le_refl _) _
  have hF : Field.FAt (w5.alloc (.cells cs9.toArray 132)) w5.heap.size fields9:=fat9 (range_new _ _)
  have hB6:=hB5.trans (hA2.mono (hB5.size))
  have hlt5 : w5.heap.size < (w5.alloc (.cells cs9.toArray 132)).heap.size:=by simp
  have c0:=Field.bkeep hA2 d0
  have c1:=Field.bkeep hA2 d1
  have c2:=Field.bkeep hA2 d2
  have c3:=Field.bkeep hA2 d3
  have c4:=Field.bkeep hA2 d4
  have c5:=Field.bkeep hA2 d5
  have c6:=Field.bkeep hA2 d6
  have c7:=Field.bkeep hA2 d7
  have c8:=Field.bkeep hA2 d8
  generalize w5.alloc (.cells cs9.toArray 132) = wb at *
  generalize w5.heap.size = gb at *
  clear d0 d1 d2 d3 d4 d5 d6 d7 d8 hA2 hr9 hst
  have hsw:=hB6.size
  have hAl : Below wb.heap.size wb (wb.drew.alloc (.cells (Ad st ow sm (bit br) (bit ma) us ge ep ve) 3)):=(Below.refl _ _).drew.alloc (by simp) _
  have k0:=Field.bkeep hAl c0
  have k1:=Field.bkeep hAl c1
  have k2:=Field.bkeep hAl c2
  have k3:=Field.bkeep hAl c3
  have k4:=Field.bkeep hAl c4
  have k5:=Field.bkeep hAl c5
  have k6:=Field.bkeep hAl c6
  have k7:=Field.bkeep hAl c7
  have k8:=Field.bkeep hAl c8
  have hpk:=Field.pack_val (wb.drew.alloc (.cells (Ad st ow sm (bit br) (bit ma) us ge ep ve) 3)) gb fields9 wb.heap.size 0 9 (S.nums ⟨st, ow, sm, br, ma, us, ge, ep, ve⟩) (by decide) (hF.stable (Below.heap_alloc _ _ _ hlt5)) (by simp; omega) fields9_R fields9_D (nums_new wb.drew ⟨st, ow, sm, br, ma, us, ge, ep, ve⟩ _) rfl HI.out HA.out
  go_region_held3 (fun w' => w'.cell? ⟨w.heap.size, 0, none⟩ = some (.i st) ∧ w'.cell? ⟨w.heap.size, 1, none⟩ = some (.i ow) ∧ w'.cell? ⟨w.heap.size, 2, none⟩ = some (.i sm) ∧ w'.cell? ⟨w.heap.size, 3, none⟩ = some (.bool br) ∧ w'.cell? ⟨w.heap.size, 4, none⟩ = some (.bool ma) ∧ w'.cell? ⟨w.heap.size, 5, none⟩ = some (.i us) ∧ w'.cell? ⟨w.heap.size, 6, none⟩ = some (.i ge) ∧ w'.cell? ⟨w.heap.size, 7, none⟩ = some (.i ep) ∧ w'.cell? ⟨w.heap.size, 8, none⟩ = some (.i ve)) (first | go_keep | exact ⟨by assumption, by assumption, by assumption, by assumption, by assumption, by assumption, by assumption, by assumption, by assumption⟩)
   ((first
   | (go_at_call 135; refine (bit_any _ br).mono ?_; rintro e w6 ⟨rfl, rfl⟩)
   | (go_at_call 135; refine (bit_any _ ma).mono ?_; rintro e w6 ⟨rfl, rfl⟩)
   | (go_at_call 134; refine hpk.mono ?_; rintro e w7 ⟨rfl, hb7⟩; have m0:=Field.bkeep hb7 k0; have m1:=Field.bkeep hb7 k1; have m2:=Field.bkeep hb7 k2; have m3:=Field.bkeep hb7 k3; have m4:=Field.bkeep hb7 k4; have m5:=Field.bkeep hb7 k5; have m6:=Field.bkeep hb7 k6; have m7:=Field.bkeep hb7 k7; have m8:=Field.bkeep hb7 k8)))
  have hB7:=hB6.trans ((hAl.trans (hb7.mono hAl.size)).mono hsw)
  clear k0 m0 c0 k1 m1 c1 k2 m2 c2 k3 m3 c3 k4 m4 c4 k5 m5 c5 k6 m6 c6 k7 m7 c7 k8 m8 c8 hb7 hpk
  go_wp2_with fail
  go_ret2
  exact ⟨by rw [← HS.out]; rfl, hB7⟩
end Go.Proofs.YteadpgiffpfmnaaGreatDoor.Slot
