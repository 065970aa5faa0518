/- Part 19 of the walks and plain laws that the last text joins. -/
import Derived.Test.YtpmkgddjgebojaaGreatDoorE9
import Derived.Test.YtpmkgddjgebojaaGreatDoorE18
set_option maxRecDepth 100000
set_option maxHeartbeats 16000000
set_option linter.unusedVariables false
set_option linter.unusedSimpArgs false
namespace Go.Proofs.YtpmkgddjgebojaaGreatDoor.Mod
open Go.RowKit Hp Slot RowL Life
structure En where
 kind : Int
 who : Int
 ask : Ask
 n : Int
 good : Bool
def En.cells (x : En) : Array Value:=(Ab x.kind x.who x.ask.op x.ask.deadline x.ask.wait x.ask.force x.ask.slot x.ask.gen x.ask.stream x.n x.good)
abbrev En.val (x : En) : Value:=.agg x.cells
def En.ok (x : En) : Prop:=(0 ≤ x.ask.deadline ∧ x.ask.deadline ≤ 255) ∧ 0 ≤ x.n ∧ x.n ≤ 15
structure Tn where
 k : Int
 w : Int
 o : Int
 s : Int
 g : Int
 n : Int
def Tn.cells (t : Tn) : Array Value:=#[.int .u8 t.k, .int .u8 t.w, .int .u8 t.o, .int .u8 t.s, .int .u8 t.g, .int .u8 t.n]
abbrev Tn.val (t : Tn) : Value:=.agg t.cells
def Tn.ok (t : Tn) : Prop:=(0 ≤ t.k ∧ t.k < 256) ∧ (0 ≤ t.w ∧ t.w < 256) ∧ (0 ≤ t.o ∧ t.o < 256) ∧ (0 ≤ t.s ∧ t.s < 256) ∧ (0 ≤ t.g ∧ t.g < 256) ∧ (0 ≤ t.n ∧ t.n < 256)
def TurnsAt (W : World) (v : Value) (l : List Tn) : Prop :=
 ∃ a c, v = .slice a l.length c ∧ (∀ t ∈ l, t.ok) ∧ (l = [] ∨ ∃ g off, a = some ⟨g, off, none⟩ ∧ ∀ (i : Nat) (t : Tn), l[i]? = some t → ∀ (j : Nat) (u : Value), t.cells[j]? = some u → W.cell? ⟨g, off + i * 6 + j, none⟩ = some u)
theorem TurnsAt.below {W W' : World} {v : Value} {l : List Tn} (h : TurnsAt W v l) (hb : Below W.heap.size W W') : TurnsAt W' v l:=by
 obtain ⟨a, c, rfl, h1, h2⟩:=h
 refine ⟨a, c, rfl, h1, h2.imp id ?_⟩
 rintro ⟨g, off, rfl, h3⟩
 refine ⟨g, off, rfl, fun i t hi j u hu => ?_⟩
 have h4:=h3 i t hi j u hu
 exact (World.cell?_of_block (w:=W) (hb.block g (World.block_lt_of_cell? _ _ h4))).trans h4
def M.entry (m : M) (x : En) : Option Ev × M :=
 if x.kind = 0 then (if (m.ask x.who x.ask).1.2.1 then some (m.ask x.who x.ask).1.1 else none, (m.ask x.who x.ask).2)
 else if x.kind = 1 then (if (m.wake x.who).1.2 then some (m.wake x.who).1.1 else none, (m.wake x.who).2)
 else if x.kind = 2 then (none, m.tick x.n)
 else if x.kind = 3 then (none, (m.feed x.good).2)
 else if x.kind = 4 then (none, (m.break' x.ask.slot).2)
 else (none, m)
theorem Inv.entry {m : M} (h : Inv m) {x : En} (hx : x.ok) : Inv (m.entry x).2:=by
 unfold M.entry
 split
 ·exact h.ask _ _ hx.1.2
 split
 ·exact h.wake _
 split
 ·exact h.tick _
 split
 ·exact h.feed _
 split
 ·exact h.break _
 ·exact h
def told (evs : List Ev) (o : Option Ev) : List Ev:=evs ++ o.toList
theorem told_len (evs : List Ev) (o : Option Ev) : (told evs o).length ≤ evs.length + 1:=by cases o <;> simp [told]
inductive Played (c : Conf.Cf) : Nat → M → List Ev → Prop
 | new : Played c 0 (M.new c) []
 | step {n : Nat} {m : M} {evs : List Ev} (h : Played c n m evs) (x : En) (hx : x.ok) : Played c (n + 1) (m.entry x).2 (told evs (m.entry x).1)
theorem Played.inv {c : Conf.Cf} (hc : c.right = true) {n : Nat} {m : M} {evs : List Ev} (h : Played c n m evs) : Inv m:=by
 induction h with
 | new => exact Inv.new hc
 | step h x hx ih => exact ih.entry hx
theorem Played.len {c : Conf.Cf} {n : Nat} {m : M} {evs : List Ev} (h : Played c n m evs) : evs.length ≤ n:=by
 induction h with
 | new => simp
 | step h x hx ih => have:=told_len ‹List Ev› (M.entry ‹M› x).1; omega
theorem turnL_get {ss : List S} {i d : Nat} {own more : Int} {s : S} (hi : ss[i]? = some s) : (turnL ss i d own more)[i]? = some (step s d own more):=by
 unfold turnL
 rw [hi]
 have:=(List.getElem?_eq_some_iff.1 hi).1
 simp [this]
theorem m_dial {W : World} {p : Pl} {m : M} (h : MAt W p m) (i : Nat) (iz who : Int) (s : S) (hi : m.ss[i]? = some s) (hiz : iz = i) :
  Calls Tryz.prog 89 #[.pointer (some ⟨p.mb, 0, none⟩), .i iz, .i who] W (MPost W p (m.dial i who).1.val (m.dial i who).2):=by
 have hlt : p.mb < W.heap.size:=h.lt (.inl rfl)
 have c10:=h.hd.c10
 have hB : Below W.heap.size W (W.alloc (.cells ev0 36)):=(Below.refl _ _).alloc (Nat.le_refl _) _
 have r0 : Re W.heap.size (W.alloc (.cells ev0 36)) p (W.alloc (.cells ev0 36)) p m:=Re.begin h hB
 have e0 : ERow (W.alloc (.cells ev0 36)) W.heap.size:=⟨ev0, rfl, RowAt.new _ _ _⟩
 have hg1 : W.heap.size < (W.alloc (.cells ev0 36)).heap.size:=by simp
 have HS : RowKit.Hid (m.next.ss[i]? = some s):=Lib.hid hi
 have HIZ:=Lib.hid hiz
 have hn:=m_wnext (h.alloc (.cells ev0 36))
 have hfl:=fun W => failed_any W 6
 have hf6 : M.failed 6 = { Ev.zero with e:=6 }:=rfl
 unfold M.dial
 rw [← hf6] at hfl
 generalize M.failed 6 = x6 at *
 cases hg : m.good
 ·rw [hg] at hn
  simp only [Bool.false_eq_true, if_false]
  clear hg hf6 hi hiz
  go_enter Tryz.func89, Tryz.ntmps89
  go_wp2_with fail
  refine hn.mono ?_
  rintro e w1 hp
  obtain ⟨rfl, p1, r1, hc1⟩:=r0.post hp.post
  have e1:=e0.chg hc1 (r0.not (Nat.le_refl _) hg1)
  clear hp hn hc1 c10
  have ht:=m_turn' r1.at' i 2 iz 2 who 0 s HS.out HIZ.out rfl (by simp [Done])
  rw [r1.mb] at ht
  go_wp2_with fail
  refine ht.mono ?_
  rintro e w2 ⟨rfl, h2, hc2⟩
  have r2:=r1.slots h2 hc2
  have e2:=e1.chg hc2 (fun e => r1.not (Nat.le_refl _) hg1 (.inr (.inl e)))
  clear ht h2 hc2 r1 e1
  go_wp2_with fail
  refine (hfl _).mono ?_
  rintro e w3 ⟨rfl, hb3⟩
  have r3:=r2.below hb3
  have e3:=e2.below hb3
  have hst:=e3.store x6
  have hsz:=ev_size x6
  clear hfl hb3 r2 e2
  go_wp2_with fail
  refine bR1 W.heap.size (e3.set x6) Tryz.underlying36 ?_
  exact (r3.row (Nat.le_refl _) hg1 x6.cells).fin hB _
 ·rw [hg] at hn
  simp only [if_true]
  clear hg hf6 hi hiz hfl
  go_enter Tryz.func89, Tryz.ntmps89
  go_wp2_with fail
  refine hn.mono ?_
  rintro e w1 hp
  obtain ⟨rfl, p1, r1, hc1⟩:=r0.post hp.post
  have e1:=e0.chg hc1 (r0.not (Nat.le_refl _) hg1)
  clear hp hn hc1 c10
  have ht:=m_turn' r1.at' i 1 iz 1 who 0 s HS.out HIZ.out rfl (by simp [Done])
  rw [r1.mb] at ht
  go_wp2_with fail
  refine ht.mono ?_
  rintro e w2 ⟨rfl, h2, hc2⟩
  have r2:=r1.slots h2 hc2
  have e2:=e1.chg hc2 (fun e => r1.not (Nat.le_refl _) hg1 (.inr (.inl e)))
  have hle:=m_leased h2 i iz (step s 1 who 0) (turnL_get HS.out) HIZ.out
  rw [r1.mb] at hle
  clear ht h2 hc2 r1 e1
  generalize (m.next.turn i 1 who 0).leased i = x6 at *
  go_wp2_with fail
  refine hle.mono ?_
  rintro e w3 ⟨rfl, hb3⟩
  have r3:=r2.below hb3
  have e3:=e2.below hb3
  have hst:=e3.store x6
  have hsz:=ev_size x6
  clear hle hb3 r2 e2
  go_wp2_with fail
  refine bR1 W.heap.size (e3.set x6) Tryz.underlying36 ?_
  exact (r3.row (Nat.le_refl _) hg1 x6.cells).fin hB _
theorem bdrewN {B : Nat} {a w : World} (h : Below B a w) (n : Nat) : Below B a (w.drewN n):=⟨h.os, h.tape, h.output, h.size, h.block⟩
theorem m_owns {W : World} {p : Pl} {m : M} (h : MAt W p m) (who : Int) (a : Ask) :
  Calls Tryz.prog 96 #[.pointer (some ⟨p.mb, 0, none⟩), .i who, a.val] W fun e W' => e = .returned (.i (m.owns who a)) ∧ Below W.heap.size W W':=by
 have hlt : p.mb < W.heap.size:=h.lt (.inl rfl)
 have hls : p.sb < W.heap.size:=h.lt (.inr (.inl rfl))
 have c8:=h.hd.c8
 have c5:=h.hd.c5
 have hns:=h.ok.ns
 have HR : RowKit.Hid (m.owns who a = if m.closed = 2 then 5 else if a.slot < 0 ∨ (m.ss.length : Int) ≤ a.slot then 2
  else if (m.slot a.slot.toNat).state ≠ 3 ∨ (m.slot a.slot.toNat).own ≠ who ∨ (m.slot a.slot.toNat).gen ≠ a.gen then 2 else 0):=rfl
 generalize m.owns who a = R at *
 have HS : RowKit.Hid (∀ i s, m.ss[i]? = some s → m.slot i = s):=fun i s hi => M.slot_of hi
 have HG : RowKit.Hid (∀ i s, m.ss[i]? = some s → (∀ j v, (S.cells s)[j]? = some v → W.cell? ⟨p.sb, i * 9 + j, none⟩ = some v)):=fun i s hi => h.slots.1 i s hi
 obtain ⟨op, dl, wt, fo, sl, ge, st⟩:=a
 simp only [Ask.val, Ask.cells] at *
 have hB : Below W.heap.size W (W.alloc (.cells (Ad op dl wt fo sl ge st) 25)):=(Below.refl _ _).alloc (Nat.le_refl _) _
 by_cases h2 : m.closed = 2
 ·have h2' : (m.closed == 2) = true:=by simpa using h2
  have HR2 : RowKit.Hid (R = 5):=Lib.hid (by rw [HR.out, if_pos h2])
  clear h2 HR h
  go_enter Tryz.func96, Tryz.ntmps96
  go_wp2_with fail
  go_ret
  exact ⟨by rw [HR2.out]; rfl, hB⟩
 have h2' : (m.closed == 2) = false:=by simpa using h2
 by_cases h3 : sl < 0
 ·have h3' : decide (sl < 0) = true:=by simpa using h3
  have HR2 : RowKit.Hid (R = 2):=Lib.hid (by rw [HR.out, if_neg h2, if_pos (.inl h3)])
  clear h2 HR h h3
  go_enter Tryz.func96, Tryz.ntmps96
  go_wp2_with fail
  go_quiet (fail)
  go_wp2_with fail
  go_ret
  exact ⟨by rw [HR2.out]; rfl, bdrewN hB _⟩
 have h3' : decide (sl < 0) = false:=by simpa using h3
 obtain ⟨n, rfl⟩:=Int.eq_ofNat_of_zero_le (show 0 ≤ sl by omega)
 by_cases h4 : m.ss.length ≤ n
 ·have h4' : decide ((m.ss.length : Int) ≤ (n : Int)) = true:=by simp; omega
  have HR2 : RowKit.Hid (R = 2):=Lib.hid (by rw [HR.out, if_neg h2, if_pos (.inr (by omega))])
  clear h2 HR h h3
  go_enter Tryz.func96, Tryz.ntmps96
  go_wp2_with fail
  go_quiet (fail)
  go_wp2_with fail
  go_ret
  exact ⟨by rw [HR2.out]; rfl, bdrewN hB _⟩
 have h4' : decide ((m.ss.length : Int) ≤ (n : Int)) = false:=by simp; omega
 obtain ⟨s, hs⟩ : ∃ s, m.ss[n]? = some s:=⟨_, List.getElem?_eq_getElem (by omega)⟩
 have HR2 : RowKit.Hid (R = if s.state ≠ 3 ∨ s.own ≠ who ∨ s.gen ≠ ge then 2 else 0):=Lib.hid (by rw [HR.out, if_neg h2, if_neg (by omega)]; simp only [Int.toNat_natCast, HS.out n s hs])
 have hc:=HG.out n s hs
 have d0:=hc 0 _ rfl
 have d1:=hc 1 _ rfl
 have d2:=hc 2 _ rfl
 have d3:=hc 3 _ rfl
 have d4:=hc 4 _ rfl
 have d5:=hc 5 _ rfl
 have d6:=hc 6 _ rfl
 have d7:=hc 7 _ rfl
 have d8:=hc 8 _ rfl
 have b0 : (0 : Int) ≤ (n : Int):=by omega
 have b1 : (n : Int) < (m.ss.length : Int):=by omega
 have b2 : (n : Int) ≤ (m.ss.length : Int) - 1:=by omega
 clear h2 HR h h3 h4 hs hc HS HG
 obtain ⟨s0, s1, s2, s3, s4, s5, s6, s7, s8⟩:=s
 simp only at HR2
 go_enter Tryz.func96, Tryz.ntmps96
 go_wp2_with fail
 go_quiet (fail)
 go_wp2_with fail
 have hB1:=bdrewN hB nq
 have k5:=Field.bkeep hB1 c5
 have kA : ((W.alloc (.cells (Ad op dl wt fo n ge st) 25)).drewN nq).cell? ⟨W.heap.size, 4, none⟩ = some (.i n):=by go_simp
 have kG : ((W.alloc (.cells (Ad op dl wt fo n ge st) 25)).drewN nq).cell? ⟨W.heap.size, 5, none⟩ = some (.i ge):=by go_simp
 have ks0:=Field.bkeep hB1 d0
 have ks1:=Field.bkeep hB1 d1
 have ks2:=Field.bkeep hB1 d2
 have ks3:=Field.bkeep hB1 d3
 have ks4:=Field.bkeep hB1 d4
 have ks5:=Field.bkeep hB1 d5
 have ks6:=Field.bkeep hB1 d6
 have ks7:=Field.bkeep hB1 d7
 have ks8:=Field.bkeep hB1 d8
 simp only [Nat.add_zero] at ks0
 clear c8 c5 d0 d1 d2 d3 d4 d5 d6 d7 d8 hB
 generalize hwz : ((W.alloc (.cells (Ad op dl wt fo n ge st) 25)).drewN nq) = w1 at *
 clear hwz
 have L5 : ∀ w', Below w1.heap.size w1 w' → w'.cell? ⟨p.mb, 5, none⟩ = some (.slice (some ⟨p.sb, 0, none⟩) m.ss.length m.ss.length):=fun w' h => Field.bkeep h k5
 have LA : ∀ w', Below w1.heap.size w1 w' → w'.cell? ⟨W.heap.size, 4, none⟩ = some (.i n):=fun w' h => Field.bkeep h kA
 have Ls0 : ∀ w', Below w1.heap.size w1 w' → w'.cell? ⟨p.sb, n * 9, none⟩ = some (.i s0):=fun w' h => Field.bkeep h ks0
 have Ls1 : ∀ w', Below w1.heap.size w1 w' → w'.cell? ⟨p.sb, n * 9 + 1, none⟩ = some (.i s1):=fun w' h => Field.bkeep h ks1
 have Ls2 : ∀ w', Below w1.heap.size w1 w' → w'.cell? ⟨p.sb, n * 9 + 2, none⟩ = some (.i s2):=fun w' h => Field.bkeep h ks2
 have Ls3 : ∀ w', Below w1.heap.size w1 w' → w'.cell? ⟨p.sb, n * 9 + 3, none⟩ = some (.bool s3):=fun w' h => Field.bkeep h ks3
 have Ls4 : ∀ w', Below w1.heap.size w1 w' → w'.cell? ⟨p.sb, n * 9 + 4, none⟩ = some (.bool s4):=fun w' h => Field.bkeep h ks4
 have Ls5 : ∀ w', Below w1.heap.size w1 w' → w'.cell? ⟨p.sb, n * 9 + 5, none⟩ = some (.i s5):=fun w' h => Field.bkeep h ks5
 have Ls6 : ∀ w', Below w1.heap.size w1 w' → w'.cell? ⟨p.sb, n * 9 + 6, none⟩ = some (.i s6):=fun w' h => Field.bkeep h ks6
 have Ls7 : ∀ w', Below w1.heap.size w1 w' → w'.cell? ⟨p.sb, n * 9 + 7, none⟩ = some (.i s7):=fun w' h => Field.bkeep h ks7
 have Ls8 : ∀ w', Below w1.heap.size w1 w' → w'.cell? ⟨p.sb, n * 9 + 8, none⟩ = some (.i s8):=fun w' h => Field.bkeep h ks8
 have hKd : Below w1.heap.size w1 w1.drew:=(Below.refl _ _).drew
 have hlA : W.heap.size < w1.heap.size:=World.block_lt_of_cell? _ _ kA
 clear ks0 ks1 ks2 ks3 ks4 ks5 ks6 ks7 ks8 kA k5
 go_region_held3 (fun w' => Below w1.heap.size w1 w') (first | assumption | exact ((Below.refl _ _).alloc (Nat.le_refl _) _) | exact ((Below.refl _ _).alloc (Nat.le_refl _) _).drew | exact ((Below.refl _ _).drew.alloc (Nat.le_refl _) _)) (fail)
 clear L5 LA Ls0 Ls1 Ls2 Ls3 Ls4 Ls5 Ls6 Ls7 Ls8 b0 b1 b2 hKd
 have hfin : Below W.heap.size W ((w1.alloc (.cells (Ac s0 s1 s2 s3 s4 s5 s6 s7 s8) 59)).drew):=(hB1.alloc hB1.size _).drew
 by_cases e0 : s0 = 3
 ·have e0' : (s0 != 3) = false:=by simp [e0]
  by_cases e1 : s1 = who
  ·have e1' : (s1 != who) = false:=by simp [e1]
   by_cases e2 : s6 = ge
   ·have e2' : (s6 != ge) = false:=by simp [e2]
    have HR3 : RowKit.Hid (R = 0):=Lib.hid (by rw [HR2.out, if_neg]; simp [e0, e1, e2])
    clear e0 e1 e2
    go_wp2_with fail
    go_ret
    exact ⟨by rw [HR3.out]; rfl, hfin⟩
   ·have e2' : (s6 != ge) = true:=by simp [e2]
    have HR3 : RowKit.Hid (R = 2):=Lib.hid (by rw [HR2.out, if_pos]; simp [e2])
    clear e0 e1 e2
    go_wp2_with fail
    go_ret
    exact ⟨by rw [HR3.out]; rfl, hfin⟩
  ·have e1' : (s1 != who) = true:=by simp [e1]
   have HR3 : RowKit.Hid (R = 2):=Lib.hid (by rw [HR2.out, if_pos]; simp [e1])
   clear e0 e1
   go_wp2_with fail
   go_ret
   exact ⟨by rw [HR3.out]; rfl, hfin⟩
 ·have e0' : (s0 != 3) = true:=by simp [e0]
  have HR3 : RowKit.Hid (R = 2):=Lib.hid (by rw [HR2.out, if_pos]; simp [e0])
  clear e0
  go_wp2_with fail
  go_ret
  exact ⟨by rw [HR3.out]; rfl, hfin⟩
def grantOf (k : Wk) : Int:=if k.at' = 2 then k.slot + 1 else if k.at' = 3 then -1 else 0
def wcells (k : Wk) : Array Value:=(Ai (k.at' != 0) (k.at' == 1) (grantOf k) k.ask.op k.ask.deadline k.ask.wait k.ask.force k.ask.slot k.ask.gen k.ask.stream)
def WaitAt (W : World) (kb : Nat) (ks : List Wk) : Prop :=
 (∀ (i : Nat) (k : Wk), ks[i]? = some k → ∀ (j : Nat) (v : Value), (wcells k)[j]? = some v → W.cell? ⟨kb, i * 10 + j, none⟩ = some v) ∧ (∀ i j : Nat, i < ks.length → j < 10 → W.frozen? ⟨kb, i * 10 + j, none⟩ = false)
section
variable {W W' : World} {kb : Nat} {ks : List Wk}
theorem WaitAt.stable (h : WaitAt W kb ks) (hb : W'.heap[kb]? = W.heap[kb]?) : WaitAt W' kb ks :=
 ⟨fun i s hs j v hv => (World.cell?_of_block (w:=W) hb).trans (h.1 i s hs j v hv), fun i j hi hj => (World.frozen?_of_block (w:=W) hb).trans (h.2 i j hi hj)⟩
theorem WaitAt.lt (h : WaitAt W kb ks) (hn : 0 < ks.length) : kb < W.heap.size:=World.block_lt_of_cell? _ _ (h.1 0 ks[0] (List.getElem?_eq_getElem hn) 0 _ rfl)
theorem WaitAt.setL (h : WaitAt W kb ks) {i : Nat} (hi : i < ks.length) (k : Wk) : WaitAt (W.setCells kb (i * 10) (wcells k).toList) kb (ks.set i k):=by
 obtain ⟨h1, h2⟩:=h
 have hl : (wcells k).toList.length = 10:=rfl
 have hlen : ∀ j : Nat, j < (wcells k).toList.length → (W.cell? ⟨kb, i * 10 + j, none⟩).isSome = true:=fun j hj => by
  rw [h1 i ks[i] (List.getElem?_eq_getElem hi) j _ (Array.getElem?_eq_getElem (by simpa [wcells] using hj))]; rfl
 refine ⟨fun q t ht j v hv => ?_, fun q j hq hj => ?_⟩
 ·have hj : j < 10:=by have:=(Array.getElem?_eq_some_iff.1 hv).1; simpa [wcells] using this
  rw [List.getElem?_set] at ht
  by_cases hki : i = q
  ·subst hki
   simp [hi] at ht
   subst ht
   rw [World.cell?_setCells_in kb _ _ _ hlen j (by omega)]
   rw [← hv]
   simp
  ·rw [if_neg hki] at ht
   rw [World.cell?_setCells_out kb _ _ _ _ (fun _ _ => by simp only [hl]; omega)]
   exact h1 q t ht j v hv
 ·simp at hq
  rw [World.frozen?_setCells]
  exact h2 q j hq hj
theorem WaitAt.set1 (h : WaitAt W kb ks) {i : Nat} {k k' : Wk} (hi : ks[i]? = some k) (c : Nat) (hc10 : c < 10) (v : Value) (hc : (wcells k') = (wcells k).setIfInBounds c v) : WaitAt (W.setCell ⟨kb, i * 10 + c, none⟩ v) kb (ks.set i k'):=by
 obtain ⟨h1, h2⟩:=h
 have hil : i < ks.length:=(List.getElem?_eq_some_iff.1 hi).1
 refine ⟨fun q t ht j u hu => ?_, fun q j hq hj => ?_⟩
 ·have hj : j < 10:=by have:=(Array.getElem?_eq_some_iff.1 hu).1; simpa [wcells] using this
  rw [List.getElem?_set] at ht
  by_cases hki : i = q
  ·subst hki
   simp [hil] at ht
   subst ht
   rw [hc, Array.getElem?_setIfInBounds] at hu
   by_cases hcj : c = j
   ·subst hcj
    simp [wcells, hj] at hu
    subst hu
    exact World.cell?_setCell_same _ _ _ (h1 i k hi c _ (Array.getElem?_eq_getElem (by simpa [wcells] using hj)))
   ·rw [if_neg hcj] at hu
    rw [World.cell?_setCell_other _ _ _ _ (by simp <;> omega)]
    exact h1 i k hi j u hu
  ·rw [if_neg hki] at ht
   rw [World.cell?_setCell_other _ _ _ _ (by simp <;> omega)]
   exact h1 q t ht j u hu
 ·simp at hq
  simp [h2 q j hq hj]
end
structure Ql where
 mb : Nat
 sb : Nat
 kb : Nat
 wb : Nat
 lv : Value
 ov : Value
def qfp (p : Ql) (k : Nat) : Prop:=k = p.mb ∨ k = p.sb ∨ k = p.kb ∨ Ref11.fp p.wb p.ov k ∨ Fp p.lv k
structure Qd (W : World) (p : Ql) (c : Conf.Cf) (ns nk : Nat) (closed now : Int) : Prop where
 c0 : W.cell? ⟨p.mb, 0, none⟩ = some (.i c.workers)
 c1 : W.cell? ⟨p.mb, 1, none⟩ = some (.i c.slots)
 c2 : W.cell? ⟨p.mb, 2, none⟩ = some (.i c.streams)
 c3 : W.cell? ⟨p.mb, 3, none⟩ = some (.i c.waiters)
 c4 : W.cell? ⟨p.mb, 4, none⟩ = some (.i c.uses)
 c5 : W.cell? ⟨p.mb, 5, none⟩ = some (.slice (some ⟨p.sb, 0, none⟩) ns ns)
 c6 : W.cell? ⟨p.mb, 6, none⟩ = some (.slice (some ⟨p.kb, 0, none⟩) nk nk)
 c7 : W.cell? ⟨p.mb, 7, none⟩ = some p.lv
 c8 : W.cell? ⟨p.mb, 8, none⟩ = some (.i closed)
 c9 : W.cell? ⟨p.mb, 9, none⟩ = some (.i now)
 c10 : W.cell? ⟨p.mb, 10, none⟩ = some (.pointer (some ⟨p.wb, 0, none⟩))
 f7 : W.frozen? ⟨p.mb, 7, none⟩ = false
 f8 : W.frozen? ⟨p.mb, 8, none⟩ = false
 f9 : W.frozen? ⟨p.mb, 9, none⟩ = false
theorem Qd.stable {W W' : World} {p : Ql} {c : Conf.Cf} {ns nk : Nat} {closed now : Int} (h : Qd W p c ns nk closed now) (hb : W'.heap[p.mb]? = W.heap[p.mb]?) : Qd W' p c ns nk closed now:=by
 have e : ∀ o, W'.cell? ⟨p.mb, o, none⟩ = W.cell? ⟨p.mb, o, none⟩:=fun o => World.cell?_of_block (w:=W) hb
 have f : ∀ o, W'.frozen? ⟨p.mb, o, none⟩ = W.frozen? ⟨p.mb, o, none⟩:=fun o => World.frozen?_of_block (w:=W) hb
 constructor <;> first | (rw [e]; first | exact h.c0 | exact h.c1 | exact h.c2 | exact h.c3 | exact h.c4 | exact h.c5 | exact h.c6 | exact h.c7 | exact h.c8 | exact h.c9 | exact h.c10) | (rw [f]; first | exact h.f7 | exact h.f8 | exact h.f9)
theorem Qd.ov {W : World} {p : Ql} {c : Conf.Cf} {ns nk : Nat} {closed now : Int} (h : Qd W p c ns nk closed now) (v : Value) : Qd W { p with ov:=v } c ns nk closed now:=⟨h.c0, h.c1, h.c2, h.c3, h.c4, h.c5, h.c6, h.c7, h.c8, h.c9, h.c10, h.f7, h.f8, h.f9⟩
structure QAt (W : World) (p : Ql) (m : M) : Prop where
 tag : ∃ t : Nat → Nat, t p.mb = 1 ∧ t p.sb = 2 ∧ t p.kb = 3 ∧ (∀ k, Ref11.fp p.wb p.ov k → t k = 5) ∧ ∀ k, Fp p.lv k → t k = 6
 hd : Qd W p m.cf m.ss.length m.ks.length m.closed m.now
 slots : SlotsAt W p.sb m.ss
 works : WaitAt W p.kb m.ks
 wld : ∃ g b, Ref11.RAt W p.wb p.ov m.ahead g b
 own : OwnS W p.lv m.line.length 1 (m.line.map (Value.int .i64))
 ok : m.ok
section
variable {W W' : World} {p : Ql} {m : M}
theorem QAt.lt (h : QAt W p m) {k : Nat} (hk : qfp p k) : k < W.heap.size:=by
 obtain ⟨g, b, hw⟩:=h.wld
 rcases hk with rfl | rfl | rfl | hk | hk
 ·exact World.block_lt_of_cell? _ _ h.hd.c0
 ·exact h.slots.lt h.ok.ns.1
 ·exact h.works.lt h.ok.nk.1
 ·exact hw.lt hk
 ·exact h.own.lt hk
theorem QAt.ne (h : QAt W p m) : p.mb ≠ p.sb ∧ p.mb ≠ p.kb ∧ p.sb ≠ p.kb:=by
 obtain ⟨t, t1, t2, t3, t5, t6⟩:=h.tag
 refine ⟨fun e => ?_, fun e => ?_, fun e => ?_⟩
 all_goals (have e':=congrArg t e; omega)
theorem QAt.keep (h : QAt W p m) (hs : W.heap.size ≤ W'.heap.size) (hb : ∀ k, qfp p k → W'.heap[k]? = W.heap[k]?) : QAt W' p m:=by
 obtain ⟨g, b, hw⟩:=h.wld
 exact ⟨h.tag, h.hd.stable (hb _ (.inl rfl)), h.slots.stable (hb _ (.inr (.inl rfl))), h.works.stable (hb _ (.inr (.inr (.inl rfl)))),
  ⟨g, b, hw.stable hs fun k hk => hb k (.inr (.inr (.inr (.inl hk))))⟩, h.own.stable hs fun k hk => hb k (.inr (.inr (.inr (.inr hk)))), h.ok⟩
theorem QAt.chg {F : Nat → Prop} (h : QAt W p m) (hc : Chg F W W') (hf : ∀ k, qfp p k → ¬ F k) : QAt W' p m :=
 h.keep hc.size (fun k hk => hc.block k (h.lt hk) (hf k hk))
theorem QAt.below (h : QAt W p m) (hb : Below W.heap.size W W') : QAt W' p m:=h.keep hb.size (fun k hk => hb.block k (h.lt hk))
theorem QAt.drew (h : QAt W p m) : QAt W.drew p m:=h.keep (Nat.le_refl _) (fun _ _ => rfl)
theorem QAt.alloc (h : QAt W p m) (o : Obj) : QAt (W.alloc o) p m:=h.below ((Below.refl _ _).alloc (Nat.le_refl _) _)
theorem QAt.toSlots (h : QAt W p m) {ss : List S} (hc : Chg (fun k => k = p.sb) W W') (hs : SlotsAt W' p.sb ss) (hl : ss.length = m.ss.length) (hr : ∀ s ∈ ss, s.right = true) : QAt W' p { m with ss:=ss }:=by
 obtain ⟨t, t1, t2, t3, t5, t6⟩:=h.tag
 obtain ⟨g, b, hw⟩:=h.wld
 have hb : ∀ k, t k ≠ 2 → k < W.heap.size → W'.heap[k]? = W.heap[k]?:=fun k hk hlt => hc.block k hlt (fun e => hk (by rw [e]; exact t2))
 have hk:=h.ok
 refine ⟨⟨t, t1, t2, t3, t5, t6⟩, ?_, hs, h.works.stable (hb _ (by omega) (h.lt (.inr (.inr (.inl rfl))))), ⟨g, b, hw.stable hc.size fun k hk => hb k (by rw [t5 k hk]; omega) (hw.lt hk)⟩,
  h.own.stable hc.size fun k hk => hb k (by rw [t6 k hk]; omega) (h.own.lt hk), ⟨hk.conf, by simpa [hl] using hk.nss, hk.nks, hr, hk.line, hk.few, by simpa [hl] using hk.grants, hk.closed, hk.now, hk.ahead⟩⟩
 simpa [hl] using h.hd.stable (hb p.mb (by omega) (h.lt (.inl rfl)))
theorem QAt.toWorks (h : QAt W p m) {ks : List Wk} (hc : Chg (fun k => k = p.kb) W W') (hs : WaitAt W' p.kb ks) (hl : ks.length = m.ks.length) (hg : ∀ k ∈ ks, k.at' = 2 → 0 ≤ k.slot ∧ k.slot < m.ss.length) : QAt W' p { m with ks:=ks }:=by
 obtain ⟨t, t1, t2, t3, t5, t6⟩:=h.tag
 obtain ⟨g, b, hw⟩:=h.wld
 have hb : ∀ k, t k ≠ 3 → k < W.heap.size → W'.heap[k]? = W.heap[k]?:=fun k hk hlt => hc.block k hlt (fun e => hk (by rw [e]; exact t3))
 have hk:=h.ok
 refine ⟨⟨t, t1, t2, t3, t5, t6⟩, ?_, h.slots.stable (hb _ (by omega) (h.lt (.inr (.inl rfl)))), hs, ⟨g, b, hw.stable hc.size fun k hk => hb k (by rw [t5 k hk]; omega) (hw.lt hk)⟩,
  h.own.stable hc.size fun k hk => hb k (by rw [t6 k hk]; omega) (h.own.lt hk), ⟨hk.conf, hk.nss, by simpa [hl] using hk.nks, hk.rights, by simpa [hl] using hk.line, hk.few, hg, hk.closed, hk.now, hk.ahead⟩⟩
 simpa [hl] using h.hd.stable (hb p.mb (by omega) (h.lt (.inl rfl)))
theorem QAt.toWorld (h : QAt W p m) {v' : Value} {l : List Bool} {g b : Int} (hw' : Ref11.RAt W' p.wb v' l g b) (hl : l.length ≤ 1000) (hF : ∀ k, Fp v' k → Fp p.ov k ∨ W.heap.size ≤ k) (hc : Chg (Ref11.fp p.wb p.ov) W W') :
  QAt W' { p with ov:=v' } { m with ahead:=l }:=by
 obtain ⟨t, t1, t2, t3, t5, t6⟩:=h.tag
 have hb : ∀ k, t k ≠ 5 → k < W.heap.size → W'.heap[k]? = W.heap[k]?:=fun k hk hlt => hc.block k hlt (fun e => hk (t5 k e))
 have hk:=h.ok
 have hlt : ∀ k, qfp p k → k < W.heap.size:=fun k hk => h.lt hk
 have l1:=hlt p.mb (.inl rfl)
 have l2:=hlt p.sb (.inr (.inl rfl))
 have l3:=hlt p.kb (.inr (.inr (.inl rfl)))
 refine ⟨⟨fun k => if k < W.heap.size then t k else 5, ?_, ?_, ?_, ?_, ?_⟩, (h.hd.stable (hb _ (by omega) l1)).ov v', h.slots.stable (hb _ (by omega) l2), h.works.stable (hb _ (by omega) l3), ⟨g, b, hw'⟩,
  h.own.stable hc.size fun k hk => hb k (by rw [t6 k hk]; omega) (h.own.lt hk), ⟨hk.conf, hk.nss, hk.nks, hk.rights, hk.line, hk.few, hk.grants, hk.closed, hk.now, hl⟩⟩
 ·simp [l1, t1]
 ·simp [l2, t2]
 ·simp [l3, t3]
 ·intro k hk
  show (if k < W.heap.size then t k else 5) = 5
  by_cases hkk : k < W.heap.size
  ·rw [if_pos hkk]
   refine t5 k ?_
   rcases hk with rfl | hk
   ·exact .inl rfl
   ·rcases hF k hk with hk | hk
    ·exact .inr hk
    ·omega
  ·rw [if_neg hkk]
 ·intro k hk
  have:=h.own.lt hk
  simp [this, t6 k hk]
theorem QAt.toLine (h : QAt W p m) {v' : Value} {l : List Int} (ho : OwnS W' v' l.length 1 (l.map (Value.int .i64))) (hl : l.length ≤ 8) (hx : ∀ x ∈ l, 0 ≤ x ∧ x < m.ks.length) (hF : ∀ k, Fp v' k → Fp p.lv k ∨ W.heap.size ≤ k)
  (hc : Chg (fun k => k = p.mb ∨ Fp p.lv k) W W') (hh : Qd W' { p with lv:=v' } m.cf m.ss.length m.ks.length m.closed m.now) : QAt W' { p with lv:=v' } { m with line:=l }:=by
 obtain ⟨t, t1, t2, t3, t5, t6⟩:=h.tag
 obtain ⟨g, b, hw⟩:=h.wld
 have hb : ∀ k, t k ≠ 1 → t k ≠ 6 → k < W.heap.size → W'.heap[k]? = W.heap[k]?:=fun k hk hk6 hlt => hc.block k hlt (fun e => by
  rcases e with rfl | e
  ·exact hk t1
  ·exact hk6 (t6 k e))
 have hk:=h.ok
 have hlt : ∀ k, qfp p k → k < W.heap.size:=fun k hk => h.lt hk
 have l1:=hlt p.mb (.inl rfl)
 have l2:=hlt p.sb (.inr (.inl rfl))
 have l3:=hlt p.kb (.inr (.inr (.inl rfl)))
 refine ⟨⟨fun k => if k < W.heap.size then t k else 6, ?_, ?_, ?_, ?_, ?_⟩, hh, h.slots.stable (hb _ (by omega) (by omega) l2), h.works.stable (hb _ (by omega) (by omega) l3),
  ⟨g, b, hw.stable hc.size fun k hk => hb k (by rw [t5 k hk]; omega) (by rw [t5 k hk]; omega) (hw.lt hk)⟩, ho, ⟨hk.conf, hk.nss, hk.nks, hk.rights, hx, hl, hk.grants, hk.closed, hk.now, hk.ahead⟩⟩
 ·simp [l1, t1]
 ·simp [l2, t2]
 ·simp [l3, t3]
 ·intro k hk
  have:=hw.lt hk
  simp [this, t5 k hk]
 ·intro k hk
  show (if k < W.heap.size then t k else 6) = 6
  by_cases hkk : k < W.heap.size
  ·rw [if_pos hkk]
   rcases hF k hk with hk | hk
   ·exact t6 k hk
   ·omega
  ·rw [if_neg hkk]
theorem Qd.closed (h : Qd W p m.cf m.ss.length m.ks.length m.closed m.now) (c : Int) : Qd (W.setCell ⟨p.mb, 8, none⟩ (.i c)) p m.cf m.ss.length m.ks.length c m.now:=by
 have e : ∀ o, o ≠ 8 → (W.setCell ⟨p.mb, 8, none⟩ (.i c)).cell? ⟨p.mb, o, none⟩ = W.cell? ⟨p.mb, o, none⟩:=fun o ho => World.cell?_setCell_other _ _ _ _ (by simp <;> omega)
 exact ⟨(e 0 (by omega)).trans h.c0, (e 1 (by omega)).trans h.c1, (e 2 (by omega)).trans h.c2, (e 3 (by omega)).trans h.c3, (e 4 (by omega)).trans h.c4, (e 5 (by omega)).trans h.c5, (e 6 (by omega)).trans h.c6, (e 7 (by omega)).trans h.c7,
  World.cell?_setCell_same _ _ _ h.c8, (e 9 (by omega)).trans h.c9, (e 10 (by omega)).trans h.c10, by simp [h.f7], by simp [h.f8], by simp [h.f9]⟩
theorem Qd.now (h : Qd W p m.cf m.ss.length m.ks.length m.closed m.now) (c : Int) : Qd (W.setCell ⟨p.mb, 9, none⟩ (.i c)) p m.cf m.ss.length m.ks.length m.closed c:=by
 have e : ∀ o, o ≠ 9 → (W.setCell ⟨p.mb, 9, none⟩ (.i c)).cell? ⟨p.mb, o, none⟩ = W.cell? ⟨p.mb, o, none⟩:=fun o ho => World.cell?_setCell_other _ _ _ _ (by simp <;> omega)
 exact ⟨(e 0 (by omega)).trans h.c0, (e 1 (by omega)).trans h.c1, (e 2 (by omega)).trans h.c2, (e 3 (by omega)).trans h.c3, (e 4 (by omega)).trans h.c4, (e 5 (by omega)).trans h.c5, (e 6 (by omega)).trans h.c6, (e 7 (by omega)).trans h.c7,
  (e 8 (by omega)).trans h.c8, World.cell?_setCell_same _ _ _ h.c9, (e 10 (by omega)).trans h.c10, by simp [h.f7], by simp [h.f8], by simp [h.f9]⟩
theorem QAt.head (h : QAt W p m) {W' : World} {c n : Int} (hc : c = 0 ∨ c = 1 ∨ c = 2) (hn : 0 ≤ n ∧ n ≤ 1099511627776) (hch : Chg (fun k => k = p.mb) W W') (hh : Qd W' p m.cf m.ss.length m.ks.length c n) : QAt W' p { m with closed:=c, now:=n }:=by
 obtain ⟨t, t1, t2, t3, t5, t6⟩:=h.tag
 obtain ⟨g, b, hw⟩:=h.wld
 have hb : ∀ k, t k ≠ 1 → k < W.heap.size → W'.heap[k]? = W.heap[k]?:=fun k hk hlt => hch.block k hlt (fun e => hk (by rw [e]; exact t1))
 have hk:=h.ok
 have hlt : ∀ k, qfp p k → k < W.heap.size:=fun k hk => h.lt hk
 exact ⟨⟨t, t1, t2, t3, t5, t6⟩, hh, h.slots.stable (hb _ (by omega) (hlt _ (.inr (.inl rfl)))), h.works.stable (hb _ (by omega) (hlt _ (.inr (.inr (.inl rfl))))),
  ⟨g, b, hw.stable hch.size fun k hk => hb k (by rw [t5 k hk]; omega) (hw.lt hk)⟩, h.own.stable hch.size fun k hk => hb k (by rw [t6 k hk]; omega) (h.own.lt hk), ⟨hk.conf, hk.nss, hk.nks, hk.rights, hk.line, hk.few, hk.grants, hc, hn, hk.ahead⟩⟩
theorem QAt.toClosed (h : QAt W p m) (c : Int) (hc : c = 0 ∨ c = 1 ∨ c = 2) : QAt (W.setCell ⟨p.mb, 8, none⟩ (.i c)) p { m with closed:=c } :=
 h.head hc h.ok.now ((Chg.refl _ _).setCell _ _ (fun _ => rfl)) (h.hd.closed c)
theorem QAt.toNow (h : QAt W p m) (n : Int) (hn : 0 ≤ n ∧ n ≤ 1099511627776) : QAt (W.setCell ⟨p.mb, 9, none⟩ (.i n)) p { m with now:=n } :=
 h.head h.ok.closed hn ((Chg.refl _ _).setCell _ _ (fun _ => rfl)) (h.hd.now n)
end
def QPost (W : World) (p : Ql) (ans : Value) (m' : M) (e : Ending) (W' : World) : Prop :=
 e = .returned ans ∧ ∃ lv ov, QAt W' { p with lv:=lv, ov:=ov } m' ∧ (∀ k, Fp lv k → Fp p.lv k ∨ W.heap.size ≤ k) ∧ (∀ k, Fp ov k → Fp p.ov k ∨ W.heap.size ≤ k) ∧ Chg (qfp p) W W'
structure Rq (B : Nat) (W0 : World) (p : Ql) (w : World) (p' : Ql) (m' : M) : Prop where
 at' : QAt w p' m'
 old : ∀ k, qfp p k → k < B
 le : B ≤ W0.heap.size
 same : ∃ lv ov, p' = { p with lv:=lv, ov:=ov }
 lvs : ∀ k, Fp p'.lv k → Fp p.lv k ∨ W0.heap.size ≤ k
 ovs : ∀ k, Fp p'.ov k → Fp p.ov k ∨ W0.heap.size ≤ k
 chg : Chg (fun k => qfp p k ∨ B ≤ k) W0 w
section
variable {B : Nat} {W0 w w' : World} {p p' : Ql} {m' m'' : M}
theorem Rq.begin {W : World} {m : M} (h : QAt W p m) (hb : Below W.heap.size W W0) : Rq W.heap.size W0 p W0 p m :=
 ⟨h.below hb, fun k hk => h.lt hk, hb.size, ⟨p.lv, p.ov, rfl⟩, fun _ h => .inl h, fun _ h => .inl h, Chg.refl _ _⟩
theorem Rq.mine (r : Rq B W0 p w p' m') {k : Nat} (hk : qfp p' k) : qfp p k ∨ W0.heap.size ≤ k:=by
 obtain ⟨lv, ov, h⟩:=r.same
 have e1:=r.lvs
 have e2:=r.ovs
 subst h
 rcases hk with hk | hk | hk | (hk | hk) | hk
 ·exact .inl (.inl hk)
 ·exact .inl (.inr (.inl hk))
 ·exact .inl (.inr (.inr (.inl hk)))
 ·exact .inl (.inr (.inr (.inr (.inl (.inl hk)))))
 ·exact (e2 k hk).imp (fun h => .inr (.inr (.inr (.inl (.inr h))))) id
 ·exact (e1 k hk).imp (fun h => .inr (.inr (.inr (.inr h)))) id
theorem Rq.not (r : Rq B W0 p w p' m') {g : Nat} (h1 : B ≤ g) (h2 : g < W0.heap.size) : ¬ qfp p' g:=fun h => by
 rcases r.mine h with h | h
 ·have:=r.old g h; omega
 ·omega
theorem Rq.not' (r : Rq B W0 p w p' m') {g : Nat} (h1 : ¬ qfp p g) (h2 : g < W0.heap.size) : ¬ qfp p' g:=fun h => by
 rcases r.mine h with h | h
 ·exact h1 h
 ·omega
theorem Rq.size (r : Rq B W0 p w p' m') : W0.heap.size ≤ w.heap.size:=r.chg.size
theorem Rq.below (r : Rq B W0 p w p' m') (hb : Below w.heap.size w w') : Rq B W0 p w' p' m' :=
 ⟨r.at'.below hb, r.old, r.le, r.same, r.lvs, r.ovs, r.chg.trans (Chg.ofBelow (F:=fun _ => False) hb) (fun _ _ h => h.elim)⟩
theorem Rq.drew (r : Rq B W0 p w p' m') : Rq B W0 p w.drew p' m':=⟨r.at'.drew, r.old, r.le, r.same, r.lvs, r.ovs, r.chg.drew⟩
theorem Rq.alloc (r : Rq B W0 p w p' m') (o : Obj) : Rq B W0 p (w.alloc o) p' m':=r.below ((Below.refl _ _).alloc (Nat.le_refl _) _)
theorem Rq.turn (r : Rq B W0 p w p' m') (h : QAt w' p' m'') (hc : Chg (qfp p') w w') : Rq B W0 p w' p' m'' :=
 ⟨h, r.old, r.le, r.same, r.lvs, r.ovs, r.chg.trans hc (fun k _ hk => (r.mine hk).imp id (fun h => Nat.le_trans r.le h))⟩
theorem Rq.slots (r : Rq B W0 p w p' m') (h : QAt w' p' m'') (hc : Chg (fun k => k = p'.sb) w w') : Rq B W0 p w' p' m'':=r.turn h (hc.mono fun k _ e => .inr (.inl e))
theorem Rq.works (r : Rq B W0 p w p' m') (h : QAt w' p' m'') (hc : Chg (fun k => k = p'.kb) w w') : Rq B W0 p w' p' m'':=r.turn h (hc.mono fun k _ e => .inr (.inr (.inl e)))
theorem Rq.post (r : Rq B W0 p w p' m') {ans : Value} {e : Ending} (h : QPost w p' ans m'' e w') : e = .returned ans ∧ ∃ p'', Rq B W0 p w' p'' m'' ∧ Chg (qfp p') w w':=by
 obtain ⟨h0, lv, ov, h1, h2, h3, h4⟩:=h
 refine ⟨h0, _, ⟨h1, r.old, r.le, ?_, fun k hk => ?_, fun k hk => ?_, r.chg.trans h4 (fun k _ hk => (r.mine hk).imp id (fun h => Nat.le_trans r.le h))⟩, h4⟩
 ·obtain ⟨l, v, h⟩:=r.same
  exact ⟨lv, ov, by rw [h]⟩
 ·rcases h2 k hk with h | h
  ·exact r.lvs k h
  ·exact .inr (Nat.le_trans r.size h)
 ·rcases h3 k hk with h | h
  ·exact r.ovs k h
  ·exact .inr (Nat.le_trans r.size h)
theorem Rq.box (r : Rq B W0 p w p' m') {g : Nat} (h1 : B ≤ g) (h2 : g < W0.heap.size) (hc : Chg (fun k => k = g) w w') : Rq B W0 p w' p' m' :=
 ⟨r.at'.chg hc (fun k hk e => r.not h1 h2 (e ▸ hk)), r.old, r.le, r.same, r.lvs, r.ovs, r.chg.trans hc (fun k _ e => .inr (by rw [e]; exact h1))⟩
theorem Rq.row (r : Rq B W0 p w p' m') {g : Nat} (h1 : B ≤ g) (h2 : g < W0.heap.size) (cs : Array Value) : Rq B W0 p (w.setRow g cs) p' m' :=
 r.box h1 h2 (chg_setRow (Chg.refl _ _) _ _ (fun _ => rfl))
theorem Rq.mb (r : Rq B W0 p w p' m') : p'.mb = p.mb:=by obtain ⟨_, _, h⟩:=r.same; rw [h]
theorem Rq.sb (r : Rq B W0 p w p' m') : p'.sb = p.sb:=by obtain ⟨_, _, h⟩:=r.same; rw [h]
theorem Rq.kb (r : Rq B W0 p w p' m') : p'.kb = p.kb:=by obtain ⟨_, _, h⟩:=r.same; rw [h]
theorem Rq.fin {W : World} (r : Rq W.heap.size W0 p w p' m') (hb : Below W.heap.size W W0) (ans : Value) : QPost W p ans m' (.returned ans) w:=by
 obtain ⟨lv, ov, h⟩:=r.same
 have h1:=r.lvs
 have h2:=r.ovs
 have h3:=r.at'
 subst h
 refine ⟨rfl, lv, ov, h3, fun k hk => (h1 k hk).imp id (Nat.le_trans hb.size), fun k hk => (h2 k hk).imp id (Nat.le_trans hb.size), ?_⟩
 exact (Chg.trans (Chg.ofBelow hb) r.chg (fun k hk h => h.elim id (fun h => by omega)))
end
end Go.Proofs.YtpmkgddjgebojaaGreatDoor.Mod
