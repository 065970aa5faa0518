/- Part 37 of the walks and plain laws that the last text joins. -/
import Derived.Test.YtpmkgddjgebojaaGreatDoorE34
import Derived.Test.YtpmkgddjgebojaaGreatDoorE35
set_option maxRecDepth 100000
set_option maxHeartbeats 16000000
set_option linter.unusedVariables false
set_option linter.unusedSimpArgs false
namespace Go.Proofs.YtpmkgddjgebojaaGreatDoor.Mod
open Go.RowKit Hp Slot RowL Life
def flatE (l : List Ev) : List Value:=l.flatMap fun x => x.cells.toList
theorem ev_len (x : Ev) : x.cells.toList.length = 18:=rfl
theorem flatE_at : ∀ (l : List Ev) (i : Nat) (x : Ev) (q : Nat), l[i]? = some x → q < 18 → (flatE l)[i * 18 + q]? = x.cells[q]?
 | [], i, s, q, h, _ => by simp at h
 | t :: l, 0, s, q, h, hq => by
  obtain rfl : t = s:=by simpa using h
  simp only [flatE, List.flatMap_cons]
  rw [List.getElem?_append_left (by rw [ev_len]; omega)]
  simp
 | t :: l, i + 1, s, q, h, hq => by
  have ih:=flatE_at l i s q (by simpa using h) hq
  simp only [flatE, List.flatMap_cons] at ih ⊢
  rw [List.getElem?_append_right (by rw [ev_len]; omega), ← ih, ev_len]
  congr 1
  omega
def EvsAt (W : World) (v : Value) (l : List Ev) : Prop:=OwnS W v l.length 18 (flatE l)
theorem flatE_app (l : List Ev) (x : Ev) : flatE (l ++ [x]) = flatE l ++ x.cells.toList:=by simp [flatE]
def LeaseP (W : World) (en : Ending) (W' : World) : Prop:=∃ a b : Int, en = .returned (.tuple #[.i a, .i b]) ∧ ∃ n, W' = W.drewN n
theorem lease_any (W : World) (v : Value) (l : List Ev) (hl : l.length ≤ 1000) (ho : EvsAt W v l) (who : Int) :
  Calls Tryz.prog 59 #[v, .i who] W (LeaseP W):=by
 rcases ho.2 with ⟨rfl, h0⟩ | ⟨g, off, cap, rfl, hn, hcm, isc, hs, hf, hx⟩
 ·obtain rfl : l = []:=List.eq_nil_of_length_eq_zero h0
  clear ho hl h0
  go_enter Tryz.func59, Tryz.ntmps59
  go_wp2
  go_loop [6] (fun i => i = .i (-1)) (fun i => 0)
  case atStart => rfl
  case round =>
   obtain rfl:=hrel
   go_wp2
   go_ret2
   exact ⟨0, 0, rfl, 0, rfl⟩
 ·have HX:=Lib.hid (fun i x q u (hi : l[i]? = some x) (hq : q < 18) (hu : x.cells[q]? = some u) => hx (i * 18 + q) u (by rw [flatE_at l i x q hi hq]; exact hu))
  clear hx hs hf isc ho
  go_enter Tryz.func59, Tryz.ntmps59
  go_wp2
  go_loop [6] (fun i => ∃ k : Nat, k ≤ l.length ∧ i = .i ((k : Int) - 1)) (fun i => (intOf i + 1).toNat)
  case atStart => exact ⟨l.length, by omega, rfl⟩
  case round =>
   obtain ⟨k, hk, rfl⟩:=hrel
   by_cases hlt : 0 < k
   ·obtain ⟨j, rfl⟩ : ∃ j, k = j + 1:=⟨k - 1, by omega⟩
    have hcast : ((j + 1 : Nat) : Int) - 1 = (j : Int):=by omega
    rw [hcast]
    obtain ⟨x, hxj⟩ : ∃ x, l[j]? = some x:=⟨_, List.getElem?_eq_getElem (by omega)⟩
    have c0 : W.cell? ⟨g, off + j * 18, none⟩ = some (.bool x.ended):=HX.out j x 0 _ hxj (by omega) rfl
    have c1 : W.cell? ⟨g, off + j * 18 + 1, none⟩ = some (.i x.who):=HX.out j x 1 _ hxj (by omega) rfl
    have c3 : W.cell? ⟨g, off + j * 18 + 3, none⟩ = some (.i x.ask.op):=HX.out j x 3 _ hxj (by omega) rfl
    have c10 : W.cell? ⟨g, off + j * 18 + 10, none⟩ = some (.i x.e):=HX.out j x 10 _ hxj (by omega) rfl
    have c11 : W.cell? ⟨g, off + j * 18 + 11, none⟩ = some (.i x.slot):=HX.out j x 11 _ hxj (by omega) rfl
    have c12 : W.cell? ⟨g, off + j * 18 + 12, none⟩ = some (.i x.gen):=HX.out j x 12 _ hxj (by omega) rfl
    have b0 : (0 : Int) ≤ (j : Int):=by omega
    have b1 : (j : Int) < (l.length : Int):=by omega
    have b2 : (j : Int) ≤ (l.length : Int) - 1:=by omega
    obtain ⟨en, wh, at', ⟨op, dl, wt, fo, sl, ge, st⟩, er, xs, xg, xt, q1, q2, q3, q4⟩:=x
    simp only at c0 c1 c3 c10 c11 c12
    clear hxj hcast HX
    cases en
    ·go_wp2
     go_round
     case rel => exact ⟨j, by omega, rfl⟩
     case measure => simp [intOf] <;> omega
    cases hw : (wh == who)
    ·go_wp2
     go_round
     case rel => exact ⟨j, by omega, rfl⟩
     case measure => simp [intOf] <;> omega
    cases ho : (op == 0)
    ·go_wp2
     go_round
     case rel => exact ⟨j, by omega, rfl⟩
     case measure => simp [intOf] <;> omega
    cases he : (er == 0)
    ·go_wp2
     go_round
     case rel => exact ⟨j, by omega, rfl⟩
     case measure => simp [intOf] <;> omega
    go_wp2_with fail
    go_quiet (fail)
    go_wp2
    go_ret2
    exact ⟨_, _, rfl, _, rfl⟩
   ·obtain rfl : k = 0:=by omega
    go_wp2
    go_ret2
    exact ⟨0, 0, rfl, 0, rfl⟩
theorem mfp_post {p : Pl} {lv rv : Value} {n j : Nat} (hl : ∀ k, Fp lv k → Fp p.lv k ∨ n ≤ k) (hr : ∀ k, Fp rv k → Fp p.rv k ∨ n ≤ k) (h : mfp { p with lv:=lv, rv:=rv } j) : mfp p j ∨ n ≤ j:=by
 unfold mfp World11.wfp at *
 simp only at h
 rcases h with h | h | h | h | (h | h | h) | h
 ·exact .inl (.inl h)
 ·exact .inl (.inr (.inl h))
 ·exact .inl (.inr (.inr (.inl h)))
 ·exact .inl (.inr (.inr (.inr (.inl h))))
 ·exact .inl (.inr (.inr (.inr (.inr (.inl (.inl h))))))
 ·exact .inl (.inr (.inr (.inr (.inr (.inl (.inr (.inl h)))))))
 ·exact (hr _ h).imp (fun h => .inr (.inr (.inr (.inr (.inl (.inr (.inr h))))))) id
 ·exact (hl _ h).imp (fun h => .inr (.inr (.inr (.inr (.inr h))))) id
structure PlayB (W0 : World) (K : Nat → Prop) (mb : Nat) (ev : Value) (W : World) (p : Pl) (m : M) (evs : List Ev) : Prop where
 pos : 0 < W0.heap.size
 mb : p.mb = mb
 at' : MAt W p m
 evs : EvsAt W ev evs
 new : ∀ j, mfp p j → W0.heap.size ≤ j
 newE : ∀ j, Fp ev j → W0.heap.size ≤ j
 own : ∀ j, Fp ev j → ¬ mfp p j
 kept : ∀ j, K j → j < W.heap.size ∧ ¬ mfp p j ∧ ¬ Fp ev j
 below : Below W0.heap.size W0 W
def Same (K : Nat → Prop) (W W' : World) : Prop:=W.heap.size ≤ W'.heap.size ∧ ∀ j, K j → W'.heap[j]? = W.heap[j]?
theorem Same.refl (K : Nat → Prop) (W : World) : Same K W W:=⟨Nat.le_refl _, fun _ _ => rfl⟩
theorem Same.trans {K : Nat → Prop} {a b c : World} (h : Same K a b) (k : Same K b c) : Same K a c:=⟨Nat.le_trans h.1 k.1, fun j hj => (k.2 j hj).trans (h.2 j hj)⟩
theorem Same.mono {K K' : Nat → Prop} {a b : World} (h : Same K a b) (hk : ∀ j, K' j → K j) : Same K' a b:=⟨h.1, fun j hj => h.2 j (hk j hj)⟩
theorem RowAt.same {K : Nat → Prop} {W W' : World} {g : Nat} {cs : Array Value} {t : TypeId} (h : RowAt W g cs t) (hs : Same K W W') (hk : K g) : RowAt W' g cs t:=(hs.2 g hk).trans h
section
variable {W0 W W' : World} {K : Nat → Prop} {mb : Nat} {ev ans : Value} {p : Pl} {m m' : M} {evs : List Ev}
theorem PlayB.ltK (h : PlayB W0 K mb ev W p m evs) {j : Nat} (hj : K j) : j < W.heap.size:=(h.kept j hj).1
theorem PlayB.same (h : PlayB W0 K mb ev W p m evs) (hb : Below W.heap.size W W') : Same K W W':=⟨hb.size, fun j hj => hb.block j (h.ltK hj)⟩
theorem PlayB.below' (h : PlayB W0 K mb ev W p m evs) (hb : Below W.heap.size W W') : PlayB W0 K mb ev W' p m evs :=
 ⟨h.pos, h.mb, h.at'.below hb, h.evs.stable hb.size (fun j hj => hb.block j (h.evs.lt hj)), h.new, h.newE, h.own, fun j hj => ⟨Nat.lt_of_lt_of_le (h.ltK hj) hb.size, (h.kept j hj).2⟩, h.below.trans (hb.mono h.below.size)⟩
theorem PlayB.keep (h : PlayB W0 K mb ev W p m evs) (hb : Below W.heap.size W W') : PlayB W0 (fun j => K j ∨ (W.heap.size ≤ j ∧ j < W'.heap.size)) mb ev W' p m evs:=by
 have h':=h.below' hb
 refine ⟨h'.pos, h'.mb, h'.at', h'.evs, h'.new, h'.newE, h'.own, fun j hj => ?_, h'.below⟩
 rcases hj with hj | ⟨h1, h2⟩
 ·exact h'.kept j hj
 ·exact ⟨h2, fun hm => by have:=h.at'.lt hm; omega, fun hm => by have:=h.evs.lt hm; omega⟩
theorem PlayB.keepX (h : PlayB W0 K mb ev W p m evs) (hb : Below W.heap.size W W') : ∃ K' : Nat → Prop, PlayB W0 K' mb ev W' p m evs ∧ (∀ j, K j → K' j) ∧ ∀ j, W.heap.size ≤ j → j < W'.heap.size → K' j :=
 ⟨_, h.keep hb, fun j hj => .inl hj, fun j h1 h2 => .inr ⟨h1, h2⟩⟩
theorem PlayB.less {K' : Nat → Prop} (h : PlayB W0 K mb ev W p m evs) (hk : ∀ j, K' j → K j) : PlayB W0 K' mb ev W p m evs:=⟨h.pos, h.mb, h.at', h.evs, h.new, h.newE, h.own, fun j hj => h.kept j (hk j hj), h.below⟩
theorem PlayB.post {e : Ending} (h : PlayB W0 K mb ev W p m evs) (hm : MPost W p ans m' e W') : e = .returned ans ∧ ∃ p', PlayB W0 K mb ev W' p' m' evs ∧ Same K W W':=by
 obtain ⟨he, lv, rv, hA, hl, hr, hC⟩:=hm
 refine ⟨he, { p with lv:=lv, rv:=rv }, ⟨h.pos, h.mb, hA, h.evs.chg hC (fun j hj hm => h.own j hj hm), fun j hj => ?_, h.newE, fun j hj hj' => ?_, fun j hj => ⟨Nat.lt_of_lt_of_le (h.ltK hj) hC.size, fun hm => ?_, (h.kept j hj).2.2⟩, ?_⟩, hC.size, fun j hj => hC.block j (h.ltK hj) (h.kept j hj).2.1⟩
 ·rcases mfp_post hl hr hj with h1 | h1
  ·exact h.new j h1
  ·have:=h.below.size; omega
 ·rcases mfp_post hl hr hj' with h1 | h1
  ·exact h.own j hj h1
  ·have:=h.evs.lt hj; omega
 ·rcases mfp_post hl hr hm with h1 | h1
  ·exact (h.kept j hj).2.1 h1
  ·have:=h.ltK hj; omega
 ·exact h.below.trans (hC.below (by have:=h.below.size; omega) (fun j hj => h.new j hj))
theorem PlayB.append (h : PlayB W0 K mb ev W p m evs) {x : Ev} {a' : Option Addr} {c' : Nat} (ho : OwnS W' (.slice a' (evs.length + 1) c') (evs.length + 1) 18 (flatE evs ++ x.cells.toList))
  (hf : ∀ k, Fp (.slice a' (evs.length + 1) c') k → Fp ev k ∨ W.heap.size ≤ k) (hC : Chg (Fp ev) W W') : PlayB W0 K mb (.slice a' (evs.length + 1) c') W' p m (evs ++ [x]) ∧ Same K W W':=by
 have h0 : ¬ Fp ev 0:=fun e => by
  have h1:=h.newE 0 e
  have h2:=h.pos
  omega
 refine ⟨⟨h.pos, h.mb, h.at'.chg hC (fun k hk hf' => h.own k hf' hk) h0, ?_, h.new, fun j hj => ?_, fun j hj hm => ?_, fun j hj => ⟨Nat.lt_of_lt_of_le (h.ltK hj) hC.size, (h.kept j hj).2.1, fun hm => ?_⟩, ?_⟩, hC.size, fun j hj => hC.block j (h.ltK hj) (h.kept j hj).2.2⟩
 ·unfold EvsAt
  rw [flatE_app, List.length_append]
  exact ho
 ·rcases hf j hj with h1 | h1
  ·exact h.newE j h1
  ·have:=h.below.size; omega
 ·rcases hf j hj with h1 | h1
  ·exact h.own j h1 hm
  ·have:=h.at'.lt hm; omega
 ·rcases hf j hm with h1 | h1
  ·exact (h.kept j hj).2.2 h1
  ·have:=h.ltK hj; omega
 ·exact h.below.trans (hC.below (by have:=h.below.size; omega) (fun j hj => h.newE j hj))
end
section
variable {W0 w9 W' : World} {K : Nat → Prop} {mb : Nat} {ev' : Value} {p' : Pl} {m m' : M} {evs : List Ev} {x : En} {y : Ev}
end
theorem ev_info : (Tryz.prog.info? 36).map (fun i => (i.zero, i.size, i.bytes)) = some (some Ev.zero.val, 18, 136):=by kernel_rfl
theorem ev_new (w : World) (y : Ev) : ∀ j u, y.cells.toList[j]? = some u → (w.alloc (.cells y.cells 36)).cell? ((⟨w.heap.size, 0, none⟩ : Addr).add j) = some u:=fun j u hu => by
 have h:=(RowAt.new w y.cells 36).cell j
 have he : (⟨w.heap.size, 0, none⟩ : Addr).add j = ⟨w.heap.size, j, none⟩:=by by_cases h0 : j = 0 <;> simp [Addr.add, h0]
 rw [he, h]
 simpa using hu
theorem ev_ones (y : Ev) : ∀ u ∈ y.cells.toList, u.oneCell' = true:=fun u hu => by
 have:=ev_one y
 rw [Array.all_eq_true_iff_forall_mem] at this
 exact this u (by simpa using hu)
end Go.Proofs.YtpmkgddjgebojaaGreatDoor.Mod
namespace Go.Proofs.YtpmkgddjgebojaaGreatDoor.Mod
open Go.RowKit Hp Slot RowL Life R8
theorem WaitAt.two {W : World} {kb : Nat} {ks : List Wk} (h : WaitAt W kb ks) {q : Nat} {k k' : Wk} {g : Int} (hq : ks[q]? = some k) (hk : wcells k' = ((wcells k).setIfInBounds 1 (.bool false)).setIfInBounds 2 (.i g)) :
  WaitAt ((W.setCell ⟨kb, q * 10 + 1, none⟩ (.bool false)).setCell ⟨kb, q * 10 + 2, none⟩ (.i g)) kb (ks.set q k'):=by
 obtain ⟨h1, h2⟩:=h
 have hil : q < ks.length:=(List.getElem?_eq_some_iff.1 hq).1
 have c1:=h1 q k hq 1 _ (Array.getElem?_eq_getElem (by simp [wcells]))
 have c2:=h1 q k hq 2 _ (Array.getElem?_eq_getElem (by simp [wcells]))
 refine ⟨fun r t ht j u hu => ?_, fun r j hr hj => ?_⟩
 ·have hj : j < 10:=by have:=(Array.getElem?_eq_some_iff.1 hu).1; simpa [wcells] using this
  rw [List.getElem?_set] at ht
  by_cases hqr : q = r
  ·subst hqr
   simp [hil] at ht
   subst ht
   rw [hk, Array.getElem?_setIfInBounds, Array.getElem?_setIfInBounds] at hu
   by_cases hj2 : 2 = j
   ·subst hj2
    simp [wcells] at hu
    subst hu
    exact World.cell?_setCell_same _ _ _ ((World.cell?_setCell_other _ _ _ _ (by simp)).trans c2)
   ·rw [if_neg hj2] at hu
    rw [World.cell?_setCell_other _ _ _ _ (by simp <;> omega)]
    by_cases hj1 : 1 = j
    ·subst hj1
     simp [wcells] at hu
     subst hu
     exact World.cell?_setCell_same _ _ _ c1
    ·rw [if_neg hj1] at hu
     rw [World.cell?_setCell_other _ _ _ _ (by simp <;> omega)]
     exact h1 q k hq j u hu
  ·rw [if_neg hqr] at ht
   rw [World.cell?_setCell_other _ _ _ _ (by simp <;> omega), World.cell?_setCell_other _ _ _ _ (by simp <;> omega)]
   exact h1 r t ht j u hu
 ·simp at hr
  simp [h2 r j hr hj]
theorem wcells_grant {k : Wk} (h : k.at' ≠ 0) (i : Nat) : wcells { k with at':=2, slot:=(i : Int) } = ((wcells k).setIfInBounds 1 (.bool false)).setIfInBounds 2 (.i ((i : Int) + 1)):=by
 have h1 : (k.at' != 0) = true:=by simpa using h
 simp [wcells, grantOf, h1]
theorem wcells_told {k : Wk} (h : k.at' ≠ 0) : wcells { k with at':=3 } = ((wcells k).setIfInBounds 1 (.bool false)).setIfInBounds 2 (.i (-1)):=by
 have h1 : (k.at' != 0) = true:=by simpa using h
 simp [wcells, grantOf, h1]
theorem fits_four (s : S) {c : Int} (hc : c = 0 ∨ c = 1 ∨ c = 2) : Find.fits s 4 c = ((s.state == 2 && (s.broken || decide (0 < c))) || (s.state == 3 && c == 2)):=by
 show Find.swept s c = _
 unfold Find.swept
 by_cases h2 : s.state = 2
 ·rcases hc with rfl | rfl | rfl <;> simp [h2]
 ·rcases hc with rfl | rfl | rfl <;> simp [h2]
def tdQ (W : World) (p : Ql) (m : M) (k : Nat) (wr : World) : Prop :=
 ∃ (l : List Int) (ss : List S) (ks : List Wk) (p' : Ql), l.length = k ∧ Rq W.heap.size W p wr p' { m with ss:=ss, ks:=ks, line:=l } ∧ fin m.closed l ss ks = fin m.closed m.line m.sweep.ss m.ks ∧ ∀ x ∈ l, ∀ k, ks[x.toNat]? = some k → k.at' ≠ 0
theorem tq_fin {W wr : World} {p p' : Ql} {m : M} {l : List Int} {ss : List S} {ks : List Wk} (r : Rq W.heap.size W p wr p' { m with ss:=ss, ks:=ks, line:=l }) (hfin : fin m.closed l ss ks = fin m.closed m.line m.sweep.ss m.ks) (he : fin m.closed l ss ks = (ss, ks, l)) (v : Value) :
  QPost W p v m.tidy (.returned v) wr:=by
 have ht : m.tidy = { m with ss:=ss, ks:=ks, line:=l }:=by rw [tidy_fin, ← hfin, he]
 rw [ht]
 exact r.fin (Below.refl _ _) v
theorem q_tidy {W : World} {p : Ql} {m : M} (h : QAt W p m) (hW : ∀ x ∈ m.line, ∀ k, m.ks[x.toNat]? = some k → k.at' ≠ 0) : Calls Tryz.prog 46 #[.pointer (some ⟨p.mb, 0, none⟩)] W fun e W' => ∃ v, QPost W p v m.tidy e W':=by
 have hns:=h.ok.ns
 have hcb:=h.ok.closed
 have r0 : Rq W.heap.size W p W p m:=Rq.begin h (Below.refl _ _)
 have HW:=Lib.hid hW
 have HSW:=Lib.hid (swN_all m.closed m.ss)
 clear h hW
 go_enter Tryz.func46, Tryz.ntmps46
 go_wp2_with fail
 go_loopw [2] (fun iv wr => ∃ w', w' = wr ∧ ∃ k : Nat, k ≤ m.ss.length ∧ iv = .i k ∧ Rq W.heap.size W p w' p { m with ss:=swN m.closed k m.ss }) (fun iv _ => m.ss.length - (intOf iv).toNat)
 case atStart => exact ⟨_, rfl, 0, by omega, rfl, r0⟩
 case round =>
  clear r0
  obtain ⟨wr2, rfl, k, hk, rfl, r1⟩:=hrel
  have hlen:=swN_len m.closed k m.ss
  have k5:=r1.at'.hd.c5
  have k8:=r1.at'.hd.c8
  simp only [hlen] at k5 k8
  have b0 : (0 : Int) ≤ (k : Int):=by omega
  by_cases hlt : k < m.ss.length
  ·obtain ⟨s, hs⟩ : ∃ s, (swN m.closed k m.ss)[k]? = some s:=⟨_, List.getElem?_eq_getElem (by omega)⟩
   have HT:=Lib.hid hs
   have hd:=r1.at'.slots.get hs
   have hff:=fits_four s hcb
   have b1 : (k : Int) < (m.ss.length : Int):=by omega
   have b2 : (k : Int) ≤ (m.ss.length : Int) - 1:=by omega
   obtain ⟨s0, s1, s2, s3, s4, s5, s6, s7, s8⟩:=s
   simp only at hd hff
   obtain ⟨d0, d1, d2, d3, d4, d5, d6, d7, d8⟩:=hd
   have hbx : Below wr2.heap.size wr2 (wr2.alloc (.cells (Ac s0 s1 s2 s3 s4 s5 s6 s7 s8) 59)):=(Below.refl _ _).alloc (Nat.le_refl _) _
   have r2:=r1.below hbx
   have rx:=RowAt.new wr2 (Ac s0 s1 s2 s3 s4 s5 s6 s7 s8) 59
   have k8b:=r2.at'.hd.c8
   simp only at k8b
   clear hs hlen hbx k8
   go_upto_region 4 with (fail)
   generalize wr2.alloc (.cells (Ac s0 s1 s2 s3 s4 s5 s6 s7 s8) 59) = w2 at *
   generalize wr2.heap.size = xb at *
   have x0 : w2.cell? ⟨xb, 0, none⟩ = some (.i s0):=rx.cell 0
   have x3 : w2.cell? ⟨xb, 3, none⟩ = some (.bool s3):=rx.cell 3
   clear d0 d1 d2 d3 d4 d5 d6 d7 d8 rx r1 k5
   by_cases h2 : s0 = 2
   ·have z2 : (s0 == 2) = true:=by simp [h2]
    have z3 : (s0 == 3) = false:=by simp [h2]
    rw [z2, z3] at hff
    clear h2
    cases s3
    ·by_cases hc : 0 < m.closed
     ·have HFF : RowKit.Hid (_ = true):=Lib.hid (hff.trans (by simp [hc]))
      clear hff
      have HX:=Lib.hid (show swN m.closed (k + 1) m.ss = (swN m.closed k m.ss).set k (emptied ⟨s0, s1, s2, false, s4, s5, s6, s7, s8⟩) by rw [sw_next HT.out]; unfold swOne; rw [HFF.out, if_pos rfl])
      have ht:=q_empty r2.at' k k ⟨s0, s1, s2, false, s4, s5, s6, s7, s8⟩ HT.out rfl
      clear HFF
      go_wp2_with fail
      refine ht.mono ?_
      rintro e w4 ⟨⟨v4, rfl⟩, h4, hc4⟩
      have r4:=r2.slots h4 hc4
      clear ht h4 hc4 r2
      go_wp2_with fail
      go_round
      case rel => exact ⟨_, rfl, k + 1, by omega, rfl, by
       have hz : M.empty { m with ss:=swN m.closed k m.ss } k = { m with ss:=swN m.closed (k + 1) m.ss }:=by
        rw [HX.out]
        unfold M.empty
        rw [M.slot_of (m:={ m with ss:=swN m.closed k m.ss }) HT.out]
       rw [← hz]
       exact r4⟩
      case measure => simp [intOf] <;> omega
     ·have HFF : RowKit.Hid (_ = false):=Lib.hid (hff.trans (by simp [hc]))
      clear hff
      have HX:=Lib.hid (show swN m.closed (k + 1) m.ss = swN m.closed k m.ss by rw [sw_next HT.out]; unfold swOne; rw [HFF.out, if_neg (by simp)]; exact set_same HT.out)
      clear HFF
      go_wp2_with fail
      go_round
      case rel => exact ⟨_, rfl, k + 1, by omega, rfl, by rw [HX.out]; exact r2⟩
      case measure => simp [intOf] <;> omega
    ·have HFF : RowKit.Hid (_ = true):=Lib.hid (hff.trans (by simp))
     clear hff
     have HX:=Lib.hid (show swN m.closed (k + 1) m.ss = (swN m.closed k m.ss).set k (emptied ⟨s0, s1, s2, true, s4, s5, s6, s7, s8⟩) by rw [sw_next HT.out]; unfold swOne; rw [HFF.out, if_pos rfl])
     have ht:=q_empty r2.at' k k ⟨s0, s1, s2, true, s4, s5, s6, s7, s8⟩ HT.out rfl
     clear HFF
     go_wp2_with fail
     refine ht.mono ?_
     rintro e w4 ⟨⟨v4, rfl⟩, h4, hc4⟩
     have r4:=r2.slots h4 hc4
     clear ht h4 hc4 r2
     go_wp2_with fail
     go_round
     case rel => exact ⟨_, rfl, k + 1, by omega, rfl, by
      have hz : M.empty { m with ss:=swN m.closed k m.ss } k = { m with ss:=swN m.closed (k + 1) m.ss }:=by
       rw [HX.out]
       unfold M.empty
       rw [M.slot_of (m:={ m with ss:=swN m.closed k m.ss }) HT.out]
      rw [← hz]
      exact r4⟩
     case measure => simp [intOf] <;> omega
   ·have z2 : (s0 == 2) = false:=by simp [h2]
    rw [z2] at hff
    clear h2
    by_cases h3 : s0 = 3
    ·have z3 : (s0 == 3) = true:=by simp [h3]
     rw [z3] at hff
     clear h3
     by_cases hc : m.closed = 2
     ·have zc : (m.closed == 2) = true:=by simpa using hc
      rw [zc] at hff
      have HFF : RowKit.Hid (_ = true):=Lib.hid (hff.trans (by simp))
      clear hff hc
      have HX:=Lib.hid (show swN m.closed (k + 1) m.ss = (swN m.closed k m.ss).set k (emptied ⟨s0, s1, s2, s3, s4, s5, s6, s7, s8⟩) by rw [sw_next HT.out]; unfold swOne; rw [HFF.out, if_pos rfl])
      have ht:=q_empty r2.at' k k ⟨s0, s1, s2, s3, s4, s5, s6, s7, s8⟩ HT.out rfl
      clear HFF
      go_wp2_with fail
      refine ht.mono ?_
      rintro e w4 ⟨⟨v4, rfl⟩, h4, hc4⟩
      have r4:=r2.slots h4 hc4
      clear ht h4 hc4 r2
      go_wp2_with fail
      go_round
      case rel => exact ⟨_, rfl, k + 1, by omega, rfl, by
       have hz : M.empty { m with ss:=swN m.closed k m.ss } k = { m with ss:=swN m.closed (k + 1) m.ss }:=by
        rw [HX.out]
        unfold M.empty
        rw [M.slot_of (m:={ m with ss:=swN m.closed k m.ss }) HT.out]
       rw [← hz]
       exact r4⟩
      case measure => simp [intOf] <;> omega
     ·have zc : (m.closed == 2) = false:=by simpa using hc
      rw [zc] at hff
      have HFF : RowKit.Hid (_ = false):=Lib.hid (hff.trans (by simp))
      clear hff hc
      have HX:=Lib.hid (show swN m.closed (k + 1) m.ss = swN m.closed k m.ss by rw [sw_next HT.out]; unfold swOne; rw [HFF.out, if_neg (by simp)]; exact set_same HT.out)
      clear HFF
      go_wp2_with fail
      go_round
      case rel => exact ⟨_, rfl, k + 1, by omega, rfl, by rw [HX.out]; exact r2⟩
      case measure => simp [intOf] <;> omega
    ·have z3 : (s0 == 3) = false:=by simp [h3]
     rw [z3] at hff
     have HFF : RowKit.Hid (_ = false):=Lib.hid (hff.trans (by simp))
     clear hff h3
     have HX:=Lib.hid (show swN m.closed (k + 1) m.ss = swN m.closed k m.ss by rw [sw_next HT.out]; unfold swOne; rw [HFF.out, if_neg (by simp)]; exact set_same HT.out)
     clear HFF
     go_wp2_with fail
     go_round
     case rel => exact ⟨_, rfl, k + 1, by omega, rfl, by rw [HX.out]; exact r2⟩
     case measure => simp [intOf] <;> omega
  ·obtain rfl : k = m.ss.length:=by omega
   have b1 : ¬ ((m.ss.length : Nat) : Int) < (m.ss.length : Int):=by omega
   have r1 : Rq W.heap.size W p wr2 p m.sweep:=by
    have hz : m.sweep = { m with ss:=swN m.closed m.ss.length m.ss }:=by rw [HSW.out]; rfl
    rw [hz]; exact r1
   have hR0 : tdQ W p m m.line.length wr2:=⟨m.line, m.sweep.ss, m.ks, p, rfl, r1, rfl, HW.out⟩
   have HR0:=Lib.hid hR0
   clear hlen k8 hR0 r1
   go_wp2_with fail
   go_loopg [4, 5] m.line.length (fun k _ _ wr => tdQ W p m k wr)
   case atStart => exact HR0.out
   case round =>
    clear k5 HR0 b0 b1
    obtain ⟨l, ss, ks, p1, rfl, r1, hfin, hat⟩:=hrel
    obtain ⟨lv1, ov1, rfl⟩:=r1.same
    have HFIN:=Lib.hid hfin
    have HAT:=Lib.hid hat
    have k7:=r1.at'.hd.c7
    have k8:=r1.at'.hd.c8
    try simp only at k7 k8
    clear hfin hat
    cases l with
    | nil =>
     obtain ⟨la, lc, hlv0⟩:=r1.at'.own.form
     simp only [List.length_nil] at hlv0
     subst hlv0
     have HE : RowKit.Hid (fin m.closed [] ss ks = (ss, ks, [])):=Lib.hid (by unfold fin; split <;> rfl)
     go_wp2_with fail
     first | go_end0 | refine bodyPost_ret (results_none rfl _ _ _) rfl ?_
     exact ⟨_, tq_fin r1 HFIN.out HE.out _⟩
    | cons who l =>
     obtain ⟨g, off, cap, hlv0, hcap1, hcap2, hgC, hcl, hfz, hxs⟩:=r1.at'.own.some (by simp)
     simp only [List.length_cons] at hlv0 hcap1
     subst hlv0
     have hx0 : wr.cell? ⟨g, off, none⟩ = some (.i who):=by simpa using hxs 0 _ rfl
     have hlo:=r1.at'.ok.line who (by simp)
     have hfew:=r1.at'.ok.few
     simp only [List.length_cons] at hlo hfew
     have hlp : (0 : Int) < ((l.length + 1 : Nat) : Int):=by omega
     have hlp' : 0 < l.length + 1:=by omega
     obtain ⟨q, rfl⟩:=Int.eq_ofNat_of_zero_le hlo.1
     clear hcl hfz hxs
     by_cases hc : m.closed = 0
     rotate_left
     ·have hc' : (m.closed == 0) = false:=by simp [hc]
      have HE : RowKit.Hid (fin m.closed ((q : Int) :: l) ss ks = (ss, ks, (q : Int) :: l)):=Lib.hid (by unfold fin; rw [if_neg hc])
      clear hc hx0
      go_wp2_with fail
      first | go_end0 | refine bodyPost_ret (results_none rfl _ _ _) rfl ?_
      exact ⟨_, tq_fin r1 HFIN.out HE.out _⟩
     have hc' : (m.closed == 0) = true:=by simp [hc]
     have HC:=Lib.hid hc
     have hfi:=q_first r1.at' 3 0 (by simp)
     have hf0 : M.first { m with ss:=ss, ks:=ks, line:=(q : Int) :: l } 3 0 = firstAt 3 0 ss:=rfl
     rw [hf0] at hfi
     clear hf0 hc
     cases hf : firstAt 3 0 ss with
     | none =>
      rw [hf] at hfi
      simp only [firstInt] at hfi
      have HE : RowKit.Hid (fin m.closed ((q : Int) :: l) ss ks = (ss, ks, (q : Int) :: l)):=Lib.hid (by unfold fin; rw [if_pos HC.out, M.grantL, hf])
      clear hf
      go_wp2_with fail
      refine hfi.mono ?_
      rintro e w2 ⟨rfl, hb2⟩
      have r2:=r1.below hb2
      clear hfi hb2 hx0 k7 k8
      go_wp2_with fail
      first | go_end0 | refine bodyPost_ret (results_none rfl _ _ _) rfl ?_
      exact ⟨_, tq_fin r2 HFIN.out HE.out _⟩
     | some i =>
      rw [hf] at hfi
      simp only [firstInt] at hfi
      obtain ⟨s, hs, hfit⟩:=first_some (m:={ m with ss:=ss }) (kind:=3) (own:=0) hf
      have HS : RowKit.Hid (ss[i]? = some s):=Lib.hid hs
      have HSt : RowKit.Hid (s.state = 2 ∨ s.state = 0):=Lib.hid (by simp [Find.fits, Find.sound] at hfit; omega)
      have HE : RowKit.Hid (fin m.closed ((q : Int) :: l) ss ks = fin m.closed l (turnL ss i (if s.state = 2 then 5 else 7) q 0) (ks.set q { ks[q]?.getD Wk.zero with at':=2, slot:=(i : Int) })):=Lib.hid (by
       unfold fin; rw [if_pos HC.out, if_pos HC.out, M.grantL, hf]; simp [hs])
      have i0 : (0 : Int) ≤ (i : Int):=by omega
      have i9 : ¬ (i : Int) < 0:=by omega
      clear hf hs hfit
      go_wp2_with fail
      refine hfi.mono ?_
      rintro e w2 ⟨rfl, hb2⟩
      have r2:=r1.below hb2
      have k7:=r2.at'.hd.c7
      have f7:=r2.at'.hd.f7
      have hx0:=Field.bkeep hb2 hx0
      try simp only at k7 f7
      have HFp : RowKit.Hid (∀ a n c k, Fp (.slice (some ⟨g, a, none⟩) n c) k → Fp (.slice (some ⟨g, off, none⟩) (l.length + 1) cap) k):=Lib.hid (fun a n c k hk => by rw [fp_some] at hk ⊢; exact hk)
      have hnmb : ¬ Fp (.slice (some ⟨g, off, none⟩) (l.length + 1) cap) p.mb:=by
       obtain ⟨t, t1, -, -, -, t6⟩:=r2.at'.tag
       intro hk
       have:=t6 _ hk
       simp only at t1
       omega
      have HO:=Lib.hid (own_tail_line (l:=l) (n:=l.length) (x:=(q : Int)) (by simpa using r2.at'.own) rfl)
      have HL8 : RowKit.Hid (l.length ≤ 8):=Lib.hid (by omega)
      have HLX : RowKit.Hid (∀ x ∈ l, 0 ≤ x ∧ x < (ks.length : Int)):=Lib.hid (fun x hx => r2.at'.ok.line x (by simp [hx]))
      have hil : i < ss.length:=(List.getElem?_eq_some_iff.1 HS.out).1
      have hnss:=r2.at'.ok.ns
      simp only at hnss
      clear hfi hb2 k8 r1
      have R2:=Lib.hid r2
      clear r2
      have c1 : (1 : Int) ≤ (cap : Int):=by omega
      have c1' : (1 : Int) ≤ ((l.length + 1 : Nat) : Int):=by omega
      have c2' : ((l.length + 1 : Nat) : Int) ≤ (cap : Int):=by omega
      go_upto_region 10 with (fail)
      go_cut [5] from 51 to 114 (fun v5 w' => v5 = .i q ∧ ∃ p3, Rq W.heap.size W p w' p3 { m with ss:=ss, ks:=ks, line:=l })
      case first =>
       by_cases hc1 : cap = 1
       ·have : True:=trivial
        subst hc1
        obtain rfl : l = []:=List.eq_nil_of_length_eq_zero (by omega)
        have HO3 : RowKit.Hid (OwnS w2 (Value.slice (some ⟨g, off, none⟩) 0 0) (([] : List Int)).length 1 (([] : List Int).map (Value.int .i64))):=Lib.hid (by have:=HO.out; rwa [if_pos rfl] at this)
        have HFq:=Lib.hid (fun k hk => HFp.out off 0 0 k hk)
        clear HO HFp
        go_wp2_with fail
        go_meet
        case rel =>
         have hC3 : Chg (fun k => k = p.mb) w2 (w2.setCell ⟨p.mb, 7, none⟩ (Value.slice (some ⟨g, off, none⟩) 0 0)):=(Chg.refl (fun k => k = p.mb) w2).setCell ⟨p.mb, 7, none⟩ (Value.slice (some ⟨g, off, none⟩) 0 0) (fun _ => rfl)
         have hO3 : OwnS (w2.setCell ⟨p.mb, 7, none⟩ (Value.slice (some ⟨g, off, none⟩) 0 0)) (Value.slice (some ⟨g, off, none⟩) 0 0) ([] : List Int).length 1 (([] : List Int).map (Value.int .i64)):=HO3.out.chg hC3 (fun k hk e => hnmb (by rw [← e]; exact HFq.out k hk))
         have hA3 : QAt (w2.setCell ⟨p.mb, 7, none⟩ (Value.slice (some ⟨g, off, none⟩) 0 0)) { p with lv:=(Value.slice (some ⟨g, off, none⟩) 0 0), ov:=ov1 } { m with ss:=ss, ks:=ks, line:=([] : List Int) }:=R2.out.at'.toLine (v':=(Value.slice (some ⟨g, off, none⟩) 0 0)) (l:=([] : List Int)) (W':=w2.setCell ⟨p.mb, 7, none⟩ (Value.slice (some ⟨g, off, none⟩) 0 0)) hO3 HL8.out HLX.out (fun k hk => .inl (HFq.out k hk)) (hC3.mono (fun k _ e => .inl e)) (qd_line R2.out.at'.hd _)
         exact ⟨rfl, { p with lv:=(Value.slice (some ⟨g, off, none⟩) 0 0), ov:=ov1 }, R2.out.line hA3 (fun k hk => .inl (HFq.out k hk)) (hC3.mono (fun k _ e => .inl e))⟩
       ·have : True:=trivial
        have HO3 : RowKit.Hid (OwnS w2 (Value.slice (some ⟨g, off + 1, none⟩) l.length (cap - 1)) l.length 1 (l.map (Value.int .i64))):=Lib.hid (by have:=HO.out; rwa [if_neg hc1] at this)
        have HFq:=Lib.hid (fun k hk => HFp.out (off + 1) l.length (cap - 1) k hk)
        clear HO HFp
        go_wp2_with fail
        go_meet
        case rel =>
         have hC3 : Chg (fun k => k = p.mb) w2 (w2.setCell ⟨p.mb, 7, none⟩ (Value.slice (some ⟨g, off + 1, none⟩) l.length (cap - 1))):=(Chg.refl (fun k => k = p.mb) w2).setCell ⟨p.mb, 7, none⟩ (Value.slice (some ⟨g, off + 1, none⟩) l.length (cap - 1)) (fun _ => rfl)
         have hO3 : OwnS (w2.setCell ⟨p.mb, 7, none⟩ (Value.slice (some ⟨g, off + 1, none⟩) l.length (cap - 1))) (Value.slice (some ⟨g, off + 1, none⟩) l.length (cap - 1)) l.length 1 (l.map (Value.int .i64)):=HO3.out.chg hC3 (fun k hk e => hnmb (by rw [← e]; exact HFq.out k hk))
         have hA3 : QAt (w2.setCell ⟨p.mb, 7, none⟩ (Value.slice (some ⟨g, off + 1, none⟩) l.length (cap - 1))) { p with lv:=(Value.slice (some ⟨g, off + 1, none⟩) l.length (cap - 1)), ov:=ov1 } { m with ss:=ss, ks:=ks, line:=l }:=R2.out.at'.toLine (v':=(Value.slice (some ⟨g, off + 1, none⟩) l.length (cap - 1))) (l:=l) (W':=w2.setCell ⟨p.mb, 7, none⟩ (Value.slice (some ⟨g, off + 1, none⟩) l.length (cap - 1))) hO3 HL8.out HLX.out (fun k hk => .inl (HFq.out k hk)) (hC3.mono (fun k _ e => .inl e)) (qd_line R2.out.at'.hd _)
         exact ⟨rfl, { p with lv:=(Value.slice (some ⟨g, off + 1, none⟩) l.length (cap - 1)), ov:=ov1 }, R2.out.line hA3 (fun k hk => .inl (HFq.out k hk)) (hC3.mono (fun k _ e => .inl e))⟩
      case rest =>
       obtain ⟨rfl, p3, r3⟩:=hcut
       generalize wc = w3 at *
       obtain ⟨lv3, ov3, rfl⟩:=r3.same
       have hql : q < ks.length:=by omega
       obtain ⟨kq, hkq⟩ : ∃ kq, ks[q]? = some kq:=⟨_, List.getElem?_eq_getElem hql⟩
       have hne:=HAT.out (q : Int) (by simp) kq (by simpa using hkq)
       have k6:=r3.at'.hd.c6
       have hnk:=r3.at'.ok.nk
       have g1:=r3.at'.works.1 q kq hkq 1 _ rfl
       have g2:=r3.at'.works.1 q kq hkq 2 _ rfl
       have z1:=r3.at'.works.2 q 1 hql (by omega)
       have z2:=r3.at'.works.2 q 2 hql (by omega)
       have hm1 : p.mb ≠ p.kb:=r3.at'.ne.2.1
       have hm2 : ¬ p.kb = p.mb:=fun e => hm1 e.symm
       have hwk:=r3.at'.works.two hkq (wcells_grant hne i)
       have hC4 : Chg (fun k => k = p.kb) w3 ((w3.setCell ⟨p.kb, q * 10 + 1, none⟩ (.bool false)).setCell ⟨p.kb, q * 10 + 2, none⟩ (.i ((i : Int) + 1))):=((Chg.refl (fun k => k = p.kb) w3).setCell ⟨p.kb, q * 10 + 1, none⟩ (.bool false) (fun _ => rfl)).setCell ⟨p.kb, q * 10 + 2, none⟩ (.i ((i : Int) + 1)) (fun _ => rfl)
       have hA4:=r3.at'.toWorks hC4 hwk (by simp) (by
        intro k hk h2
        rcases List.mem_or_eq_of_mem_set hk with hk | rfl
        ·exact r3.at'.ok.grants k hk h2
        ·exact ⟨by simp, by simpa using hil⟩)
       have r4:=r3.works hA4 hC4
       have HE2 : RowKit.Hid (fin m.closed ((q : Int) :: l) ss ks = fin m.closed l (turnL ss i (if s.state = 2 then 5 else 7) q 0) (ks.set q { kq with at':=2, slot:=(i : Int) })):=Lib.hid (by rw [HE.out, hkq]; rfl)
       have HAT2 : RowKit.Hid (∀ x ∈ l, ∀ k, (ks.set q { kq with at':=2, slot:=(i : Int) })[x.toNat]? = some k → k.at' ≠ 0):=Lib.hid (fun x hx k hk => by
        rw [List.getElem?_set] at hk
        split at hk
        ·rename_i hqx
         first | (cases hk; simp; done) | (split at hk <;> first | (cases hk; simp; done) | cases hk)
        ·exact HAT.out x (by simp [hx]) k hk)
       try simp only at k6 g1 g2 z1 z2 hnk
       have q0 : (0 : Int) ≤ (q : Int):=by omega
       have q1 : (q : Int) < (ks.length : Int):=by omega
       have q2 : (q : Int) ≤ (ks.length : Int) - 1:=by omega
       have i8 : (i : Int) + 1 ≤ 17:=by omega
       have R4:=Lib.hid r4
       clear HE HAT hkq hne hwk hC4 hA4 r3 r4 hx0 k7 f7 hnmb HO HFp R2
       go_upto_region 13 with (fail)
       generalize (w3.setCell ⟨p.kb, q * 10 + 1, none⟩ (.bool false)).setCell ⟨p.kb, q * 10 + 2, none⟩ (.i ((i : Int) + 1)) = w4 at *
       have r5:=R4.out
       have c5:=r5.at'.hd.c5
       have cS:=(r5.at'.slots.get HS.out).1
       try simp only at c5 cS
       have b0 : (0 : Int) ≤ (i : Int):=by omega
       have b1 : (i : Int) < (ss.length : Int):=by omega
       have b2 : (i : Int) ≤ (ss.length : Int) - 1:=by omega
       clear k6 g1 g2 z1 z2 q1 q2 i8 R4 hm1 hm2
       rcases HSt.out with h2 | h2
       ·have s2 : (s.state == 2) = true:=by rw [h2]; rfl
        have HDO : RowKit.Hid ((if s.state = 2 then 5 else 7) = 5):=Lib.hid (if_pos h2)
        clear h2
        have ht:=q_do r5.at' i 5 i 5 q 0 s HS.out rfl rfl (by simp [Mod.Done])
        rw [r5.mb] at ht
        go_wp2_with fail
        refine ht.mono ?_
        rintro e w6 ⟨rfl, h6, hc6⟩
        have r6:=r5.slots h6 hc6
        have HRE : RowKit.Hid (tdQ W p m l.length w6):=Lib.hid ⟨l, _, _, _, rfl, r6, by have h1:=HE2.out; rw [HDO.out] at h1; exact h1.symm.trans HFIN.out, HAT2.out⟩
        clear ht h6 hc6 r5 r6
        go_wp2_with fail
        go_roundg l.length
        case measure => simp
        case rel => exact HRE.out
       ·have s2 : (s.state == 2) = false:=by rw [h2]; rfl
        have HDO : RowKit.Hid ((if s.state = 2 then 5 else 7) = 7):=Lib.hid (if_neg (by omega))
        clear h2
        have ht:=q_do r5.at' i 7 i 7 q 0 s HS.out rfl rfl (by simp [Mod.Done])
        rw [r5.mb] at ht
        go_wp2_with fail
        refine ht.mono ?_
        rintro e w6 ⟨rfl, h6, hc6⟩
        have r6:=r5.slots h6 hc6
        have HRE : RowKit.Hid (tdQ W p m l.length w6):=Lib.hid ⟨l, _, _, _, rfl, r6, by have h1:=HE2.out; rw [HDO.out] at h1; exact h1.symm.trans HFIN.out, HAT2.out⟩
        clear ht h6 hc6 r5 r6
        go_wp2_with fail
        go_roundg l.length
        case measure => simp
        case rel => exact HRE.out
end Go.Proofs.YtpmkgddjgebojaaGreatDoor.Mod
