/- Part 47 of the walks and plain laws that the last text joins. -/
import Derived.Test.YtpmkgddjgebojaaGreatDoorE39
import Derived.Test.YtpmkgddjgebojaaGreatDoorE46
set_option maxRecDepth 100000
set_option maxHeartbeats 16000000
set_option linter.unusedVariables false
set_option linter.unusedSimpArgs false
namespace Go.Proofs.YtpmkgddjgebojaaGreatDoor.Mod
open Go.RowKit Hp Slot RowL Life
section
variable {m : M} {ws gs : List Int} {e : Int}
end
section
variable {m m' : M} {ws gs : List Int} {e : Int} {y : Ev}
end
section
variable {m : M} {ws gs : List Int} {e : Int}
end
theorem conf_store {w : World} {g : Nat} {Z : Array Value} {t : TypeId} (h : RowAt w g Z t) (hz : Z.size = 5) (c : Conf.Cf) : (storeCells ⟨g, 0, none⟩ c.cells.toList 0).run Tryz.prog w = .ok () (w.setRow g c.cells):=by
 have h4:=run_storeCells_from (P:=Tryz.prog) g t c.cells.toList 0 Z w h (by simp [Conf.Cf.cells, hz]) (fun v hv => by simp [Conf.Cf.cells] at hv; rcases hv with rfl | rfl | rfl | rfl | rfl <;> rfl)
 simpa using h4
structure PQ (W0 : World) (K : Nat → Prop) (mb qb wb : Nat) (ev : Value) (W : World) (p : Pl) (q : Ql) (m1 m2 : M) (evs : List Ev) : Prop where
 play : PlayB W0 (fun j => K j ∨ qfp q j) mb ev W p m1 evs
 qat : QAt W q m2
 qb : q.mb = qb
 wb : q.wb = wb
 kq : ∀ g, K g → ¬ qfp q g
 newQ : ∀ j, qfp q j → W0.heap.size ≤ j
section
variable {W0 W W' : World} {K : Nat → Prop} {mb qb wb : Nat} {ev ans : Value} {p : Pl} {q : Ql} {m1 m2 m' : M} {evs : List Ev} {e : Ending}
theorem PQ.ltK (h : PQ W0 K mb qb wb ev W p q m1 m2 evs) {j : Nat} (hj : K j) : j < W.heap.size:=h.play.ltK (.inl hj)
theorem PQ.below' (h : PQ W0 K mb qb wb ev W p q m1 m2 evs) (hb : Below W.heap.size W W') : PQ W0 K mb qb wb ev W' p q m1 m2 evs :=
 ⟨h.play.below' hb, h.qat.below hb, h.qb, h.wb, h.kq, h.newQ⟩
theorem PQ.less {K' : Nat → Prop} (h : PQ W0 K mb qb wb ev W p q m1 m2 evs) (hk : ∀ j, K' j → K j) : PQ W0 K' mb qb wb ev W p q m1 m2 evs :=
 ⟨h.play.less (fun j hj => hj.imp (hk j) id), h.qat, h.qb, h.wb, fun g hg => h.kq g (hk g hg), h.newQ⟩
theorem PQ.keepX (h : PQ W0 K mb qb wb ev W p q m1 m2 evs) (hb : Below W.heap.size W W') : ∃ K' : Nat → Prop, PQ W0 K' mb qb wb ev W' p q m1 m2 evs ∧ (∀ j, K j → K' j) ∧ ∀ j, W.heap.size ≤ j → j < W'.heap.size → K' j :=
 ⟨fun j => K j ∨ (W.heap.size ≤ j ∧ j < W'.heap.size), ⟨(h.play.keep hb).less (fun j hj => by
   rcases hj with (hj | hj) | hj
   ·exact .inl (.inl hj)
   ·exact .inr hj
   ·exact .inl (.inr hj)), h.qat.below hb, h.qb, h.wb, fun g hg hq => by
   rcases hg with hg | hg
   ·exact h.kq g hg hq
   ·have:=h.qat.lt hq; omega, h.newQ⟩, fun j hj => .inl hj, fun j h1 h2 => .inr ⟨h1, h2⟩⟩
theorem PQ.same (h : PQ W0 K mb qb wb ev W p q m1 m2 evs) (hb : Below W.heap.size W W') : Same K W W':=(h.play.same hb).mono (fun j hj => .inl hj)
theorem PQ.mpost (h : PQ W0 K mb qb wb ev W p q m1 m2 evs) (hm : MPost W p ans m' e W') : e = .returned ans ∧ ∃ p', PQ W0 K mb qb wb ev W' p' q m' m2 evs ∧ Same K W W':=by
 obtain ⟨he, p', hB, hS⟩:=h.play.post hm
 exact ⟨he, p', ⟨hB, h.qat.keep hS.1 (fun k hk => hS.2 k (.inr hk)), h.qb, h.wb, h.kq, h.newQ⟩, hS.mono (fun j hj => .inl hj)⟩
theorem PQ.qpost (h : PQ W0 K mb qb wb ev W p q m1 m2 evs) (hm : QPost W q ans m' e W') : e = .returned ans ∧ ∃ q', PQ W0 K mb qb wb ev W' p q' m1 m' evs ∧ Same K W W':=by
 obtain ⟨h0, lv, ov, h1, h2, h3, h4⟩:=hm
 have hq : ∀ k, qfp { q with lv:=lv, ov:=ov } k → qfp q k ∨ W.heap.size ≤ k:=by
  rintro k (hk | hk | hk | hk | hk)
  ·exact .inl (.inl hk)
  ·exact .inl (.inr (.inl hk))
  ·exact .inl (.inr (.inr (.inl hk)))
  ·rcases hk with hk | hk
   ·exact .inl (.inr (.inr (.inr (.inl (.inl hk)))))
   ·exact (h3 k hk).imp (fun h => .inr (.inr (.inr (.inl (.inr h))))) id
  ·exact (h2 k hk).imp (fun h => .inr (.inr (.inr (.inr h)))) id
 have hp:=h.play
 have hs:=hp.below.size
 have hpos:=hp.pos
 have h00 : ¬ qfp q 0:=fun hk => by have:=h.newQ 0 hk; omega
 refine ⟨h0, { q with lv:=lv, ov:=ov }, ⟨⟨hp.pos, hp.mb, hp.at'.chg h4 (fun k hk hf => (hp.kept k (.inr hf)).2.1 hk) h00, hp.evs.chg h4 (fun k hk hf => (hp.kept k (.inr hf)).2.2 hk), hp.new, hp.newE, hp.own, fun j hj => ?_, hp.below.trans (h4.below hs (fun j hj => h.newQ j hj))⟩, h1, h.qb, h.wb, fun g hg hk => ?_, fun j hj => ?_⟩, h4.size, fun j hj => h4.block j (h.ltK hj) (h.kq j hj)⟩
 ·rcases hj with hj | hj
  ·have:=hp.kept j (.inl hj)
   exact ⟨Nat.lt_of_lt_of_le this.1 h4.size, this.2⟩
  ·rcases hq j hj with hk | hk
   ·have:=hp.kept j (.inr hk)
    exact ⟨Nat.lt_of_lt_of_le this.1 h4.size, this.2⟩
   ·exact ⟨h1.lt hj, fun hm => by have:=hp.at'.lt hm; omega, fun hm => by have:=hp.evs.lt hm; omega⟩
 ·rcases hq g hk with hk | hk
  ·exact h.kq g hg hk
  ·have:=h.ltK hg; omega
 ·rcases hq j hj with hk | hk
  ·exact h.newQ j hk
  ·omega
theorem PQ.append (h : PQ W0 K mb qb wb ev W p q m1 m2 evs) {x : Ev} {a' : Option Addr} {c' : Nat} (ho : OwnS W' (.slice a' (evs.length + 1) c') (evs.length + 1) 18 (flatE evs ++ x.cells.toList))
  (hf : ∀ k, Fp (.slice a' (evs.length + 1) c') k → Fp ev k ∨ W.heap.size ≤ k) (hC : Chg (Fp ev) W W') : PQ W0 K mb qb wb (.slice a' (evs.length + 1) c') W' p q m1 m2 (evs ++ [x]) ∧ Same K W W':=by
 obtain ⟨hB, hS⟩:=h.play.append ho hf hC
 exact ⟨⟨hB, h.qat.keep hS.1 (fun k hk => hS.2 k (.inr hk)), h.qb, h.wb, h.kq, h.newQ⟩, hS.mono (fun j hj => .inl hj)⟩
theorem PQ.start (h : PlayB W0 K mb ev W p m1 evs) (hb : Below W.heap.size W W') (hq : QAt W' q m2) (hn : ∀ k, qfp q k → W.heap.size ≤ k) : PQ W0 K mb q.mb q.wb ev W' p q m1 m2 evs :=
 ⟨(h.keep hb).less (fun j hj => hj.imp id (fun hk => ⟨hn j hk, hq.lt hk⟩)), hq, rfl, rfl, fun g hg hk => by have:=h.ltK hg; have:=hn g hk; omega, fun j hj => Nat.le_trans h.below.size (hn j hj)⟩
end
def Sq (W0 : World) (K : Nat → Prop) (mb qb wb : Nat) (w9 : World) (m : M) (evs : List Ev) (x : En) (ev' : Value) (W' : World) : Prop:=∃ p' q', PQ W0 K mb qb wb ev' W' p' q' (m.entry x).2 (m.entry x).2 (told evs (m.entry x).1) ∧ Same K w9 W'
section
variable {W0 w9 W' : World} {K : Nat → Prop} {mb qb wb : Nat} {ev' : Value} {p' : Pl} {q' : Ql} {m m' : M} {evs : List Ev} {x : En} {y : Ev}
theorem Sq.none (he : m.entry x = (Option.none, m')) (h : PQ W0 K mb qb wb ev' W' p' q' m' m' evs) (hs : Same K w9 W') : Sq W0 K mb qb wb w9 m evs x ev' W':=⟨p', q', by rw [he]; simpa [told] using h, hs⟩
theorem Sq.some (he : m.entry x = (Option.some y, m')) (h : PQ W0 K mb qb wb ev' W' p' q' m' m' (evs ++ [y])) (hs : Same K w9 W') : Sq W0 K mb qb wb w9 m evs x ev' W':=⟨p', q', by rw [he]; simpa [told] using h, hs⟩
end
end Go.Proofs.YtpmkgddjgebojaaGreatDoor.Mod
