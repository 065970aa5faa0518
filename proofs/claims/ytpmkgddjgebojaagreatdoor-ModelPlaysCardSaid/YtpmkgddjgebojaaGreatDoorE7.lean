/- Part 7 of the walks and plain laws that the last text joins. -/
import Derived.Test.YtpmkgddjgebojaaGreatDoorE4
import Derived.Test.YtpmkgddjgebojaaGreatDoorE5
import Derived.Test.YtpmkgddjgebojaaGreatDoorE6
set_option maxRecDepth 100000
set_option maxHeartbeats 16000000
set_option linter.unusedVariables false
set_option linter.unusedSimpArgs false
namespace Go.Proofs.YtpmkgddjgebojaaGreatDoor.Mod
open Go.RowKit Hp Slot RowL Life
def WorksAt (W : World) (kb : Nat) (ks : List Wk) : Prop :=
 (∀ (i : Nat) (k : Wk), ks[i]? = some k → ∀ (j : Nat) (v : Value), k.cells[j]? = some v → W.cell? ⟨kb, i * 9 + j, none⟩ = some v) ∧ (∀ i j : Nat, i < ks.length → j < 9 → W.frozen? ⟨kb, i * 9 + j, none⟩ = false)
section
variable {W W' : World} {kb : Nat} {ks : List Wk}
theorem WorksAt.stable (h : WorksAt W kb ks) (hb : W'.heap[kb]? = W.heap[kb]?) : WorksAt W' kb ks :=
 ⟨fun i s hs j v hv => (World.cell?_of_block (w:=W) hb).trans (h.1 i s hs j v hv), fun i j hi hj => (World.frozen?_of_block (w:=W) hb).trans (h.2 i j hi hj)⟩
theorem WorksAt.get (h : WorksAt W kb ks) {i : Nat} {k : Wk} (hs : ks[i]? = some k) : W.cell? ⟨kb, i * 9, none⟩ = some (.i k.at') ∧ W.cell? ⟨kb, i * 9 + 1, none⟩ = some (.i k.ask.op) ∧ W.cell? ⟨kb, i * 9 + 2, none⟩ = some (.i k.ask.deadline) ∧ W.cell? ⟨kb, i * 9 + 3, none⟩ = some (.bool k.ask.wait) ∧ W.cell? ⟨kb, i * 9 + 4, none⟩ = some (.bool k.ask.force) ∧ W.cell? ⟨kb, i * 9 + 5, none⟩ = some (.i k.ask.slot) ∧ W.cell? ⟨kb, i * 9 + 6, none⟩ = some (.i k.ask.gen) ∧ W.cell? ⟨kb, i * 9 + 7, none⟩ = some (.i k.ask.stream) ∧ W.cell? ⟨kb, i * 9 + 8, none⟩ = some (.i k.slot) :=
 ⟨h.1 i k hs 0 _ rfl, h.1 i k hs 1 _ rfl, h.1 i k hs 2 _ rfl, h.1 i k hs 3 _ rfl, h.1 i k hs 4 _ rfl, h.1 i k hs 5 _ rfl, h.1 i k hs 6 _ rfl, h.1 i k hs 7 _ rfl, h.1 i k hs 8 _ rfl⟩
theorem WorksAt.lt (h : WorksAt W kb ks) (hn : 0 < ks.length) : kb < W.heap.size:=World.block_lt_of_cell? _ _ (h.1 0 ks[0] (List.getElem?_eq_getElem hn) 0 _ rfl)
theorem WorksAt.setL (h : WorksAt W kb ks) {i : Nat} (hi : i < ks.length) (k : Wk) : WorksAt (W.setCells kb (i * 9) k.cells.toList) kb (ks.set i k):=by
 obtain ⟨h1, h2⟩:=h
 have hl : k.cells.toList.length = 9:=rfl
 have hlen : ∀ j : Nat, j < k.cells.toList.length → (W.cell? ⟨kb, i * 9 + j, none⟩).isSome = true:=fun j hj => by
  rw [h1 i ks[i] (List.getElem?_eq_getElem hi) j _ (Array.getElem?_eq_getElem (by simpa [Wk.cells] using hj))]; rfl
 refine ⟨fun q t ht j v hv => ?_, fun q j hq hj => ?_⟩
 ·have hj : j < 9:=by have:=(Array.getElem?_eq_some_iff.1 hv).1; simpa [Wk.cells] using this
  rw [List.getElem?_set] at ht
  by_cases hki : i = q
  ·subst hki
   simp [hi] at ht
   subst ht
   rw [World.cell?_setCells_in kb _ _ _ hlen j (by omega)]
   rw [← hv]
   simp
  ·rw [if_neg hki] at ht
   rw [World.cell?_setCells_out kb _ _ _ _ (fun _ _ => by simp only [hl]; omega)]
   exact h1 q t ht j v hv
 ·simp at hq
  rw [World.frozen?_setCells]
  exact h2 q j hq hj
theorem WorksAt.set1 (h : WorksAt W kb ks) {i : Nat} {k k' : Wk} (hi : ks[i]? = some k) (c : Nat) (hc9 : c < 9) (v : Value) (hc : k'.cells = k.cells.setIfInBounds c v) : WorksAt (W.setCell ⟨kb, i * 9 + c, none⟩ v) kb (ks.set i k'):=by
 obtain ⟨h1, h2⟩:=h
 have hil : i < ks.length:=(List.getElem?_eq_some_iff.1 hi).1
 refine ⟨fun q t ht j u hu => ?_, fun q j hq hj => ?_⟩
 ·have hj : j < 9:=by have:=(Array.getElem?_eq_some_iff.1 hu).1; simpa [Wk.cells] using this
  rw [List.getElem?_set] at ht
  by_cases hki : i = q
  ·subst hki
   simp [hil] at ht
   subst ht
   rw [hc, Array.getElem?_setIfInBounds] at hu
   by_cases hcj : c = j
   ·subst hcj
    simp [Wk.cells, hj] at hu
    subst hu
    exact World.cell?_setCell_same _ _ _ (h1 i k hi c _ (Array.getElem?_eq_getElem (by simpa [Wk.cells] using hj)))
   ·rw [if_neg hcj] at hu
    rw [World.cell?_setCell_other _ _ _ _ (by simp <;> omega)]
    exact h1 i k hi j u hu
  ·rw [if_neg hki] at ht
   rw [World.cell?_setCell_other _ _ _ _ (by simp <;> omega)]
   exact h1 q t ht j u hu
 ·simp at hq
  simp [h2 q j hq hj]
end
structure Pl where
 mb : Nat
 sb : Nat
 kb : Nat
 cb : Nat
 wb : Nat
 rb : Nat
 lv : Value
 rv : Value
def mfp (p : Pl) (k : Nat) : Prop:=k = p.mb ∨ k = p.sb ∨ k = p.kb ∨ k = p.cb ∨ World11.wfp p.wb p.rb p.rv k ∨ Fp p.lv k
structure M.ok (m : M) : Prop where
 conf : m.cf.right = true
 nss : (m.ss.length : Int) = m.cf.slots
 nks : (m.ks.length : Int) = m.cf.workers
 rights : ∀ s ∈ m.ss, s.right = true
 line : ∀ x ∈ m.line, 0 ≤ x ∧ x < m.ks.length
 few : m.line.length ≤ 8
 grants : ∀ k ∈ m.ks, k.at' = 2 → 0 ≤ k.slot ∧ k.slot < m.ss.length
 closed : m.closed = 0 ∨ m.closed = 1 ∨ m.closed = 2
 now : 0 ≤ m.now ∧ m.now ≤ 1099511627776
 ahead : m.ahead.length ≤ 1000
theorem M.ok.ns {m : M} (h : m.ok) : 1 ≤ m.ss.length ∧ m.ss.length ≤ 16:=by
 have h1:=h.nss
 have h2:=h.conf
 simp [Conf.Cf.right, Conf.btw] at h2
 omega
theorem M.ok.nk {m : M} (h : m.ok) : 1 ≤ m.ks.length ∧ m.ks.length ≤ 8:=by
 have h1:=h.nks
 have h2:=h.conf
 simp [Conf.Cf.right, Conf.btw] at h2
 omega
structure Hd (W : World) (p : Pl) (c : Conf.Cf) (ns nk : Nat) (closed : Int) : Prop where
 c0 : W.cell? ⟨p.mb, 0, none⟩ = some (.i c.workers)
 c1 : W.cell? ⟨p.mb, 1, none⟩ = some (.i c.slots)
 c2 : W.cell? ⟨p.mb, 2, none⟩ = some (.i c.streams)
 c3 : W.cell? ⟨p.mb, 3, none⟩ = some (.i c.waiters)
 c4 : W.cell? ⟨p.mb, 4, none⟩ = some (.i c.uses)
 c5 : W.cell? ⟨p.mb, 5, none⟩ = some (.slice (some ⟨p.sb, 0, none⟩) ns ns)
 c6 : W.cell? ⟨p.mb, 6, none⟩ = some (.slice (some ⟨p.kb, 0, none⟩) nk nk)
 c7 : W.cell? ⟨p.mb, 7, none⟩ = some p.lv
 c8 : W.cell? ⟨p.mb, 8, none⟩ = some (.i closed)
 c9 : W.cell? ⟨p.mb, 9, none⟩ = some (.pointer (some ⟨p.cb, 0, none⟩))
 c10 : W.cell? ⟨p.mb, 10, none⟩ = some (.pointer (some ⟨p.wb, 0, none⟩))
 f7 : W.frozen? ⟨p.mb, 7, none⟩ = false
 f8 : W.frozen? ⟨p.mb, 8, none⟩ = false
theorem Hd.stable {W W' : World} {p : Pl} {c : Conf.Cf} {ns nk : Nat} {closed : Int} (h : Hd W p c ns nk closed) (hb : W'.heap[p.mb]? = W.heap[p.mb]?) : Hd W' p c ns nk closed:=by
 have e : ∀ o, W'.cell? ⟨p.mb, o, none⟩ = W.cell? ⟨p.mb, o, none⟩:=fun o => World.cell?_of_block (w:=W) hb
 have f : ∀ o, W'.frozen? ⟨p.mb, o, none⟩ = W.frozen? ⟨p.mb, o, none⟩:=fun o => World.frozen?_of_block (w:=W) hb
 constructor <;> first | (rw [e]; first | exact h.c0 | exact h.c1 | exact h.c2 | exact h.c3 | exact h.c4 | exact h.c5 | exact h.c6 | exact h.c7 | exact h.c8 | exact h.c9 | exact h.c10) | (rw [f]; first | exact h.f7 | exact h.f8)
theorem Hd.rv {W : World} {p : Pl} {c : Conf.Cf} {ns nk : Nat} {closed : Int} (h : Hd W p c ns nk closed) (v : Value) : Hd W { p with rv:=v } c ns nk closed:=⟨h.c0, h.c1, h.c2, h.c3, h.c4, h.c5, h.c6, h.c7, h.c8, h.c9, h.c10, h.f7, h.f8⟩
structure MAt (W : World) (p : Pl) (m : M) : Prop where
 laid : Laid W
 tag : ∃ t : Nat → Nat, t 0 = 0 ∧ t p.mb = 1 ∧ t p.sb = 2 ∧ t p.kb = 3 ∧ t p.cb = 4 ∧ (∀ k, World11.wfp p.wb p.rb p.rv k → t k = 5) ∧ ∀ k, Fp p.lv k → t k = 6
 hd : Hd W p m.cf m.ss.length m.ks.length m.closed
 slots : SlotsAt W p.sb m.ss
 works : WorksAt W p.kb m.ks
 clk : W.cell? ⟨p.cb, 0, none⟩ = some (.i m.now)
 clkf : W.frozen? ⟨p.cb, 0, none⟩ = false
 wld : ∃ g b, World11.WAt W p.wb p.rb p.rv m.ahead g b
 own : OwnS W p.lv m.line.length 1 (m.line.map (Value.int .i64))
 ok : m.ok
section
variable {W W' : World} {p : Pl} {m : M}
theorem MAt.lt (h : MAt W p m) {k : Nat} (hk : mfp p k) : k < W.heap.size:=by
 obtain ⟨g, b, hw⟩:=h.wld
 rcases hk with rfl | rfl | rfl | rfl | hk | hk
 ·exact World.block_lt_of_cell? _ _ h.hd.c0
 ·exact h.slots.lt h.ok.ns.1
 ·exact h.works.lt h.ok.nk.1
 ·exact World.block_lt_of_cell? _ _ h.clk
 ·exact hw.lt hk
 ·exact h.own.lt hk
theorem MAt.lt0 (h : MAt W p m) : 0 < W.heap.size:=h.laid.lt (by decide)
theorem MAt.ne (h : MAt W p m) : ¬ mfp p 0 ∧ p.mb ≠ p.sb ∧ p.mb ≠ p.kb ∧ p.mb ≠ p.cb ∧ p.sb ≠ p.kb ∧ p.sb ≠ p.cb ∧ p.kb ≠ p.cb:=by
 obtain ⟨t, t0, t1, t2, t3, t4, t5, t6⟩:=h.tag
 refine ⟨?_, fun e => ?_, fun e => ?_, fun e => ?_, fun e => ?_, fun e => ?_, fun e => ?_⟩
 ·rintro (e | e | e | e | e | e)
  ·rw [← e] at t1; omega
  ·rw [← e] at t2; omega
  ·rw [← e] at t3; omega
  ·rw [← e] at t4; omega
  ·have:=t5 _ e; omega
  ·have:=t6 _ e; omega
 all_goals (have e':=congrArg t e; omega)
theorem MAt.keep (h : MAt W p m) (hs : W.heap.size ≤ W'.heap.size) (hb : ∀ k, mfp p k → W'.heap[k]? = W.heap[k]?) (h0 : W'.heap[0]? = W.heap[0]?) : MAt W' p m:=by
 obtain ⟨g, b, hw⟩:=h.wld
 exact ⟨h.laid.stable h0, h.tag, h.hd.stable (hb _ (.inl rfl)), h.slots.stable (hb _ (.inr (.inl rfl))), h.works.stable (hb _ (.inr (.inr (.inl rfl)))),
  (World.cell?_of_block (w:=W) (hb p.cb (.inr (.inr (.inr (.inl rfl)))))).trans h.clk, (World.frozen?_of_block (w:=W) (hb p.cb (.inr (.inr (.inr (.inl rfl)))))).trans h.clkf,
  ⟨g, b, hw.stable hs fun k hk => hb k (.inr (.inr (.inr (.inr (.inl hk)))))⟩, h.own.stable hs fun k hk => hb k (.inr (.inr (.inr (.inr (.inr hk))))), h.ok⟩
theorem MAt.chg {F : Nat → Prop} (h : MAt W p m) (hc : Chg F W W') (hf : ∀ k, mfp p k → ¬ F k) (h0 : ¬ F 0) : MAt W' p m :=
 h.keep hc.size (fun k hk => hc.block k (h.lt hk) (hf k hk)) (hc.block 0 h.lt0 h0)
theorem MAt.below (h : MAt W p m) (hb : Below W.heap.size W W') : MAt W' p m:=h.keep hb.size (fun k hk => hb.block k (h.lt hk)) (hb.block 0 h.lt0)
theorem MAt.drew (h : MAt W p m) : MAt W.drew p m:=h.keep (Nat.le_refl _) (fun _ _ => rfl) rfl
theorem MAt.alloc (h : MAt W p m) (o : Obj) : MAt (W.alloc o) p m:=h.below ((Below.refl _ _).alloc (Nat.le_refl _) _)
theorem MAt.toSlots (h : MAt W p m) {ss : List S} (hc : Chg (fun k => k = p.sb) W W') (hs : SlotsAt W' p.sb ss) (hl : ss.length = m.ss.length) (hr : ∀ s ∈ ss, s.right = true) : MAt W' p { m with ss:=ss }:=by
 obtain ⟨t, t0, t1, t2, t3, t4, t5, t6⟩:=h.tag
 obtain ⟨g, b, hw⟩:=h.wld
 have hb : ∀ k, t k ≠ 2 → k < W.heap.size → W'.heap[k]? = W.heap[k]?:=fun k hk hlt => hc.block k hlt (fun e => hk (by rw [e]; exact t2))
 have hk:=h.ok
 refine ⟨h.laid.stable (hb 0 (by omega) h.lt0), ⟨t, t0, t1, t2, t3, t4, t5, t6⟩, ?_, hs, h.works.stable (hb _ (by omega) (h.lt (.inr (.inr (.inl rfl))))), ?_, ?_, ⟨g, b, hw.stable hc.size fun k hk => hb k (by rw [t5 k hk]; omega) (hw.lt hk)⟩,
  h.own.stable hc.size fun k hk => hb k (by rw [t6 k hk]; omega) (h.own.lt hk), ⟨hk.conf, by simpa [hl] using hk.nss, hk.nks, hr, hk.line, hk.few, by simpa [hl] using hk.grants, hk.closed, hk.now, hk.ahead⟩⟩
 ·simpa [hl] using h.hd.stable (hb p.mb (by omega) (h.lt (.inl rfl)))
 ·exact (World.cell?_of_block (w:=W) (hb p.cb (by omega) (h.lt (.inr (.inr (.inr (.inl rfl))))))).trans h.clk
 ·exact (World.frozen?_of_block (w:=W) (hb p.cb (by omega) (h.lt (.inr (.inr (.inr (.inl rfl))))))).trans h.clkf
theorem MAt.toWorks (h : MAt W p m) {ks : List Wk} (hc : Chg (fun k => k = p.kb) W W') (hs : WorksAt W' p.kb ks) (hl : ks.length = m.ks.length) (hg : ∀ k ∈ ks, k.at' = 2 → 0 ≤ k.slot ∧ k.slot < m.ss.length) : MAt W' p { m with ks:=ks }:=by
 obtain ⟨t, t0, t1, t2, t3, t4, t5, t6⟩:=h.tag
 obtain ⟨g, b, hw⟩:=h.wld
 have hb : ∀ k, t k ≠ 3 → k < W.heap.size → W'.heap[k]? = W.heap[k]?:=fun k hk hlt => hc.block k hlt (fun e => hk (by rw [e]; exact t3))
 have hk:=h.ok
 refine ⟨h.laid.stable (hb 0 (by omega) h.lt0), ⟨t, t0, t1, t2, t3, t4, t5, t6⟩, ?_, h.slots.stable (hb _ (by omega) (h.lt (.inr (.inl rfl)))), hs, ?_, ?_, ⟨g, b, hw.stable hc.size fun k hk => hb k (by rw [t5 k hk]; omega) (hw.lt hk)⟩,
  h.own.stable hc.size fun k hk => hb k (by rw [t6 k hk]; omega) (h.own.lt hk), ⟨hk.conf, hk.nss, by simpa [hl] using hk.nks, hk.rights, by simpa [hl] using hk.line, hk.few, hg, hk.closed, hk.now, hk.ahead⟩⟩
 ·simpa [hl] using h.hd.stable (hb p.mb (by omega) (h.lt (.inl rfl)))
 ·exact (World.cell?_of_block (w:=W) (hb p.cb (by omega) (h.lt (.inr (.inr (.inr (.inl rfl))))))).trans h.clk
 ·exact (World.frozen?_of_block (w:=W) (hb p.cb (by omega) (h.lt (.inr (.inr (.inr (.inl rfl))))))).trans h.clkf
theorem MAt.toWorld (h : MAt W p m) {v' : Value} {l : List Bool} {g b : Int} (hw' : World11.WAt W' p.wb p.rb v' l g b) (hl : l.length ≤ 1000) (hF : ∀ k, Fp v' k → Fp p.rv k ∨ W.heap.size ≤ k) (hc : Chg (World11.wfp p.wb p.rb p.rv) W W') :
  MAt W' { p with rv:=v' } { m with ahead:=l }:=by
 obtain ⟨t, t0, t1, t2, t3, t4, t5, t6⟩:=h.tag
 have hb : ∀ k, t k ≠ 5 → k < W.heap.size → W'.heap[k]? = W.heap[k]?:=fun k hk hlt => hc.block k hlt (fun e => hk (t5 k e))
 have hk:=h.ok
 have hlt : ∀ k, mfp p k → k < W.heap.size:=fun k hk => h.lt hk
 have l1:=hlt p.mb (.inl rfl)
 have l2:=hlt p.sb (.inr (.inl rfl))
 have l3:=hlt p.kb (.inr (.inr (.inl rfl)))
 have l4:=hlt p.cb (.inr (.inr (.inr (.inl rfl))))
 refine ⟨h.laid.stable (hb 0 (by omega) h.lt0), ⟨fun k => if k < W.heap.size then t k else 5, ?_, ?_, ?_, ?_, ?_, ?_, ?_⟩, (h.hd.stable (hb _ (by omega) l1)).rv v', h.slots.stable (hb _ (by omega) l2), h.works.stable (hb _ (by omega) l3),
  (World.cell?_of_block (w:=W) (hb p.cb (by omega) l4)).trans h.clk, (World.frozen?_of_block (w:=W) (hb p.cb (by omega) l4)).trans h.clkf, ⟨g, b, hw'⟩,
  h.own.stable hc.size fun k hk => hb k (by rw [t6 k hk]; omega) (h.own.lt hk), ⟨hk.conf, hk.nss, hk.nks, hk.rights, hk.line, hk.few, hk.grants, hk.closed, hk.now, hl⟩⟩
 ·simp [h.lt0, t0]
 ·simp [l1, t1]
 ·simp [l2, t2]
 ·simp [l3, t3]
 ·simp [l4, t4]
 ·intro k hk
  show (if k < W.heap.size then t k else 5) = 5
  by_cases hkk : k < W.heap.size
  ·rw [if_pos hkk]
   refine t5 k ?_
   rcases hk with rfl | rfl | hk
   ·exact .inl rfl
   ·exact .inr (.inl rfl)
   ·rcases hF k hk with hk | hk
    ·exact .inr (.inr hk)
    ·omega
  ·rw [if_neg hkk]
 ·intro k hk
  have:=h.own.lt hk
  simp [this, t6 k hk]
theorem MAt.toLine (h : MAt W p m) {v' : Value} {l : List Int} (ho : OwnS W' v' l.length 1 (l.map (Value.int .i64))) (hl : l.length ≤ 8) (hx : ∀ x ∈ l, 0 ≤ x ∧ x < m.ks.length) (hF : ∀ k, Fp v' k → Fp p.lv k ∨ W.heap.size ≤ k)
  (hc : Chg (fun k => k = p.mb ∨ Fp p.lv k) W W') (hh : Hd W' { p with lv:=v' } m.cf m.ss.length m.ks.length m.closed) : MAt W' { p with lv:=v' } { m with line:=l }:=by
 obtain ⟨t, t0, t1, t2, t3, t4, t5, t6⟩:=h.tag
 obtain ⟨g, b, hw⟩:=h.wld
 have hb : ∀ k, t k ≠ 1 → t k ≠ 6 → k < W.heap.size → W'.heap[k]? = W.heap[k]?:=fun k hk hk6 hlt => hc.block k hlt (fun e => by
  rcases e with rfl | e
  ·exact hk t1
  ·exact hk6 (t6 k e))
 have hk:=h.ok
 have hlt : ∀ k, mfp p k → k < W.heap.size:=fun k hk => h.lt hk
 have l1:=hlt p.mb (.inl rfl)
 have l2:=hlt p.sb (.inr (.inl rfl))
 have l3:=hlt p.kb (.inr (.inr (.inl rfl)))
 have l4:=hlt p.cb (.inr (.inr (.inr (.inl rfl))))
 refine ⟨h.laid.stable (hb 0 (by omega) (by omega) h.lt0), ⟨fun k => if k < W.heap.size then t k else 6, ?_, ?_, ?_, ?_, ?_, ?_, ?_⟩, hh, h.slots.stable (hb _ (by omega) (by omega) l2), h.works.stable (hb _ (by omega) (by omega) l3),
  (World.cell?_of_block (w:=W) (hb p.cb (by omega) (by omega) l4)).trans h.clk, (World.frozen?_of_block (w:=W) (hb p.cb (by omega) (by omega) l4)).trans h.clkf,
  ⟨g, b, hw.stable hc.size fun k hk => hb k (by rw [t5 k hk]; omega) (by rw [t5 k hk]; omega) (hw.lt hk)⟩, ho, ⟨hk.conf, hk.nss, hk.nks, hk.rights, hx, hl, hk.grants, hk.closed, hk.now, hk.ahead⟩⟩
 ·simp [h.lt0, t0]
 ·simp [l1, t1]
 ·simp [l2, t2]
 ·simp [l3, t3]
 ·simp [l4, t4]
 ·intro k hk
  have:=hw.lt hk
  simp [this, t5 k hk]
 ·intro k hk
  show (if k < W.heap.size then t k else 6) = 6
  by_cases hkk : k < W.heap.size
  ·rw [if_pos hkk]
   rcases hF k hk with hk | hk
   ·exact t6 k hk
   ·omega
  ·rw [if_neg hkk]
theorem MAt.toClosed (h : MAt W p m) (c : Int) (hc : c = 0 ∨ c = 1 ∨ c = 2) : MAt (W.setCell ⟨p.mb, 8, none⟩ (.i c)) p { m with closed:=c }:=by
 obtain ⟨t, t0, t1, t2, t3, t4, t5, t6⟩:=h.tag
 obtain ⟨g, b, hw⟩:=h.wld
 have hch : Chg (fun k => k = p.mb) W (W.setCell ⟨p.mb, 8, none⟩ (.i c)):=(Chg.refl _ _).setCell _ _ (fun _ => rfl)
 have hb : ∀ k, t k ≠ 1 → k < W.heap.size → (W.setCell ⟨p.mb, 8, none⟩ (.i c)).heap[k]? = W.heap[k]?:=fun k hk hlt => hch.block k hlt (fun e => hk (by rw [e]; exact t1))
 have hk:=h.ok
 have hh:=h.hd
 have hlt : ∀ k, mfp p k → k < W.heap.size:=fun k hk => h.lt hk
 refine ⟨h.laid.stable (hb 0 (by omega) h.lt0), ⟨t, t0, t1, t2, t3, t4, t5, t6⟩, ?_, h.slots.stable (hb _ (by omega) (hlt _ (.inr (.inl rfl)))), h.works.stable (hb _ (by omega) (hlt _ (.inr (.inr (.inl rfl))))),
  (World.cell?_of_block (w:=W) (hb p.cb (by omega) (hlt _ (.inr (.inr (.inr (.inl rfl))))))).trans h.clk, (World.frozen?_of_block (w:=W) (hb p.cb (by omega) (hlt _ (.inr (.inr (.inr (.inl rfl))))))).trans h.clkf,
  ⟨g, b, hw.stable hch.size fun k hk => hb k (by rw [t5 k hk]; omega) (hw.lt hk)⟩, h.own.stable hch.size fun k hk => hb k (by rw [t6 k hk]; omega) (h.own.lt hk), ⟨hk.conf, hk.nss, hk.nks, hk.rights, hk.line, hk.few, hk.grants, hc, hk.now, hk.ahead⟩⟩
 have e : ∀ o, o ≠ 8 → (W.setCell ⟨p.mb, 8, none⟩ (.i c)).cell? ⟨p.mb, o, none⟩ = W.cell? ⟨p.mb, o, none⟩:=fun o ho => World.cell?_setCell_other _ _ _ _ (by simp <;> omega)
 exact ⟨(e 0 (by omega)).trans hh.c0, (e 1 (by omega)).trans hh.c1, (e 2 (by omega)).trans hh.c2, (e 3 (by omega)).trans hh.c3, (e 4 (by omega)).trans hh.c4, (e 5 (by omega)).trans hh.c5, (e 6 (by omega)).trans hh.c6, (e 7 (by omega)).trans hh.c7,
  World.cell?_setCell_same _ _ _ hh.c8, (e 9 (by omega)).trans hh.c9, (e 10 (by omega)).trans hh.c10, by simp [hh.f7], by simp [hh.f8]⟩
theorem MAt.toNow (h : MAt W p m) (n : Int) (hn : 0 ≤ n ∧ n ≤ 1099511627776) : MAt (W.setCell ⟨p.cb, 0, none⟩ (.i n)) p { m with now:=n }:=by
 obtain ⟨t, t0, t1, t2, t3, t4, t5, t6⟩:=h.tag
 obtain ⟨g, b, hw⟩:=h.wld
 have hch : Chg (fun k => k = p.cb) W (W.setCell ⟨p.cb, 0, none⟩ (.i n)):=(Chg.refl _ _).setCell _ _ (fun _ => rfl)
 have hb : ∀ k, t k ≠ 4 → k < W.heap.size → (W.setCell ⟨p.cb, 0, none⟩ (.i n)).heap[k]? = W.heap[k]?:=fun k hk hlt => hch.block k hlt (fun e => hk (by rw [e]; exact t4))
 have hk:=h.ok
 have hlt : ∀ k, mfp p k → k < W.heap.size:=fun k hk => h.lt hk
 exact ⟨h.laid.stable (hb 0 (by omega) h.lt0), ⟨t, t0, t1, t2, t3, t4, t5, t6⟩, h.hd.stable (hb _ (by omega) (hlt _ (.inl rfl))), h.slots.stable (hb _ (by omega) (hlt _ (.inr (.inl rfl)))), h.works.stable (hb _ (by omega) (hlt _ (.inr (.inr (.inl rfl))))),
  World.cell?_setCell_same _ _ _ h.clk, by simp [h.clkf],
  ⟨g, b, hw.stable hch.size fun k hk => hb k (by rw [t5 k hk]; omega) (hw.lt hk)⟩, h.own.stable hch.size fun k hk => hb k (by rw [t6 k hk]; omega) (h.own.lt hk), ⟨hk.conf, hk.nss, hk.nks, hk.rights, hk.line, hk.few, hk.grants, hk.closed, hn, hk.ahead⟩⟩
end
def MPost (W : World) (p : Pl) (ans : Value) (m' : M) (e : Ending) (W' : World) : Prop :=
 e = .returned ans ∧ ∃ lv rv, MAt W' { p with lv:=lv, rv:=rv } m' ∧ (∀ k, Fp lv k → Fp p.lv k ∨ W.heap.size ≤ k) ∧ (∀ k, Fp rv k → Fp p.rv k ∨ W.heap.size ≤ k) ∧ Chg (mfp p) W W'
def Done (d : Nat) : Prop:=d = 0 ∨ d = 1 ∨ d = 2 ∨ d = 3 ∨ d = 4 ∨ d = 5 ∨ d = 7 ∨ d = 9 ∨ d = 10 ∨ d = 13 ∨ d = 14 ∨ d = 15 ∨ d = 16
theorem setBit_bd {n : Int} {k : Nat} (h : 0 ≤ n ∧ n ≤ 255) (hk : k < 8) : 0 ≤ setBit n k ∧ setBit n k ≤ 255:=by
 have h' : ∀ (m : Fin 256) (j : Fin 8), ((m.val ||| 2 ^ j.val : Nat) : Int) ≤ 255:=by decide +kernel
 obtain ⟨m, rfl⟩:=Int.eq_ofNat_of_zero_le h.1
 exact ⟨by unfold setBit; omega, h' ⟨m, by omega⟩ ⟨k, hk⟩⟩
theorem dropBit_bd {n : Int} {k : Nat} (h : 0 ≤ n ∧ n ≤ 255) (hk : k < 8) (hb : hasBit n k = true) : 0 ≤ dropBit n k ∧ dropBit n k ≤ 255:=by
 have h' : ∀ (m : Fin 256) (j : Fin 8), m.val.testBit j.val = true → 0 ≤ (m.val : Int) - 2 ^ j.val ∧ (m.val : Int) - 2 ^ j.val ≤ 255:=by decide +kernel
 obtain ⟨m, rfl⟩:=Int.eq_ofNat_of_zero_le h.1
 exact h' ⟨m, by omega⟩ ⟨k, hk⟩ hb
theorem lowFree_lt {n most : Int} {k : Nat} (h : lowFree n most = some k) : k < 8:=by
 unfold lowFree at h
 have:=List.mem_of_find?_eq_some h
 simp at this
 omega
theorem leased_right {s : S} {own : Int} (h : s.right = true) (ho : 0 ≤ own ∧ own ≤ 15) : ({ leased s own with version:=0 } : S).right = true:=by
 rw [right_iff] at h ⊢
 obtain ⟨⟨q1, q2, q3, q4, q5, q6, q7⟩, a1, a2, a3, a4, a5⟩:=h
 simp only [leased, «to»]
 simp
 omega
theorem to_right {s : S} {own k : Int} (h : s.right = true) (ho : 0 ≤ own ∧ own ≤ 15) (hk : k = 0 ∨ k = 1 ∨ k = 2 ∨ k = 4 ∨ k = 5) : ({ «to» s own k with version:=0 } : S).right = true:=by
 rw [right_iff] at h ⊢
 obtain ⟨⟨q1, q2, q3, q4, q5, q6, q7⟩, a1, a2, a3, a4, a5⟩:=h
 rcases hk with rfl | rfl | rfl | rfl | rfl <;> simp [«to»] <;> omega
theorem act_right {d : Nat} (hd : Done d) {s : S} {own more : Int} (h : s.right = true) (ho : 0 ≤ own ∧ own ≤ 15) (hb : (act d s own more).2 = true) : ({ (act d s own more).1 with version:=0 } : S).right = true:=by
 rcases hd with rfl | rfl | rfl | rfl | rfl | rfl | rfl | rfl | rfl | rfl | rfl | rfl | rfl
 ·exact to_right h ho (by simp)
 ·exact leased_right h ho
 ·exact to_right h ho (by simp)
 ·exact leased_right h ho
 ·exact to_right h ho (by simp)
 ·exact to_right h ho (by simp)
 ·exact to_right h ho (by simp)
 ·exact to_right h ho (by simp)
 ·simp only [act] at hb ⊢
  simp at hb
  rw [right_iff] at h ⊢
  simp only
  omega
 ·simp only [act] at hb ⊢
  simp at hb
  rw [right_iff] at h ⊢
  obtain ⟨⟨q1, q2, q3, q4, q5, q6, q7⟩, a1, a2, a3, a4, a5⟩:=h
  exact ⟨⟨q1, q2, q3, q4, q5, q6, by simp⟩, a1, a2, .inl hb.2, a4, a5⟩
 ·simp only [act] at hb ⊢
  split at hb
  ·rename_i hc
   rw [if_pos hc]
   simp at hc
   cases hf : lowFree s.streams more with
   | none => rw [hf] at hb; simp at hb
   | some k =>
    rw [right_iff] at h ⊢
    obtain ⟨⟨q1, q2, q3, q4, q5, q6, q7⟩, a1, a2, a3, a4, a5⟩:=h
    exact ⟨⟨q1, q2, setBit_bd q3 (lowFree_lt hf), q4, q5, q6, by simp⟩, .inl hc.1.1, a2, a3, a4, a5⟩
  ·simp at hb
 ·simp only [act] at hb ⊢
  split at hb
  ·rename_i hc
   rw [if_pos hc]
   simp at hc
   rw [right_iff] at h ⊢
   obtain ⟨⟨q1, q2, q3, q4, q5, q6, q7⟩, a1, a2, a3, a4, a5⟩:=h
   exact ⟨⟨q1, q2, dropBit_bd q3 (show more.toNat < 8 by omega) hc.2, q4, q5, q6, by simp⟩, .inl hc.1.1.1, a2, a3, a4, a5⟩
  ·simp at hb
 ·simp only [act] at hb ⊢
  split
  ·exact to_right h ho (by simp)
  ·exact leased_right h ho
theorem step_right {d : Nat} (hd : Done d) {s : S} {own more : Int} (h : s.right = true) : (step s d own more).right = true:=by
 unfold step
 cases hn : next s d own more with
 | none => exact h
 | some t =>
  unfold next nextOf at hn
  split at hn
  ·rename_i hc
   have:=act_right hd h ⟨hc.2.1, hc.2.2.1⟩ hc.2.2.2 (more:=more)
   cases hn
   exact this
  ·cases hn
theorem right_wf {s : S} (h : s.right = true) : s.wf:=by
 rw [right_iff] at h
 obtain ⟨⟨q1, q2, q3, q4, q5, q6, q7⟩, _⟩:=h
 intro x hx
 have hb : ∀ b : Bool, bit b = 0 ∨ bit b = 1:=by decide
 have h1:=hb s.broken
 have h2:=hb s.marked
 simp only [S.nums, List.mem_cons, List.not_mem_nil, or_false] at hx
 omega
theorem zero_right : S.zero.right = true:=by decide
theorem emptied_right {s : S} (h : s.right = true) : (emptied s).right = true:=by
 rw [right_iff] at h ⊢
 simp [emptied, S.zero]
 omega
theorem turned_eq (ss : List S) (i d : Nat) (s : S) (own more : Int) (hi : ss[i]? = some s) : turned ss i (nextOf s own (act d s own more).1 (act d s own more).2) = turnL ss i d own more:=by
 unfold turnL
 rw [hi]
 show turned ss i (next s d own more) = ss.set i (step s d own more)
 unfold step turned
 cases next s d own more with
 | some t => rfl
 | none =>
  obtain ⟨hl, hi⟩:=List.getElem?_eq_some_iff.1 hi
  subst hi
  simp
theorem turnL_len (ss : List S) (i d : Nat) (own more : Int) : (turnL ss i d own more).length = ss.length:=by unfold turnL; split <;> simp
theorem turnL_right {ss : List S} {i d : Nat} {own more : Int} (hd : Done d) (h : ∀ s ∈ ss, s.right = true) : ∀ s ∈ turnL ss i d own more, s.right = true:=by
 unfold turnL
 split
 ·rename_i s hi
  intro x hx
  rcases List.mem_or_eq_of_mem_set hx with hx | rfl
  ·exact h x hx
  ·exact step_right hd (h s (List.mem_of_getElem? hi))
 ·exact h
theorem act_any (d : Nat) (hd : Done d) (s : S) (own more : Int) : ∃ F, (∀ args w, (callFunc F args).run Tryz.prog w = .ok (.enter F args) w) ∧ acts[d]? = some (.func (.func F) #[] #[]) ∧
  (s.right = true → ∀ W, Calls Tryz.prog F #[cval s own more] W fun e W' => e = .returned (.tuple #[(act d s own more).1.val, .bool (act d s own more).2]) ∧ Below W.heap.size W W'):=by
 have hu:=fun h => (right_bounds (s:=s) h).2.1
 have hg:=fun h => (right_bounds (s:=s) h).2.2.1
 have hm:=fun h => (right_bounds (s:=s) h).2.2.2.2.2
 rcases hd with rfl | rfl | rfl | rfl | rfl | rfl | rfl | rfl | rfl | rfl | rfl | rfl | rfl
 ·exact ⟨_, enters_of Tryz.func111 (by kernel_rfl) rfl, rfl, fun h W => dial_any W s own more⟩
 ·exact ⟨_, enters_of Tryz.func112 (by kernel_rfl) rfl, rfl, fun h W => up_any W s own more (hu h) (hg h)⟩
 ·exact ⟨_, enters_of Tryz.func113 (by kernel_rfl) rfl, rfl, fun h W => fail_any W s own more⟩
 ·exact ⟨_, enters_of Tryz.func114 (by kernel_rfl) rfl, rfl, fun h W => lease_any W s own more (hu h) (hg h)⟩
 ·exact ⟨_, enters_of Tryz.func115 (by kernel_rfl) rfl, rfl, fun h W => rest_any W s own more⟩
 ·exact ⟨_, enters_of Tryz.func116 (by kernel_rfl) rfl, rfl, fun h W => keep_any W s own more⟩
 ·exact ⟨_, enters_of Tryz.func118 (by kernel_rfl) rfl, rfl, fun h W => hold_any W s own more⟩
 ·exact ⟨_, enters_of Tryz.func120 (by kernel_rfl) rfl, rfl, fun h W => move_any W s own more⟩
 ·exact ⟨_, enters_of Tryz.func121 (by kernel_rfl) rfl, rfl, fun h W => mark_any W s own more⟩
 ·exact ⟨_, enters_of Tryz.func124 (by kernel_rfl) rfl, rfl, fun h W => broken_any W s own more⟩
 ·exact ⟨_, enters_of Tryz.func125 (by kernel_rfl) rfl, rfl, fun h W => open_any W s own more (hm h)⟩
 ·exact ⟨_, enters_of Tryz.func126 (by kernel_rfl) rfl, rfl, fun h W => shut_any W s own more (hm h)⟩
 ·refine ⟨_, enters_of Tryz.func127 (by kernel_rfl) rfl, rfl, fun h W => (take_any W s own more (hu h) (hg h)).mono ?_⟩
  rintro e W' ⟨rfl, hb⟩
  refine ⟨?_, hb⟩
  simp only [act]
  split <;> rfl
theorem life_next (W : World) (s : S) (d : Nat) (dz own more : Int) (hd : Done d) (hdz : dz = d) (hr : s.right = true) (hL : Laid W) : Calls Tryz.prog 94 #[s.val, .i dz, .i own, .i more] W fun e W' =>
  e = .returned (.tuple #[((next s d own more).getD S.zero).val, .bool (next s d own more).isSome]) ∧ Below W.heap.size W W':=by
 subst hdz
 obtain ⟨F, h1, h2, h3⟩:=act_any d hd s own more
 exact next_gen W s own more F d _ _ (by unfold Done at hd; omega) h1 h2 hL (right_wf hr) h3
section
variable {W : World} {p : Pl} {m : M}
theorem MAt.hdr (h : MAt W p m) : Hdr W p.mb p.sb m.ss.length:=h.hd.c5
theorem MAt.whdr (h : MAt W p m) : WHdr W p.mb p.kb m.ks.length:=h.hd.c6
theorem MAt.post0 (h : MAt W p m) {W' : World} {m' : M} {ans : Value} (h' : MAt W' p m') (hc : Chg (mfp p) W W') : MPost W p ans m' (.returned ans) W' :=
 ⟨rfl, p.lv, p.rv, h', fun _ h => .inl h, fun _ h => .inl h, hc⟩
theorem m_turn (h : MAt W p m) (i d : Nat) (iz dz own more : Int) (s : S) (hi : m.ss[i]? = some s) (hiz : iz = i) (hdz : dz = d) (hd : Done d) :
  Calls Tryz.prog 63 #[.pointer (some ⟨p.mb, 0, none⟩), .i iz, .i dz, .i own, .i more] W (MPost W p (.bool (next s d own more).isSome) (m.turn i d own more)):=by
 subst hiz hdz
 have hr:=h.ok.rights s (List.mem_of_getElem? hi)
 obtain ⟨F, h1, h2, h3⟩:=act_any d hd s own more
 refine (turn_any W p.mb p.sb m.ss i s own more F d _ _ h.hdr h.slots hi (by have:=h.ok.ns; omega) h.ne.2.1 (by unfold Done at hd; omega) h1 h2 h.laid (right_wf hr) h3).mono ?_
 rintro e W' ⟨rfl, hs, hc⟩
 rw [turned_eq _ _ _ _ _ _ hi] at hs
 exact h.post0 (h.toSlots hc hs (turnL_len _ _ _ _ _) (turnL_right hd h.ok.rights)) (hc.mono fun k _ e => .inr (.inl e))
theorem set_right {ss : List S} {i : Nat} {s : S} (h : ∀ s ∈ ss, s.right = true) (hs : s.right = true) : ∀ x ∈ ss.set i s, x.right = true:=by
 intro x hx
 rcases List.mem_or_eq_of_mem_set hx with hx | rfl
 ·exact h x hx
 ·exact hs
theorem M.slot_of {i : Nat} {s : S} (hi : m.ss[i]? = some s) : m.slot i = s:=by unfold M.slot; rw [hi]; rfl
theorem m_empty (h : MAt W p m) (i : Nat) (iz : Int) (s : S) (hi : m.ss[i]? = some s) (hiz : iz = i) :
  Calls Tryz.prog 82 #[.pointer (some ⟨p.mb, 0, none⟩), .i iz] W fun e W' => (∃ v, e = .returned v) ∧ MAt W' p (m.empty i) ∧ Chg (fun k => k = p.sb) W W':=by
 subst hiz
 refine (empty_any W p.mb p.sb m.ss i s h.hdr h.slots hi (by have:=h.ok.ns; omega)).mono ?_
 rintro e W' ⟨hv, hs, hc⟩
 refine ⟨hv, ?_, hc⟩
 have:=h.toSlots hc hs (by simp) (set_right h.ok.rights (emptied_right (h.ok.rights s (List.mem_of_getElem? hi))))
 rw [← M.slot_of hi] at this
 exact this
theorem m_leased (h : MAt W p m) (i : Nat) (iz : Int) (s : S) (hi : m.ss[i]? = some s) (hiz : iz = i) :
  Calls Tryz.prog 88 #[.pointer (some ⟨p.mb, 0, none⟩), .i iz] W fun e W' => e = .returned (m.leased i).val ∧ Below W.heap.size W W':=by
 subst hiz
 refine (model_leased W p.mb p.sb m.ss i s h.hdr h.slots hi (by have:=h.ok.ns; omega)).mono ?_
 rintro e W' ⟨rfl, hb⟩
 exact ⟨by unfold M.leased; rw [M.slot_of hi], hb⟩
theorem m_first (h : MAt W p m) (kind own : Int) (hk : kind = 0 ∨ kind = 1 ∨ kind = 2 ∨ kind = 3 ∨ kind = 4 ∨ kind = 6) :
  Calls Tryz.prog 83 #[.pointer (some ⟨p.mb, 0, none⟩), .i kind, .i own] W fun e W' =>
   e = .returned (.tuple #[.i ((m.first kind own).getD 0), .bool (m.first kind own).isSome]) ∧ Below W.heap.size W W' :=
 first_any W p.mb p.sb m.ss kind own hk (by have:=h.ok.ns; omega) h.hdr h.slots (h.lt (.inr (.inl rfl)))
theorem m_has (h : MAt W p m) (who : Int) : Calls Tryz.prog 39 #[.pointer (some ⟨p.mb, 0, none⟩), .i who] W fun e W' => e = .returned (.bool (m.has who)) ∧ W = W':=has_any W p.mb p.kb m.ks.length who h.whdr
end
end Go.Proofs.YtpmkgddjgebojaaGreatDoor.Mod
