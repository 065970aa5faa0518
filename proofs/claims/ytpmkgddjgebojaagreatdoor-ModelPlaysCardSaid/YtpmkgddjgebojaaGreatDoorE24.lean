/- Part 24 of the walks and plain laws that the last text joins. -/
import Derived.Test.YtpmkgddjgebojaaGreatDoorE22
import Derived.Test.YtpmkgddjgebojaaGreatDoorE23
import Derived.Deep.LoopGhost
set_option maxRecDepth 100000
set_option maxHeartbeats 16000000
set_option linter.unusedVariables false
set_option linter.unusedSimpArgs false
namespace Go.Proofs.YtpmkgddjgebojaaGreatDoor.Mod
open Go.RowKit Go.Shelf Hp Slot RowL Life Rng
attribute [local go_sem] Oper.semAt_some
def swOne (c : Int) (s : S) : S:=if Find.fits s 4 c then emptied s else s
def swN (c : Int) : Nat → List S → List S
 | 0, l => l
 | i + 1, l => match (swN c i l)[i]? with | some s => (swN c i l).set i (swOne c s) | none => swN c i l
theorem swN_len (c : Int) : ∀ (i : Nat) (l : List S), (swN c i l).length = l.length
 | 0, _ => rfl
 | i + 1, l => by
  have:=swN_len c i l
  rw [swN]; split <;> simp [this]
theorem swN_cons (c : Int) (s : S) : ∀ (i : Nat) (l : List S), swN c (i + 1) (s :: l) = swOne c s :: swN c i l
 | 0, l => by simp [swN]
 | i + 1, l => by
  rw [swN, swN_cons c s i l, swN]
  simp only [List.getElem?_cons_succ]
  cases (swN c i l)[i]? <;> simp
theorem swN_all (c : Int) : ∀ l : List S, swN c l.length l = l.map (swOne c)
 | [] => rfl
 | s :: l => by rw [List.length_cons, swN_cons, swN_all c l]; rfl
theorem sw_next {c : Int} {i : Nat} {l : List S} {t : S} (ht : (swN c i l)[i]? = some t) : swN c (i + 1) l = (swN c i l).set i (swOne c t):=by rw [swN, ht]
def fin (c : Int) (l : List Int) (ss : List S) (ks : List Wk) : List S × List Wk × List Int:=if c = 0 then M.grantL l ss ks else (ss, ks, l)
theorem tidy_fin (m : M) : m.tidy = { m with ss:=(fin m.closed m.line m.sweep.ss m.ks).1, ks:=(fin m.closed m.line m.sweep.ss m.ks).2.1, line:=(fin m.closed m.line m.sweep.ss m.ks).2.2 }:=by
 unfold M.tidy M.grant fin
 by_cases hc : m.closed = 0
 ·rw [if_pos (show m.sweep.closed = 0 from hc), if_pos hc]; rfl
 ·rw [if_neg (show ¬ m.sweep.closed = 0 from hc), if_neg hc]; rfl
structure swK (w : World) (p : Pl) (m : M) (i : Nat) (W : World) : Prop where
 le : i ≤ m.ss.length
 at' : MAt W p { m with ss:=swN m.closed i m.ss }
 chg : Chg (fun k => k = p.sb ∨ w.heap.size ≤ k) w W
 c0 : W.cell? ⟨w.heap.size, 0, none⟩ = some (.pointer (some ⟨p.mb, 0, none⟩))
theorem swK.later {w : World} {p : Pl} {m : M} {i : Nat} {W W' : World} (h : swK w p m i W) (hb : Below W.heap.size W W') : swK w p m i W' :=
 ⟨h.le, h.at'.below hb, h.chg.trans (Chg.ofBelow (F:=fun _ => False) hb) (fun _ _ h => h.elim), Field.bkeep hb h.c0⟩
theorem own_tail_line {w : World} {g off n c : Nat} {x : Int} {l : List Int} (h : OwnS w (.slice (some ⟨g, off, none⟩) (n + 1) c) (n + 1) 1 ((x :: l).map (Value.int .i64))) (hn : l.length = n) :
  OwnS w (.slice (if c = 1 then some ⟨g, off, none⟩ else some ⟨g, off + 1, none⟩) n (c - 1)) n 1 (l.map (Value.int .i64)):=by
 obtain ⟨hl, h | ⟨g', off', c', e, h1, h3, h4, h5, h6, h7⟩⟩:=h
 ·cases h.1
 ·cases e
  refine ⟨by simp [hn], ?_⟩
  by_cases hc : c = 1
  ·rw [if_pos hc]
   obtain rfl : n = 0:=by omega
   obtain rfl : l = []:=List.eq_nil_of_length_eq_zero hn
   exact .inr ⟨g, off, c - 1, rfl, by omega, by omega, h4, fun j hj => by omega, fun j hj => by omega, fun j u hu => by simp at hu⟩
  ·rw [if_neg hc]
   refine .inr ⟨g, off + 1, c - 1, rfl, by omega, by omega, h4, fun j hj => ?_, fun j hj => ?_, fun j u hu => ?_⟩
   ·rw [show off + 1 + j = off + (j + 1) by omega]; exact h5 _ (by omega)
   ·rw [show off + 1 + j = off + (j + 1) by omega]; exact h6 _ (by omega)
   ·rw [show off + 1 + j = off + (j + 1) by omega]; exact h7 _ _ (by simpa using hu)
def tdR (w : World) (p : Pl) (m : M) (D k : Nat) (wr : World) : Prop :=
 ∃ (l : List Int) (ss : List S) (ks : List Wk) (lv : Value), l.length = k ∧ MAt wr { p with lv:=lv } { m with ss:=ss, ks:=ks, line:=l } ∧ (∀ j, Fp lv j → Fp p.lv j) ∧ wr.cell? ⟨w.heap.size, 0, none⟩ = some (.pointer (some ⟨p.mb, 0, none⟩)) ∧
  wr.heap[D]? = some (.deferred (some [])) ∧ Chg (fun k => mfp p k ∨ w.heap.size ≤ k) w wr ∧ fin m.closed l ss ks = fin m.closed m.line m.sweep.ss m.ks
theorem td_fin {w wr : World} {p : Pl} {m : M} {D : Nat} {l : List Int} {ss : List S} {ks : List Wk} {lv : Value} (hA : MAt wr { p with lv:=lv } { m with ss:=ss, ks:=ks, line:=l }) (hlv : ∀ j, Fp lv j → Fp p.lv j)
  (hch : Chg (fun k => mfp p k ∨ w.heap.size ≤ k) w wr) (hD : w.heap.size ≤ D) (hKD : wr.heap[D]? = some (.deferred (some []))) (hfin : fin m.closed l ss ks = fin m.closed m.line m.sweep.ss m.ks) (he : fin m.closed l ss ks = (ss, ks, l))
  (hold : ∀ k, mfp p k → k < w.heap.size) (hp0 : 0 < w.heap.size) (v : Value) : MPost w p v m.tidy (.returned v) (wr.putObj D (.deferred none)):=by
 have hT : Turn w.heap.size wr (wr.putObj D (.deferred none)):=(Turn.refl _ _).putObj _ hD hKD rfl
 have ht : m.tidy = { m with ss:=ss, ks:=ks, line:=l }:=by rw [tidy_fin, ← hfin, he]
 rw [ht]
 have hm : ∀ k, mfp { p with lv:=lv } k → mfp p k:=fun k hk => by
  rcases hk with h | h | h | h | h | h
  ·exact .inl h
  ·exact .inr (.inl h)
  ·exact .inr (.inr (.inl h))
  ·exact .inr (.inr (.inr (.inl h)))
  ·exact .inr (.inr (.inr (.inr (.inl h))))
  ·exact .inr (.inr (.inr (.inr (.inr (hlv k h)))))
 refine ⟨rfl, lv, p.rv, hA.turned hT (fun k hk => hold k (hm k hk)) hp0, fun k h => .inl (hlv k h), fun k h => .inl h, ?_⟩
 have:=hT.chg hch (Nat.le_refl _)
 exact ⟨this.os, this.tape, this.output, this.size, fun k hk hf => this.block k hk (fun h => h.elim hf (fun h => by omega))⟩
theorem st_int' {w : World} {g off : Nat} {z : Value} {b : Int} (hc : w.cell? ⟨g, off, none⟩ = some z) (hf : w.frozen? ⟨g, off, none⟩ = false) : (Instr.storeAt 3 (.pointer (some ⟨g, off, none⟩)) (.i b)).run Tryz.prog w = .ok () (w.setCell ⟨g, off, none⟩ (.i b)):=by
 go_simp
theorem m_tidy {w : World} {p : Pl} {m : M} (h : MAt w p m) : Calls Tryz.prog 40 #[.pointer (some ⟨p.mb, 0, none⟩)] w fun e W' => ∃ v, MPost w p v m.tidy e W':=by
 have hlm : p.mb < w.heap.size:=h.lt (.inl rfl)
 have hls : p.sb < w.heap.size:=h.lt (.inr (.inl rfl))
 have hns:=h.ok.ns
 have c8:=h.hd.c8
 refine (callsIn_wide (n:=9)).1 ?_
 refine callsIn_of_wp_marks Tryz.func40 rfl trivial ?_
 simp only [Tryz.ntmps40, List.size_toArray, List.length_cons, List.length_nil, Nat.reduceAdd, Nat.reduceSub, Array.replicate_succ, Array.replicate_zero, List.push_toArray, List.append_toArray, List.nil_append, List.cons_append]
 gi_wp2_with (fail)
 rename_i Q0 K0 hK0 K1 hK1
 have c8' : (w.alloc (.cells #[.pointer (some ⟨p.mb, 0, none⟩)] 27)).cell? ⟨p.mb, 8, none⟩ = some (.i m.closed):=by rw [World.cell?_alloc_lt _ _ _ (by simpa using hlm)]; exact c8
 have c0' : (w.alloc (.cells #[.pointer (some ⟨p.mb, 0, none⟩)] 27)).cell? ⟨w.heap.size, 0, none⟩ = some (.pointer (some ⟨p.mb, 0, none⟩)):=by go_simp
 have hB1 : Below w.heap.size w (w.alloc (.cells #[.pointer (some ⟨p.mb, 0, none⟩)] 27)):=(Below.refl _ _).alloc (Nat.le_refl _) _
 have hs1 : w.heap.size < (w.alloc (.cells #[.pointer (some ⟨p.mb, 0, none⟩)] 27)).heap.size:=by simp
 generalize hw1 : (w.alloc (.cells #[.pointer (some ⟨p.mb, 0, none⟩)] 27)) = w1 at *
 clear hw1 c8
 have L8 : ∀ w', Below w1.heap.size w1 w' → w'.cell? ⟨p.mb, 8, none⟩ = some (.i m.closed):=fun w' hb => Field.bkeep hb c8'
 have L0 : ∀ w', Below w1.heap.size w1 w' → w'.cell? ⟨w.heap.size, 0, none⟩ = some (.pointer (some ⟨p.mb, 0, none⟩)):=fun w' hb => Field.bkeep hb c0'
 have hKd : Below w1.heap.size w1 w1.drew:=(Below.refl _ _).drew
 refine wpIn_wide.2 ?_
 refine Code.wp_mono (Q:=fun e a' w' => e = Exit.normal ∧ (Exit.then K1 (Exit.then K0 Q0)) .normal a' w') (fun e a' w' hh => by obtain ⟨rfl, h2⟩:=hh; exact h2) ?_
 refine wp_region_held_drew (S:=fun w' => Below w1.heap.size w1 w') (by kernel_rfl) (by exact hKd) (fun hHeld => ?_)
 refine takeg (i:=0) (d:=some 7) (v:=?_) (by kernel_rfl) (by kernel_rfl) (by kernel_rfl) (by kernel_rfl) (fun _ _ _ h => nomatch h.1) (by kernel_rfl) ?_ hHeld ?_
 rotate_left
 ·intro w hSw
  try dsimp only at hSw
  go_simp
  try with_reducible rfl
 try simp only [Act.put, sA, sZ, sS]
 refine takeg (i:=1) (d:=some 8) (v:=?_) (by kernel_rfl) (by kernel_rfl) (by kernel_rfl) (by kernel_rfl) (fun _ _ _ h => nomatch h.1) (by kernel_rfl) ?_ hHeld ?_
 rotate_left
 ·intro w hSw
  try dsimp only at hSw
  go_simp
  try with_reducible rfl
 try simp only [Act.put, sA, sZ, sS]
 refine takeg (i:=2) (d:=some 9) (v:=?_) (by kernel_rfl) (by kernel_rfl) (by kernel_rfl) (by kernel_rfl) (fun _ _ _ h => nomatch h.1) (by kernel_rfl) ?_ hHeld ?_
 rotate_left
 ·intro w hSw
  try dsimp only at hSw
  go_simp
  try with_reducible rfl
 try simp only [Act.put, sA, sZ, sS]
 refine takeg (i:=3) (d:=some 10) (v:=?_) (by kernel_rfl) (by kernel_rfl) (by kernel_rfl) (by kernel_rfl) (fun _ _ _ h => nomatch h.1) (by kernel_rfl) ?_ hHeld ?_
 rotate_left
 ·intro w hSw
  try dsimp only at hSw
  go_simp
  try with_reducible rfl
 try simp only [Act.put, sA, sZ, sS]
 refine takeg (i:=4) (d:=some 11) (v:=?_) (by kernel_rfl) (by kernel_rfl) (by kernel_rfl) (by kernel_rfl) (fun _ _ _ h => nomatch h.1) (by kernel_rfl) ?_ hHeld ?_
 rotate_left
 ·intro w hSw
  try dsimp only at hSw
  go_simp
  try with_reducible rfl
 try simp only [Act.put, sA, sZ, sS]
 refine rKc (i:=5) 81 #[.tmp 7, .const (.i 4), .tmp 11] #[27, 3, 3] (some 12) none #[(.pointer (some ⟨p.mb, 0, none⟩)), .i 4, .i m.closed] (enters_of Tryz.func81 (by kernel_rfl) rfl) ?_
 refine (fits_any _ _ _ _).mono ?_
 rintro e wq' ⟨rfl, rfl⟩
 refine ⟨_, rfl, ?_, fun hHeld2 => ?_⟩
 ·exact ((hKd.alloc (by simp) _).alloc (by simp) _).alloc (by simp; omega) _
 try simp only [Act.put, sA, sZ, sS]
 refine wpAnyH_done (by kernel_rfl) ?_ _
 refine ⟨rfl, ?_⟩
 gi_wp2_with fail
 clear L8 L0 hKd hHeld hHeld2
 have hsd : w1.drew.heap.size = w1.heap.size:=rfl
 have hB : Below w.heap.size w (((w1.drew.alloc (.cells #[.pointer (some ⟨p.mb, 0, none⟩)] 27)).alloc (.cells #[.i 4] 3)).alloc (.cells #[.i m.closed] 3)):=(((hB1.drew.alloc (by simpa using Nat.le_of_lt hs1) _).alloc (by simp; omega) _).alloc (by simp; omega) _)
 have b1 : (((w1.drew.alloc (.cells #[.pointer (some ⟨p.mb, 0, none⟩)] 27)).alloc (.cells #[.i 4] 3)).alloc (.cells #[.i m.closed] 3)).cell? ⟨w1.heap.size, 0, none⟩ = some (.pointer (some ⟨p.mb, 0, none⟩)):=by go_simp
 have b2 : (((w1.drew.alloc (.cells #[.pointer (some ⟨p.mb, 0, none⟩)] 27)).alloc (.cells #[.i 4] 3)).alloc (.cells #[.i m.closed] 3)).cell? ⟨w1.heap.size + 1, 0, none⟩ = some (.i 4):=by go_simp
 have b3 : (((w1.drew.alloc (.cells #[.pointer (some ⟨p.mb, 0, none⟩)] 27)).alloc (.cells #[.i 4] 3)).alloc (.cells #[.i m.closed] 3)).cell? ⟨w1.heap.size + 1 + 1, 0, none⟩ = some (.i m.closed):=by go_simp
 have r0 : (((w1.drew.alloc (.cells #[.pointer (some ⟨p.mb, 0, none⟩)] 27)).alloc (.cells #[.i 4] 3)).alloc (.cells #[.i m.closed] 3)).cell? ⟨w.heap.size, 0, none⟩ = some (.pointer (some ⟨p.mb, 0, none⟩)):=Field.bkeep (W:=w1) ((((Below.refl _ _).drew.alloc (by simp) _).alloc (by simp) _).alloc (by simp; omega) _) c0'
 have hK00 : swK w p m 0 (((w1.drew.alloc (.cells #[.pointer (some ⟨p.mb, 0, none⟩)] 27)).alloc (.cells #[.i 4] 3)).alloc (.cells #[.i m.closed] 3)):=⟨by omega, h.below hB, Chg.ofBelow hB, r0⟩
 have hold : ∀ k, mfp p k → k < w.heap.size:=fun k hk => h.lt hk
 have hp0 : 0 < w.heap.size:=h.lt0
 have hms : p.mb ≠ p.sb:=h.ne.2.1
 clear c8' c0' hB1
 generalize hwq : (((w1.drew.alloc (.cells #[.pointer (some ⟨p.mb, 0, none⟩)] 27)).alloc (.cells #[.i 4] 3)).alloc (.cells #[.i m.closed] 3)) = wq at *
 clear hwq
 have hsz : w1.heap.size + 1 + 1 < wq.heap.size:=World.block_lt_of_cell? _ _ b3
 refine wpIn_rangeC (gf:=98) (lb:=#[.pointer (some ⟨w1.heap.size, 0, none⟩), .pointer (some ⟨w1.heap.size + 1, 0, none⟩), .pointer (some ⟨w1.heap.size + 1 + 1, 0, none⟩)]) rfl
  (enters_of Tryz.func98 (by kernel_rfl) rfl) (encs:=fun x : Nat => #[.i x]) (I:=fI p.sb m.ss.length) (Ww:=fun k => k = p.sb) (Wr:=fun _ => False)
  (Skips:=fSkips p.sb m.ss.length 4 m.closed) (Yields:=fYields p.sb m.ss.length 4 m.closed) (Done:=fun i _ => i = m.ss.length) (s0:=0)
  ?hps ?hRd ?hseq (swK w p m) (fun _ _ => False) ?hKI ?hKs ?hKk ?hKt (fun _ _ _ h _ => h) ?hYt (fun _ _ _ h _ => h) ?hYc ?h0 ?round ?done ?stop
 case hps => intro x; rfl
 case hKI => exact fun s W h => ⟨_, swN_len _ _ _, h.at'.slots⟩
 case hRd => rintro k (rfl | hk); omega; exact hk.elim
 case hseq =>
  intro W1 hT
  refine fits_seq _ _ _ p.mb p.sb m.ss.length 4 m.closed _ W1 (by simp) (by omega) (hT.cell b1) (hT.cell b2) (hT.cell b3) (hT.cell (Field.bkeep hB h.hdr)) (by omega) (by omega) (by omega) (by omega) (fun k hk => ?_)
  have:=hT.size
  subst hk; omega
 case hKs => exact fun s W W' h hc => h.later (below_false hc)
 case hKk =>
  rintro s s' W hk ⟨q1, rfl, ss', e1, e2, e3⟩
  obtain ⟨t, ht⟩ : ∃ t, (swN m.closed s m.ss)[s]? = some t:=⟨_, List.getElem?_eq_getElem (by rw [swN_len]; exact q1)⟩
  obtain ⟨t', ht'⟩ : ∃ t', ss'[s]? = some t':=⟨_, List.getElem?_eq_getElem (by omega)⟩
  have hf:=e3 _ ht'
  rw [← slots_one hk.at'.slots e2 ht ht'] at hf
  have hn : swN m.closed (s + 1) m.ss = swN m.closed s m.ss:=by rw [sw_next ht]; unfold swOne; rw [if_neg (by simp [hf]), set_same ht]
  exact ⟨by omega, by rw [hn]; exact hk.at', hk.chg, hk.c0⟩
 case hKt =>
  rintro s W W' hk ht
  exact ⟨hk.le, hk.at'.turned ht (fun k h => by have:=hold k h; omega) (by omega), ht.chg hk.chg (by omega), ht.cell hk.c0⟩
 case hYt =>
  rintro s x s' W W' ⟨q1, q2, q3, ss', e1, e2, e3⟩ ht
  exact ⟨q1, q2, q3, ss', e1, slots_turn e2 ht, e3⟩
 case hYc =>
  rintro s x s' W W' ⟨q1, q2, q3, ss', e1, e2, e3⟩ hc
  exact ⟨q1, q2, q3, ss', e1, e2.stable (hc.block p.sb (e2.lt (by omega)) id), e3⟩
 case h0 => exact hK00
 case round =>
  intro L s x s' W hL hLW hk hy
  gi_wp2
  refine ⟨Chg.refl _ _, ?_⟩
  rintro W2 hT2 - hk2 ⟨q1, rfl, rfl, ss', e1, e2, e3⟩
  obtain ⟨t, ht⟩ : ∃ t, (swN m.closed x m.ss)[x]? = some t:=⟨_, List.getElem?_eq_getElem (by rw [swN_len]; exact q1)⟩
  obtain ⟨t', ht'⟩ : ∃ t', ss'[x]? = some t':=⟨_, List.getElem?_eq_getElem (by omega)⟩
  have hf:=e3 _ ht'
  rw [← slots_one hk2.at'.slots e2 ht ht'] at hf
  have HN : RowKit.Hid (swN m.closed (x + 1) m.ss = (swN m.closed x m.ss).set x (emptied t)):=Lib.hid (by rw [sw_next ht]; unfold swOne; rw [if_pos hf])
  have hAT:=hk2.at'
  have hCH:=hk2.chg
  have g0:=hk2.c0
  have hem:=m_empty (m:={ m with ss:=swN m.closed x m.ss }) hAT x x t ht rfl
  have hel : (M.empty { m with ss:=swN m.closed x m.ss } x) = { m with ss:=(swN m.closed x m.ss).set x (emptied t) }:=by
   unfold M.empty
   rw [M.slot_of (m:={ m with ss:=swN m.closed x m.ss }) ht]
  rw [hel] at hem
  have HLE : RowKit.Hid (x + 1 ≤ m.ss.length):=Lib.hid q1
  clear hel ht ht' hf e1 e2 e3 hk2 hT2 hy hk hLW hL r0 b1 b2 b3 hK00 hB
  gi_wp2_with fail
  refine ⟨trivial, ?_⟩
  gi_at_call 82
  refine (CallsIn.inRound L (callsIn_wide.2 hem)).mono ?_
  rintro e w6 ⟨⟨v6, rfl⟩, h6, hc6⟩
  have HF : RowKit.Hid (KeepsB (fun k => k = p.sb) W2 w6 ∧ swK w p m (x + 1) w6) :=
   Lib.hid ⟨KeepsB.of_chg hc6 (fun _ _ h => h), HLE.out, by rw [HN.out]; exact h6, hCH.trans hc6 (fun _ _ h => .inl h), (hc6.cell (World.block_lt_of_cell? _ _ g0) (fun e => by simp at e; omega)).trans g0⟩
  clear h6 hc6 hem hAT hCH g0
  gi_wp2_with fail
  exact HF.out
 case stop => exact fun D c W hD h hK => h.elim
 case done =>
  rintro D s W hD rfl hk hKD
  have hat:=hk.at'
  rw [swN_all] at hat
  have hat : MAt W p m.sweep:=hat
  have hch:=hk.chg
  have g0:=hk.c0
  clear hk b1 b2 b3 r0 hK00 hB
  gi_wp2_with fail
  refine wpIn_wide.2 ?_
  have hDs : D < W.heap.size:=(Array.getElem?_eq_some_iff.1 hKD).1
  have HT : RowKit.Hid (m.tidy = { m with ss:=(fin m.closed m.line m.sweep.ss m.ks).1, ks:=(fin m.closed m.line m.sweep.ss m.ks).2.1, line:=(fin m.closed m.line m.sweep.ss m.ks).2.2 }):=Lib.hid (tidy_fin m)
  have hnks : m.sweep.ks = m.ks:=rfl
  have hR0 : tdR w p m D m.line.length W:=⟨m.line, m.sweep.ss, m.ks, p.lv, rfl, hat, fun _ h => h, g0, hKD, hch.mono (fun k _ e => by rcases e with rfl | e; exact .inl (.inr (.inl rfl)); exact .inr e), rfl⟩
  clear hat hch g0 hKD hnks
  go_loopg [3] m.line.length (fun k _ wr => tdR w p m D k wr)
  case atStart => exact hR0
  case round =>
   obtain ⟨l, ss, ks, lv, rfl, hA, hlv, g0, hKD, hch, hfin⟩:=hrel
   have HFIN:=Lib.hid hfin
   by_cases hc : m.closed = 0
   rotate_left
   ·have hc' : (m.closed == 0) = false:=by simp [hc]
    have c8:=hA.hd.c8
    try simp only at c8
    have HE : RowKit.Hid (fin m.closed l ss ks = (ss, ks, l)):=Lib.hid (by unfold fin; rw [if_neg hc])
    clear hc hfin hR0
    go_wp2_with fail
    refine ⟨by simp, .inl ⟨_, _, rfl, run_takeDeferred hKD, ?_⟩⟩
    exact ⟨_, results_none rfl _ _ _, _, td_fin hA hlv hch (by omega) hKD HFIN.out (HE.out) hold hp0 _⟩
   have hc' : (m.closed == 0) = true:=by simp [hc]
   have HC:=Lib.hid hc
   cases l with
   | nil =>
    have c8:=hA.hd.c8
    have c7:=hA.hd.c7
    obtain ⟨la, lc, hlv0⟩:=hA.own.form
    try simp only at c8 c7 hlv0
    rw [hlv0] at c7
    have HE : RowKit.Hid (fin m.closed [] ss ks = (ss, ks, [])):=Lib.hid (by unfold fin; rw [if_pos hc]; rfl)
    clear hc hfin hR0 hlv0
    go_wp2_with fail
    refine ⟨by simp, .inl ⟨_, _, rfl, run_takeDeferred hKD, ?_⟩⟩
    exact ⟨_, results_none rfl _ _ _, _, td_fin hA hlv hch (by omega) hKD HFIN.out (HE.out) hold hp0 _⟩
   | cons who l =>
    have c8:=hA.hd.c8
    have c7:=hA.hd.c7
    obtain ⟨g, off, cap, hlv0, hcap1, hcap2, hgC, hcl, hfz, hxs⟩:=hA.own.some (by simp)
    try simp only [List.length_cons] at c8 c7 hlv0 hcap1
    subst hlv0
    have hx0 : wr.cell? ⟨g, off, none⟩ = some (.i who):=by simpa using hxs 0 _ rfl
    have hlo:=hA.ok.line who (by simp)
    have hfew:=hA.ok.few
    try simp only [List.length_cons] at hlo hfew
    obtain ⟨q, rfl⟩:=Int.eq_ofNat_of_zero_le hlo.1
    have hfi:=m_first hA 3 0 (by simp)
    have hf0 : M.first { m with ss:=ss, ks:=ks, line:=(q : Int) :: l } 3 0 = firstAt 3 0 ss:=rfl
    rw [hf0] at hfi
    clear hcl hfz hxs hR0 hf0
    cases hf : firstAt 3 0 ss with
    | none =>
     rw [hf] at hfi
     simp only [Option.getD_none, Option.isSome_none] at hfi
     have HE : RowKit.Hid (fin m.closed ((q : Int) :: l) ss ks = (ss, ks, (q : Int) :: l)):=Lib.hid (by unfold fin; rw [if_pos hc, M.grantL, hf])
     clear hc hfin hf
     go_wp2_with fail
     refine hfi.mono ?_
     rintro e w2 ⟨rfl, hb2⟩
     have hA:=hA.below hb2
     have hKD:=(hb2.block D (Array.getElem?_eq_some_iff.1 hKD).1).trans hKD
     have hch:=hch.trans (Chg.ofBelow (F:=fun _ => False) hb2) (fun _ _ h => h.elim)
     clear hfi hb2 g0 c8 c7 hx0
     go_wp2_with fail
     refine ⟨by simp, .inl ⟨_, _, rfl, run_takeDeferred hKD, ?_⟩⟩
     exact ⟨_, results_none rfl _ _ _, _, td_fin hA hlv hch (by omega) hKD HFIN.out (HE.out) hold hp0 _⟩
    | some i =>
     rw [hf] at hfi
     simp only [Option.getD_some, Option.isSome_some] at hfi
     obtain ⟨s, hs, hfit⟩:=first_some (m:={ m with ss:=ss }) (kind:=3) (own:=0) hf
     have HS : RowKit.Hid (ss[i]? = some s):=Lib.hid hs
     have HSt : RowKit.Hid (s.state = 2 ∨ s.state = 0):=Lib.hid (by simp [Find.fits, Find.sound] at hfit; omega)
     have HE : RowKit.Hid (fin m.closed ((q : Int) :: l) ss ks = fin m.closed l (turnL ss i (if s.state = 2 then 5 else 7) q 0) (ks.set q { ks[q]?.getD Wk.zero with at':=2, slot:=(i : Int) })):=Lib.hid (by
      unfold fin; rw [if_pos hc, if_pos hc, M.grantL, hf]; simp [hs])
     clear hc hfin hf hs hfit
     go_wp2_with fail
     refine hfi.mono ?_
     rintro e w2 ⟨rfl, hb2⟩
     have hA:=hA.below hb2
     have g0:=Field.bkeep hb2 g0
     have hKD:=(hb2.block D (Array.getElem?_eq_some_iff.1 hKD).1).trans hKD
     have hch:=hch.trans (Chg.ofBelow (F:=fun _ => False) hb2) (fun _ _ h => h.elim)
     have c7:=hA.hd.c7
     have f7:=hA.hd.f7
     have hx0:=Field.bkeep hb2 hx0
     try simp only [List.length_cons] at c7 f7
     have HFp : RowKit.Hid (∀ a n c k, Fp (.slice (some ⟨g, a, none⟩) n c) k → Fp (.slice (some ⟨g, off, none⟩) (l.length + 1) cap) k):=Lib.hid (fun a n c k hk => by rw [fp_some] at hk ⊢; exact hk)
     have hnmb : ¬ Fp (.slice (some ⟨g, off, none⟩) (l.length + 1) cap) p.mb:=by
      obtain ⟨t, -, t1, -, -, -, -, t6⟩:=hA.tag
      intro hk
      have:=t6 _ hk
      simp only at t1
      omega
     have HO:=Lib.hid (own_tail_line (l:=l) (n:=l.length) (x:=(q : Int)) (by simpa using hA.own) rfl)
     have HL8 : RowKit.Hid (l.length ≤ 8):=Lib.hid (by omega)
     have HLX : RowKit.Hid (∀ x ∈ l, 0 ≤ x ∧ x < (ks.length : Int)):=Lib.hid (fun x hx => hA.ok.line x (by simp [hx]))
     have hil : i < ss.length:=(List.getElem?_eq_some_iff.1 HS.out).1
     have hnss:=hA.ok.ns
     try simp only at hnss
     have bb0 : (0 : Int) ≤ (i : Int):=by omega
     have bb1 : (i : Int) < (ss.length : Int):=by omega
     have bb2 : (i : Int) ≤ (ss.length : Int) - 1:=by omega
     have hlmw : p.mb < w2.heap.size:=hA.lt (.inl rfl)
     clear hfi hb2 c8
     have HLV:=Lib.hid hlv
     have HKD:=Lib.hid hKD
     have HCH:=Lib.hid hch
     clear hlv hKD hch
     go_upto_region 8 with (fail)
     go_cut [3] from 17 to 79 (fun v3 w' => v3 = .i i ∧ ∃ lv3, MAt w' { p with lv:=lv3 } { m with ss:=ss, ks:=ks, line:=l } ∧ (∀ j, Fp lv3 j → Fp p.lv j) ∧ w'.cell? ⟨w.heap.size, 0, none⟩ = some (.pointer (some ⟨p.mb, 0, none⟩)) ∧ w'.heap[D]? = some (.deferred (some [])) ∧ Chg (fun k => mfp p k ∨ w.heap.size ≤ k) w w')
     case first =>
      rename_i JJ KK hJJ hKK
      by_cases hc1 : cap = 1
      ·subst hc1
       obtain rfl : l = []:=List.eq_nil_of_length_eq_zero (by omega)
       have HO3 : RowKit.Hid (OwnS w2 (.slice (some ⟨g, off, none⟩) 0 0) (([] : List Int)).length 1 (([] : List Int).map (Value.int .i64))):=Lib.hid (by have:=HO.out; rwa [if_pos rfl] at this)
       have HFp:=Lib.hid (fun k hk => HFp.out off 0 0 k hk)
       clear HO
       go_wp2_with fail
       go_region
       refine hKK _ _ (Met.intro (hJJ _ _ ?_))
       (repeat apply Exists.intro)
       refine ⟨?rel, rfl⟩
       case rel =>
        have hC3 : Chg (fun k => k = p.mb) w2 ((w2.setCell ⟨p.mb, 7, none⟩ (Value.slice (some ⟨g, off, none⟩) 0 0)).drew):=((Chg.refl (fun k => k = p.mb) w2).setCell ⟨p.mb, 7, none⟩ (Value.slice (some ⟨g, off, none⟩) 0 0) (fun _ => rfl)).drew
        have hO3 : OwnS ((w2.setCell ⟨p.mb, 7, none⟩ (Value.slice (some ⟨g, off, none⟩) 0 0)).drew) (Value.slice (some ⟨g, off, none⟩) 0 0) ([] : List Int).length 1 (([] : List Int).map (Value.int .i64)):=HO3.out.chg hC3 (fun k hk e => hnmb (by rw [← e]; exact HFp.out k hk))
        have hA3 : MAt ((w2.setCell ⟨p.mb, 7, none⟩ (Value.slice (some ⟨g, off, none⟩) 0 0)).drew) { p with lv:=Value.slice (some ⟨g, off, none⟩) 0 0 } { m with ss:=ss, ks:=ks, line:=([] : List Int) }:=by
         have:=hA.toLine (v':=Value.slice (some ⟨g, off, none⟩) 0 0) (l:=([] : List Int)) (W':=(w2.setCell ⟨p.mb, 7, none⟩ (Value.slice (some ⟨g, off, none⟩) 0 0)).drew) hO3 HL8.out HLX.out (fun k hk => .inl (HFp.out k hk)) (hC3.mono (fun k _ e => .inl e)) (Hd.stable (hd_line hA.hd _) rfl)
         exact this
        exact ⟨rfl, Value.slice (some ⟨g, off, none⟩) 0 0, hA3, fun j hj => HLV.out j (HFp.out j hj), (hC3.cell (World.block_lt_of_cell? _ _ g0) (by simp; omega)).trans g0, (hC3.block D (Array.getElem?_eq_some_iff.1 HKD.out).1 (by omega)).trans HKD.out, HCH.out.trans hC3 (fun k _ e => .inl (by rw [e]; exact .inl rfl))⟩
      ·have HO3 : RowKit.Hid (OwnS w2 (.slice (some ⟨g, off + 1, none⟩) l.length (cap - 1)) l.length 1 (l.map (Value.int .i64))):=Lib.hid (by have:=HO.out; rwa [if_neg hc1] at this)
       have HFp:=Lib.hid (fun k hk => HFp.out (off + 1) l.length (cap - 1) k hk)
       clear HO
       go_wp2_with fail
       go_region
       refine hKK _ _ (Met.intro (hJJ _ _ ?_))
       (repeat apply Exists.intro)
       refine ⟨?rel, rfl⟩
       case rel =>
        have hC3 : Chg (fun k => k = p.mb) w2 ((w2.setCell ⟨p.mb, 7, none⟩ (Value.slice (some ⟨g, off + 1, none⟩) l.length (cap - 1))).drew):=((Chg.refl (fun k => k = p.mb) w2).setCell ⟨p.mb, 7, none⟩ (Value.slice (some ⟨g, off + 1, none⟩) l.length (cap - 1)) (fun _ => rfl)).drew
        have hO3 : OwnS ((w2.setCell ⟨p.mb, 7, none⟩ (Value.slice (some ⟨g, off + 1, none⟩) l.length (cap - 1))).drew) (Value.slice (some ⟨g, off + 1, none⟩) l.length (cap - 1)) l.length 1 (l.map (Value.int .i64)):=HO3.out.chg hC3 (fun k hk e => hnmb (by rw [← e]; exact HFp.out k hk))
        have hA3 : MAt ((w2.setCell ⟨p.mb, 7, none⟩ (Value.slice (some ⟨g, off + 1, none⟩) l.length (cap - 1))).drew) { p with lv:=Value.slice (some ⟨g, off + 1, none⟩) l.length (cap - 1) } { m with ss:=ss, ks:=ks, line:=l }:=by
         have:=hA.toLine (v':=Value.slice (some ⟨g, off + 1, none⟩) l.length (cap - 1)) (l:=l) (W':=(w2.setCell ⟨p.mb, 7, none⟩ (Value.slice (some ⟨g, off + 1, none⟩) l.length (cap - 1))).drew) hO3 HL8.out HLX.out (fun k hk => .inl (HFp.out k hk)) (hC3.mono (fun k _ e => .inl e)) (Hd.stable (hd_line hA.hd _) rfl)
         exact this
        exact ⟨rfl, Value.slice (some ⟨g, off + 1, none⟩) l.length (cap - 1), hA3, fun j hj => HLV.out j (HFp.out j hj), (hC3.cell (World.block_lt_of_cell? _ _ g0) (by simp; omega)).trans g0, (hC3.block D (Array.getElem?_eq_some_iff.1 HKD.out).1 (by omega)).trans HKD.out, HCH.out.trans hC3 (fun k _ e => .inl (by rw [e]; exact .inl rfl))⟩
     case rest =>
      obtain ⟨rfl, lv3, hA3, hlv3, g03, hKD3, hch3⟩:=hcut
      generalize wc = w3 at *
      have c5:=hA3.hd.c5
      have cS:=(hA3.slots.get HS.out).1
      try simp only at c5 cS
      clear hA g0 c7 f7 hx0 hnmb HO
      go_upto_if 59 with (fail)
      go_cut [6] from 17 to 79 (fun v6 w' => w' = w3 ∧ v6 = .i (if s.state = 2 then 5 else 7))
      case first =>
       rcases HSt.out with h2 | h2
       ·have s2 : (s.state == 2) = true:=by rw [h2]; rfl
        have HDO : RowKit.Hid ((if s.state = 2 then (5 : Int) else 7) = 5):=Lib.hid (if_pos h2)
        clear h2
        go_wp2_with fail
        go_meet
        case rel => exact ⟨rfl, by rw [HDO.out]⟩
       ·have s2 : (s.state == 2) = false:=by rw [h2]; rfl
        have HDO : RowKit.Hid ((if s.state = 2 then (5 : Int) else 7) = 7):=Lib.hid (if_neg (by omega))
        clear h2
        go_wp2_with fail
        go_meet
        case rel => exact ⟨rfl, by rw [HDO.out]⟩
      case rest =>
       obtain ⟨rfl, rfl⟩:=hcut
       have ht:=m_turn' hA3 i (if s.state = 2 then 5 else 7) i (if s.state = 2 then 5 else 7) q 0 s HS.out rfl (by split <;> rfl) (by split <;> simp [Mod.Done])
       obtain ⟨dz, hdz⟩ : ∃ dz : Int, dz = (if s.state = 2 then 5 else 7):=⟨_, rfl⟩
       rw [← hdz] at ht
       obtain ⟨dn, hdn⟩ : ∃ dn : Nat, dn = (if s.state = 2 then 5 else 7):=⟨_, rfl⟩
       rw [← hdn] at ht
       have HDN:=Lib.hid hdn
       simp only [← hdz]
       clear hdz hdn c5 cS
       go_wp2_with fail
       refine ht.mono ?_
       rintro e w4 ⟨rfl, hA4, hC4⟩
       have hA4 : MAt w4 { p with lv:=lv3 } { m with ss:=turnL ss i dn q 0, ks:=ks, line:=l }:=hA4
       have hql : q < ks.length:=by omega
       obtain ⟨kq, hkq⟩ : ∃ kq, ks[q]? = some kq:=⟨_, List.getElem?_eq_getElem hql⟩
       have HKQ:=Lib.hid hkq
       have g04:=(hC4.cell (World.block_lt_of_cell? _ _ g03) (fun e => by simp at e; omega)).trans g03
       have hKD4:=(hC4.block D (Array.getElem?_eq_some_iff.1 hKD3).1 (by first | omega | (simp only; omega))).trans hKD3
       have hch4:=hch3.trans hC4 (fun k _ e => .inl (by rw [e]; exact .inr (.inl rfl)))
       have c6:=hA4.hd.c6
       have cK:=hA4.works.get hkq
       obtain ⟨cK0, -, -, -, -, -, -, -, cK8⟩:=cK
       have fK0:=hA4.works.2 q 0 hql (by omega)
       have fK8:=hA4.works.2 q 8 hql (by omega)
       have hnk:=hA4.ok.nk
       try simp only [Nat.add_zero] at c6 cK0 cK8 fK0 fK8 hnk
       have qq0 : (0 : Int) ≤ (q : Int):=by omega
       have qq1 : (q : Int) < (ks.length : Int):=by omega
       have qq2 : (q : Int) ≤ (ks.length : Int) - 1:=by omega
       have hkm : p.mb ≠ p.kb:=h.ne.2.2.1
       have hkb : p.kb < w.heap.size:=hold p.kb (.inr (.inr (.inl rfl)))
       have hkm' : p.kb ≠ p.mb:=fun e => hkm e.symm
       clear ht hC4 hkq g03 hKD3 hch3 hA3
       go_wp2_with fail
       have L6 : ∀ w', Chg (fun k => k = p.kb) w4 w' → w'.cell? ⟨p.mb, 6, none⟩ = some (.slice (some ⟨p.kb, 0, none⟩) ks.length ks.length):=fun w' h => (h.cell (p:=⟨p.mb, 6, none⟩) (hA4.lt (.inl rfl)) (by simpa using hkm)).trans c6
       have L0 : ∀ w', Chg (fun k => k = p.kb) w4 w' → w'.cell? ⟨w.heap.size, 0, none⟩ = some (.pointer (some ⟨p.mb, 0, none⟩)):=fun w' h => (h.cell (World.block_lt_of_cell? _ _ g04) (fun e => by simp at e; omega)).trans g04
       have hKd : Chg (fun k => k = p.kb) w4 w4.drew:=(Chg.refl _ _).drew
       refine wp_normal ?_
       refine wp_region_held_drew (S:=fun w' => Chg (fun k => k = p.kb) w4 w') (by kernel_rfl) (by exact hKd) (fun hHeld => ?_)
       refine takeg (i:=0) (d:=some 65) (v:=?_) (by kernel_rfl) (by kernel_rfl) (by kernel_rfl) (by kernel_rfl) (fun _ _ _ h => nomatch h.1) (by kernel_rfl) ?_ hHeld ?_
       rotate_left
       ·intro w hSw
        try dsimp only at hSw
        go_simp
        try with_reducible rfl
       try simp only [Act.put, sA, sZ, sS]
       refine takeg (i:=1) (d:=some 66) (v:=?_) (by kernel_rfl) (by kernel_rfl) (by kernel_rfl) (by kernel_rfl) (fun _ _ _ h => nomatch h.1) (by kernel_rfl) ?_ hHeld ?_
       rotate_left
       ·intro w hSw
        try dsimp only at hSw
        go_simp
        try with_reducible rfl
       try simp only [Act.put, sA, sZ, sS]
       refine takeg (i:=2) (d:=some 67) (v:=?_) (by kernel_rfl) (by kernel_rfl) (by kernel_rfl) (by kernel_rfl) (fun _ _ _ h => nomatch h.1) (by kernel_rfl) ?_ hHeld ?_
       rotate_left
       ·intro w hSw
        try dsimp only at hSw
        go_simp
        try with_reducible rfl
       try simp only [Act.put, sA, sZ, sS]
       refine takeg (i:=3) (d:=some 68) (v:=?_) (by kernel_rfl) (by kernel_rfl) (by kernel_rfl) (by kernel_rfl) (fun _ _ _ h => nomatch h.1) (by kernel_rfl) ?_ hHeld ?_
       rotate_left
       ·intro w hSw
        try dsimp only at hSw
        go_simp
        try with_reducible rfl
       try simp only [Act.put, sA, sZ, sS]
       refine takeg (i:=4) (d:=some 69) (v:=?_) (by kernel_rfl) (by kernel_rfl) (by kernel_rfl) (by kernel_rfl) (fun _ _ _ h => nomatch h.1) (by kernel_rfl) ?_ hHeld ?_
       rotate_left
       ·intro w hSw
        try dsimp only at hSw
        go_simp
        try with_reducible rfl
       try simp only [Act.put, sA, sZ, sS]
       refine takeg (i:=5) (d:=some 70) (v:=?_) (by kernel_rfl) (by kernel_rfl) (by kernel_rfl) (by kernel_rfl) (fun _ _ _ h => nomatch h.1) (by kernel_rfl) ?_ hHeld ?_
       rotate_left
       ·intro w hSw
        try dsimp only at hSw
        go_simp
        try with_reducible rfl
       try simp only [Act.put, sA, sZ, sS]
       refine takeg (i:=6) (d:=some 71) (v:=?_) (by kernel_rfl) (by kernel_rfl) (by kernel_rfl) (by kernel_rfl) (fun _ _ _ h => nomatch h.1) (by kernel_rfl) ?_ hHeld ?_
       rotate_left
       ·intro w hSw
        try dsimp only at hSw
        go_simp
        try with_reducible rfl
       try simp only [Act.put, sA, sZ, sS]
       refine takeg (i:=7) (d:=some 72) (v:=?_) (by kernel_rfl) (by kernel_rfl) (by kernel_rfl) (by kernel_rfl) (fun _ _ _ h => nomatch h.1) (by kernel_rfl) ?_ hHeld ?_
       rotate_left
       ·intro w hSw
        try dsimp only at hSw
        go_simp
        try with_reducible rfl
       try simp only [Act.put, sA, sZ, sS]
       refine takeg (i:=8) (d:=some 73) (v:=?_) (by kernel_rfl) (by kernel_rfl) (by kernel_rfl) (by kernel_rfl) (fun _ _ _ h => nomatch h.1) (by kernel_rfl) ?_ hHeld ?_
       rotate_left
       ·intro w hSw
        try dsimp only at hSw
        go_simp
        try with_reducible rfl
       try simp only [Act.put, sA, sZ, sS]
       refine takeg (i:=9) (d:=some 74) (v:=?_) (by kernel_rfl) (by kernel_rfl) (by kernel_rfl) (by kernel_rfl) (fun _ _ _ h => nomatch h.1) (by kernel_rfl) ?_ hHeld ?_
       rotate_left
       ·intro w hSw
        try dsimp only at hSw
        go_simp
        try with_reducible rfl
       try simp only [Act.put, sA, sZ, sS]
       refine takeg (i:=10) (d:=some 75) (v:=?_) (by kernel_rfl) (by kernel_rfl) (by kernel_rfl) (by kernel_rfl) (fun _ _ _ h => nomatch h.1) (by kernel_rfl) ?_ hHeld ?_
       rotate_left
       ·intro w hSw
        try dsimp only at hSw
        go_simp
        try with_reducible rfl
       try simp only [Act.put, sA, sZ, sS]
       refine takeg (i:=11) (d:=some 76) (v:=?_) (by kernel_rfl) (by kernel_rfl) (by kernel_rfl) (by kernel_rfl) (fun _ _ _ h => nomatch h.1) (by kernel_rfl) ?_ hHeld ?_
       rotate_left
       ·intro w hSw
        try dsimp only at hSw
        go_simp
        try with_reducible rfl
       try simp only [Act.put, sA, sZ, sS]
       refine takeg (i:=12) (d:=some 77) (v:=?_) (by kernel_rfl) (by kernel_rfl) (by kernel_rfl) (by kernel_rfl) (fun _ _ _ h => nomatch h.1) (by kernel_rfl) ?_ hHeld ?_
       rotate_left
       ·intro w hSw
        try dsimp only at hSw
        go_simp
        try with_reducible rfl
       try simp only [Act.put, sA, sZ, sS]
       have hc13 : Chg (fun k => k = p.kb) w4 (w4.drew.setCell ⟨p.kb, q * 9, none⟩ (.i 2)):=hKd.setCell _ _ (fun _ => rfl)
       have hw13:=WorksAt.set1 (k':={ kq with at':=2 }) (WorksAt.stable (W':=w4.drew) hA4.works rfl) HKQ.out 0 (by omega) (.i 2) rfl
       have hs13:=st_int' (w:=w4.drew) (b:=2) cK0 fK0
       refine ready1 (i:=13) (by kernel_rfl) (step_store_cell 3 (.tmp 77) (.const (.i 2)) (by kernel_rfl) p.kb (q * 9) (.i 2) (by kernel_rfl) (by kernel_rfl) (fun _ => hs13) hc13 (fun _ => ?_))
       have cK8' : (w4.drew.setCell ⟨p.kb, q * 9, none⟩ (.i 2)).cell? ⟨p.kb, q * 9 + 8, none⟩ = some (.i kq.slot):=(World.cell?_setCell_other _ _ _ _ (by simp)).trans cK8
       have fK8' : (w4.drew.setCell ⟨p.kb, q * 9, none⟩ (.i 2)).frozen? ⟨p.kb, q * 9 + 8, none⟩ = false:=by simp [fK8]
       generalize hwz : w4.drew.setCell ⟨p.kb, q * 9, none⟩ (.i 2) = w5 at *
       have hw13 : WorksAt w5 p.kb (ks.set q { kq with at':=2 }):=hw13
       clear hwz
       refine takeg (i:=14) (d:=some 78) (v:=?_) (by kernel_rfl) (by kernel_rfl) (by kernel_rfl) (by kernel_rfl) (fun _ _ _ h => nomatch h.1) (by kernel_rfl) ?_ hc13 ?_
       rotate_left
       ·intro w hSw
        try dsimp only at hSw
        go_simp
        try with_reducible rfl
       try simp only [Act.put, sA, sZ, sS]
       refine takeg (i:=15) (d:=some 79) (v:=?_) (by kernel_rfl) (by kernel_rfl) (by kernel_rfl) (by kernel_rfl) (fun _ _ _ h => nomatch h.1) (by kernel_rfl) ?_ hc13 ?_
       rotate_left
       ·intro w hSw
        try dsimp only at hSw
        go_simp
        try with_reducible rfl
       try simp only [Act.put, sA, sZ, sS]
       have hc16 : Chg (fun k => k = p.kb) w4 (w5.setCell ⟨p.kb, q * 9 + 8, none⟩ (.i i)):=hc13.setCell _ _ (fun _ => rfl)
       have hkq2 : (ks.set q { kq with at':=2 })[q]? = some { kq with at':=2 }:=by simp [hql]
       have hw16:=WorksAt.set1 (k':={ kq with at':=2, slot:=(i : Int) }) hw13 hkq2 8 (by omega) (.i i) rfl
       rw [List.set_set] at hw16
       have hs16:=st_int' (b:=(i : Int)) cK8' fK8'
       refine ready1 (i:=16) (by kernel_rfl) (step_store_cell 3 (.tmp 79) (.tmp 75) (by kernel_rfl) p.kb (q * 9 + 8) (.i i) (by kernel_rfl) (by kernel_rfl) (fun _ => hs16) hc16 (fun _ => ?_))
       generalize hwz : w5.setCell ⟨p.kb, q * 9 + 8, none⟩ (.i i) = w6 at *
       clear hwz hkq2 hs16 hs13 cK8' fK8' hw13 hc13 L6 L0 hKd hHeld
       refine wpAnyH_done (by kernel_rfl) ?_ _
       refine ⟨rfl, ?_⟩
       have hA5:=hA4.toWorks hc16 hw16 (by simp) (by
        intro k hk h2
        rcases List.mem_or_eq_of_mem_set hk with hk | rfl
        ·exact hA4.ok.grants k hk h2
        ·simp only [turnL_len]; omega)
       have g05:=(hc16.cell (World.block_lt_of_cell? _ _ g04) (fun e => by simp at e; omega)).trans g04
       have hKD5:=(hc16.block D (Array.getElem?_eq_some_iff.1 hKD4).1 (by first | omega | (simp only; omega))).trans hKD4
       have hch5:=hch4.trans hc16 (fun k _ e => .inl (by rw [e]; exact .inr (.inr (.inl rfl))))
       have hRE : RowKit.Hid (tdR w p m D l.length w6):=Lib.hid ⟨l, turnL ss i dn q 0, ks.set q { kq with at':=2, slot:=(i : Int) }, lv3, rfl, hA5, hlv3, g05, hKD5, hch5, by rw [← HFIN.out, HE.out, HDN.out, HKQ.out]; rfl⟩
       clear hA5 g05 hKD5 hch5 hA4 g04 hKD4 hch4 hc16 hw16
       go_wp2_with fail
       go_roundg l.length
       case measure => simp
       case rel => exact hRE.out
end Go.Proofs.YtpmkgddjgebojaaGreatDoor.Mod
