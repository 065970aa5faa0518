/- Part 20 of the walks and plain laws that the last text joins. -/
import Derived.Test.YtpmkgddjgebojaaGreatDoorE19
set_option maxRecDepth 100000
set_option maxHeartbeats 16000000
set_option linter.unusedVariables false
set_option linter.unusedSimpArgs false
namespace Go.Proofs.YtpmkgddjgebojaaGreatDoor.Mod
open Go.RowKit Go.Shelf Hp Slot RowL Life Rng
attribute [local go_sem] Oper.semAt_some
def mvStep (victim who : Int) (i : Nat) (r : List S × Bool) : List S × Bool :=
 match r.1[i]? with
 | some s => if Find.fits s 0 victim then (if r.2 then r.1.set i (step s 9 who 0) else r.1, !r.2) else r
 | none => r
def mvN (victim who : Int) : Nat → List S × Bool → List S × Bool
 | 0, r => r
 | i + 1, r => mvStep victim who i (mvN victim who i r)
theorem mvStep_len (victim who : Int) (i : Nat) (r : List S × Bool) : (mvStep victim who i r).1.length = r.1.length:=by
 unfold mvStep
 split
 ·split
  ·split <;> simp
  ·rfl
 ·rfl
theorem mvN_len (victim who : Int) : ∀ (i : Nat) (r : List S × Bool), (mvN victim who i r).1.length = r.1.length
 | 0, _ => rfl
 | i + 1, r => by rw [mvN, mvStep_len, mvN_len victim who i r]
theorem mvN_cons (victim who : Int) (s : S) : ∀ (i : Nat) (l : List S) (b : Bool), mvN victim who (i + 1) (s :: l, b) =
  (let r:=mvN victim who i (l, if Find.fits s 0 victim then !b else b); ((if Find.fits s 0 victim then (if b then step s 9 who 0 else s) else s) :: r.1, r.2))
 | 0, l, b => by
  simp only [mvN, mvStep, List.getElem?_cons_zero]
  cases Find.fits s 0 victim <;> cases b <;> simp
 | i + 1, l, b => by
  rw [mvN, mvN_cons victim who s i l b]
  simp only [mvN]
  generalize mvN victim who i (l, if Find.fits s 0 victim = true then !b else b) = r
  simp only [mvStep, List.getElem?_cons_succ]
  cases hr : r.1[i]? with
  | none => simp
  | some t =>
   cases hf : Find.fits t 0 victim <;> cases hb : r.2 <;> simp [hb, hf]
theorem mvN_all (victim who : Int) : ∀ (l : List S) (b : Bool), (mvN victim who l.length (l, b)).1 = M.moveL victim who b l
 | [], b => rfl
 | s :: l, b => by
  rw [List.length_cons, mvN_cons]
  simp only [M.moveL]
  cases Find.fits s 0 victim <;> simp [mvN_all victim who l]
theorem MAt.turned {W W' : World} {p : Pl} {m : M} {B : Nat} (h : MAt W p m) (ht : Turn B W W') (hB : ∀ k, mfp p k → k < B) (h0 : 0 < B) : MAt W' p m :=
 h.keep ht.size (fun k hk => ht.block k (hB k hk) (h.lt hk)) (ht.block 0 h0 h.lt0)
theorem mv_next {victim who : Int} {i : Nat} {r : List S × Bool} {t : S} (ht : (mvN victim who i r).1[i]? = some t) (hf : Find.fits t 0 victim = true) :
  mvN victim who (i + 1) r = (if (mvN victim who i r).2 then (mvN victim who i r).1.set i (step t 9 who 0) else (mvN victim who i r).1, !(mvN victim who i r).2):=by
 rw [mvN, mvStep, ht]; simp [hf]
theorem mv_skip {victim who : Int} {i : Nat} {r : List S × Bool} {t : S} (ht : (mvN victim who i r).1[i]? = some t) (hf : Find.fits t 0 victim = false) : mvN victim who (i + 1) r = mvN victim who i r:=by
 rw [mvN, mvStep, ht]; simp [hf]
structure mvK (w : World) (p : Pl) (m : M) (victim who : Int) (i : Nat) (W : World) : Prop where
 le : i ≤ m.ss.length
 at' : MAt W p { m with ss:=(mvN victim who i (m.ss, true)).1 }
 chg : Chg (fun k => k = p.sb ∨ w.heap.size ≤ k) w W
 c0 : W.cell? ⟨w.heap.size, 0, none⟩ = some (.pointer (some ⟨p.mb, 0, none⟩))
 c1 : W.cell? ⟨w.heap.size + 1, 0, none⟩ = some (.i who)
 c2 : W.cell? ⟨w.heap.size + 1 + 1, 0, none⟩ = some (.bool (mvN victim who i (m.ss, true)).2)
 f2 : W.frozen? ⟨w.heap.size + 1 + 1, 0, none⟩ = false
theorem mvK.later {w : World} {p : Pl} {m : M} {victim who : Int} {i : Nat} {W W' : World} (h : mvK w p m victim who i W) (hb : Below W.heap.size W W') : mvK w p m victim who i W' :=
 ⟨h.le, h.at'.below hb, h.chg.trans (Chg.ofBelow (F:=fun _ => False) hb) (fun _ _ h => h.elim), Field.bkeep hb h.c0, Field.bkeep hb h.c1, Field.bkeep hb h.c2, Field.bkeepz hb h.c2 h.f2⟩
theorem mvK_mk {w : World} {p : Pl} {m : M} {victim who : Int} {i : Nat} {W : World} {l : List S} {b : Bool} (hn : mvN victim who i (m.ss, true) = (l, b)) (le : i ≤ m.ss.length) (hat : MAt W p { m with ss:=l }) (chg : Chg (fun k => k = p.sb ∨ w.heap.size ≤ k) w W)
  (c0 : W.cell? ⟨w.heap.size, 0, none⟩ = some (.pointer (some ⟨p.mb, 0, none⟩))) (c1 : W.cell? ⟨w.heap.size + 1, 0, none⟩ = some (.i who)) (c2 : W.cell? ⟨w.heap.size + 1 + 1, 0, none⟩ = some (.bool b)) (f2 : W.frozen? ⟨w.heap.size + 1 + 1, 0, none⟩ = false) : mvK w p m victim who i W :=
 ⟨le, by rw [hn]; exact hat, chg, c0, c1, by rw [hn]; exact c2, f2⟩
theorem m_move {w : World} {p : Pl} {m : M} (h : MAt w p m) (victim who : Int) :
  Calls Tryz.prog 95 #[.pointer (some ⟨p.mb, 0, none⟩), .i victim, .i who] w fun e W' => (∃ v, e = .returned v) ∧ MAt W' p (m.move victim who) ∧ Chg (fun k => k = p.sb) w W':=by
 have hlm : p.mb < w.heap.size:=h.lt (.inl rfl)
 have hls : p.sb < w.heap.size:=h.lt (.inr (.inl rfl))
 have hns:=h.ok.ns
 refine (callsIn_wide (n:=9)).1 ?_
 refine callsIn_of_wp_marks Tryz.func95 rfl trivial ?_
 simp only [Tryz.ntmps95, List.size_toArray, List.length_cons, List.length_nil, Nat.reduceAdd, Nat.reduceSub, Array.replicate_succ, Array.replicate_zero, List.push_toArray, List.append_toArray, List.nil_append, List.cons_append]
 gi_wp2_with (refine ⟨trivial, ?_⟩; gi_at_call 81; refine (callsIn_wide.2 (fits_any _ _ _ _)).mono ?_; rintro e w' ⟨rfl, rfl⟩)
 have hB : Below w.heap.size w ((((((w.alloc (.cells #[.pointer (some ⟨p.mb, 0, none⟩)] 27)).alloc (.cells #[.i who] 3)).alloc (.cells #[.bool true] 4)).alloc (.cells #[.pointer (some ⟨p.mb, 0, none⟩)] 27)).alloc (.cells #[.i 0] 3)).alloc (.cells #[.i victim] 3)):=((((((Below.refl _ _).alloc (Nat.le_refl _) _).alloc (by simp) _).alloc (by simp; omega) _).alloc (by simp; omega) _).alloc (by simp; omega) _).alloc (by simp; omega) _
 have b1 : ((((((w.alloc (.cells #[.pointer (some ⟨p.mb, 0, none⟩)] 27)).alloc (.cells #[.i who] 3)).alloc (.cells #[.bool true] 4)).alloc (.cells #[.pointer (some ⟨p.mb, 0, none⟩)] 27)).alloc (.cells #[.i 0] 3)).alloc (.cells #[.i victim] 3)).cell? ⟨w.heap.size + 1 + 1 + 1, 0, none⟩ = some (.pointer (some ⟨p.mb, 0, none⟩)):=by go_simp
 have b2 : ((((((w.alloc (.cells #[.pointer (some ⟨p.mb, 0, none⟩)] 27)).alloc (.cells #[.i who] 3)).alloc (.cells #[.bool true] 4)).alloc (.cells #[.pointer (some ⟨p.mb, 0, none⟩)] 27)).alloc (.cells #[.i 0] 3)).alloc (.cells #[.i victim] 3)).cell? ⟨w.heap.size + 1 + 1 + 1 + 1, 0, none⟩ = some (.i 0):=by go_simp
 have b3 : ((((((w.alloc (.cells #[.pointer (some ⟨p.mb, 0, none⟩)] 27)).alloc (.cells #[.i who] 3)).alloc (.cells #[.bool true] 4)).alloc (.cells #[.pointer (some ⟨p.mb, 0, none⟩)] 27)).alloc (.cells #[.i 0] 3)).alloc (.cells #[.i victim] 3)).cell? ⟨w.heap.size + 1 + 1 + 1 + 1 + 1, 0, none⟩ = some (.i victim):=by go_simp
 have r0 : ((((((w.alloc (.cells #[.pointer (some ⟨p.mb, 0, none⟩)] 27)).alloc (.cells #[.i who] 3)).alloc (.cells #[.bool true] 4)).alloc (.cells #[.pointer (some ⟨p.mb, 0, none⟩)] 27)).alloc (.cells #[.i 0] 3)).alloc (.cells #[.i victim] 3)).cell? ⟨w.heap.size, 0, none⟩ = some (.pointer (some ⟨p.mb, 0, none⟩)):=by go_simp
 have r1 : ((((((w.alloc (.cells #[.pointer (some ⟨p.mb, 0, none⟩)] 27)).alloc (.cells #[.i who] 3)).alloc (.cells #[.bool true] 4)).alloc (.cells #[.pointer (some ⟨p.mb, 0, none⟩)] 27)).alloc (.cells #[.i 0] 3)).alloc (.cells #[.i victim] 3)).cell? ⟨w.heap.size + 1, 0, none⟩ = some (.i who):=by go_simp
 have r2 : ((((((w.alloc (.cells #[.pointer (some ⟨p.mb, 0, none⟩)] 27)).alloc (.cells #[.i who] 3)).alloc (.cells #[.bool true] 4)).alloc (.cells #[.pointer (some ⟨p.mb, 0, none⟩)] 27)).alloc (.cells #[.i 0] 3)).alloc (.cells #[.i victim] 3)).cell? ⟨w.heap.size + 1 + 1, 0, none⟩ = some (.bool true):=by go_simp
 have z2 : ((((((w.alloc (.cells #[.pointer (some ⟨p.mb, 0, none⟩)] 27)).alloc (.cells #[.i who] 3)).alloc (.cells #[.bool true] 4)).alloc (.cells #[.pointer (some ⟨p.mb, 0, none⟩)] 27)).alloc (.cells #[.i 0] 3)).alloc (.cells #[.i victim] 3)).frozen? ⟨w.heap.size + 1 + 1, 0, none⟩ = false:=by go_simp
 have hK0 : mvK w p m victim who 0 ((((((w.alloc (.cells #[.pointer (some ⟨p.mb, 0, none⟩)] 27)).alloc (.cells #[.i who] 3)).alloc (.cells #[.bool true] 4)).alloc (.cells #[.pointer (some ⟨p.mb, 0, none⟩)] 27)).alloc (.cells #[.i 0] 3)).alloc (.cells #[.i victim] 3)):=⟨by omega, h.below hB, Chg.ofBelow hB, r0, r1, r2, z2⟩
 have hold : ∀ k, mfp p k → k < w.heap.size:=fun k hk => h.lt hk
 have hp0 : 0 < w.heap.size:=h.lt0
 have hms : p.mb ≠ p.sb:=h.ne.2.1
 try simp only [World.size_alloc]
 generalize hwq : ((((((w.alloc (.cells #[.pointer (some ⟨p.mb, 0, none⟩)] 27)).alloc (.cells #[.i who] 3)).alloc (.cells #[.bool true] 4)).alloc (.cells #[.pointer (some ⟨p.mb, 0, none⟩)] 27)).alloc (.cells #[.i 0] 3)).alloc (.cells #[.i victim] 3)) = wq at *
 clear hwq
 have hsz : w.heap.size + 1 + 1 + 1 + 1 + 1 < wq.heap.size:=World.block_lt_of_cell? _ _ b3
 refine wpIn_rangeC (gf:=98) (lb:=#[.pointer (some ⟨w.heap.size + 1 + 1 + 1, 0, none⟩), .pointer (some ⟨w.heap.size + 1 + 1 + 1 + 1, 0, none⟩), .pointer (some ⟨w.heap.size + 1 + 1 + 1 + 1 + 1, 0, none⟩)]) rfl
  (enters_of Tryz.func98 (by kernel_rfl) rfl) (encs:=fun x : Nat => #[.i x]) (I:=fI p.sb m.ss.length) (Ww:=fun k => k = p.sb ∨ k = w.heap.size + 1 + 1) (Wr:=fun _ => False)
  (Skips:=fSkips p.sb m.ss.length 0 victim) (Yields:=fYields p.sb m.ss.length 0 victim) (Done:=fun i _ => i = m.ss.length) (s0:=0)
  ?hps ?hRd ?hseq (mvK w p m victim who) (fun _ _ => False) ?hKI ?hKs ?hKk ?hKt (fun _ _ _ h _ => h) ?hYt (fun _ _ _ h _ => h) ?hYc ?h0 ?round ?done ?stop
 case hps => intro x; rfl
 case hKI => exact fun s W h => ⟨_, mvN_len _ _ _ _, h.at'.slots⟩
 case hRd => rintro k ((rfl | rfl) | hk); omega; omega; exact hk.elim
 case hseq =>
  intro W1 hT
  refine fits_seq _ _ _ p.mb p.sb m.ss.length 0 victim _ W1 (.inl rfl) (by omega) (hT.cell b1) (hT.cell b2) (hT.cell b3) (hT.cell (Field.bkeep hB h.hdr)) (by omega) (by omega) (by omega) (by omega) (fun k hk => ?_)
  have:=hT.size
  rcases hk with rfl | rfl <;> omega
 case hKs => exact fun s W W' h hc => h.later (below_false hc)
 case hKk =>
  rintro s s' W hk ⟨q1, rfl, ss', e1, e2, e3⟩
  obtain ⟨t, ht⟩ : ∃ t, (mvN victim who s (m.ss, true)).1[s]? = some t:=⟨_, List.getElem?_eq_getElem (by rw [mvN_len]; exact q1)⟩
  obtain ⟨t', ht'⟩ : ∃ t', ss'[s]? = some t':=⟨_, List.getElem?_eq_getElem (by omega)⟩
  have hf:=e3 _ ht'
  rw [← slots_one hk.at'.slots e2 ht ht'] at hf
  have hn:=mv_skip ht hf
  exact ⟨by omega, by rw [hn]; exact hk.at', hk.chg, hk.c0, hk.c1, by rw [hn]; exact hk.c2, hk.f2⟩
 case hKt =>
  rintro s W W' hk ht
  exact ⟨hk.le, hk.at'.turned ht (fun k h => by have:=hold k h; omega) (by omega), ht.chg hk.chg (by omega), ht.cell hk.c0, ht.cell hk.c1, ht.cell hk.c2, (ht.frozen hk.c2).trans hk.f2⟩
 case hYt =>
  rintro s x s' W W' ⟨q1, q2, q3, ss', e1, e2, e3⟩ ht
  exact ⟨q1, q2, q3, ss', e1, slots_turn e2 ht, e3⟩
 case hYc =>
  rintro s x s' W W' ⟨q1, q2, q3, ss', e1, e2, e3⟩ hc
  exact ⟨q1, q2, q3, ss', e1, e2.stable (hc.block p.sb (e2.lt (by omega)) id), e3⟩
 case h0 => exact hK0
 case round =>
  intro L s x s' W hL hLW hk hy
  gi_wp2
  refine ⟨Chg.refl _ _, ?_⟩
  rintro W2 hT2 - hk2 ⟨q1, rfl, rfl, ss', e1, e2, e3⟩
  obtain ⟨t, ht⟩ : ∃ t, (mvN victim who x (m.ss, true)).1[x]? = some t:=⟨_, List.getElem?_eq_getElem (by rw [mvN_len]; exact q1)⟩
  obtain ⟨t', ht'⟩ : ∃ t', ss'[x]? = some t':=⟨_, List.getElem?_eq_getElem (by omega)⟩
  have hf:=e3 _ ht'
  rw [← slots_one hk2.at'.slots e2 ht ht'] at hf
  have HN:=Lib.hid (mv_next ht hf)
  have hAT:=hk2.at'
  have hCH:=hk2.chg
  have g0:=hk2.c0
  have g1:=hk2.c1
  have g2:=hk2.c2
  have z2':=hk2.f2
  have hltW : w.heap.size + 1 + 1 < W2.heap.size:=World.block_lt_of_cell? _ _ g2
  have htn:=m_turn' (m:={ m with ss:=(mvN victim who x (m.ss, true)).1 }) hAT x 9 x 9 who 0 t ht rfl rfl (by simp [Mod.Done])
  have htl : (M.turn { m with ss:=(mvN victim who x (m.ss, true)).1 } x 9 who 0) = { m with ss:=(mvN victim who x (m.ss, true)).1.set x (step t 9 who 0) }:=by
   unfold M.turn turnL
   simp only [ht]
  rw [htl] at htn
  clear htl ht ht' hf e1 e2 e3 hk2 hT2 hy hk hLW hL r0 r1 r2 z2 b1 b2 b3 hK0 hB
  have HLE : RowKit.Hid (x + 1 ≤ m.ss.length):=Lib.hid q1
  generalize mvN victim who x (m.ss, true) = r at *
  obtain ⟨rl, rb⟩:=r
  have HN2:=Lib.hid HN.out
  simp only at HN2 hAT g2 htn
  clear HN
  have hst : ∀ (Wx : World) (b : Bool), MAt Wx p { m with ss:=rl } → MAt (Wx.setCell ⟨w.heap.size + 1 + 1, 0, none⟩ (.bool b)) p { m with ss:=rl }:=fun Wx b h => h.chg (F:=fun k => k = w.heap.size + 1 + 1) ((Chg.refl _ _).setCell _ _ (fun _ => rfl)) (fun k hk e => by have:=hold k hk; omega) (by omega)
  cases rb
  ·have hn : RowKit.Hid (mvN victim who (x + 1) (m.ss, true) = (rl, true)):=Lib.hid (by rw [HN2.out]; rfl)
   have hA4:=hst W2 true hAT
   have g4:=World.cell?_setCell_same W2 ⟨w.heap.size + 1 + 1, 0, none⟩ (.bool true) g2
   have HF : RowKit.Hid (KeepsB (fun k => k = p.sb ∨ k = w.heap.size + 1 + 1) W2 (W2.setCell ⟨w.heap.size + 1 + 1, 0, none⟩ (.bool true)) ∧ mvK w p m victim who (x + 1) (W2.setCell ⟨w.heap.size + 1 + 1, 0, none⟩ (.bool true))) :=
    Lib.hid ⟨KeepsB.of_chg (F:=fun k => k = w.heap.size + 1 + 1) ((Chg.refl _ _).setCell _ _ (fun _ => rfl)) (fun _ _ h => .inr h), mvK_mk hn.out HLE.out hA4 (hCH.setCell _ _ (fun h => by simp at h; omega))
     ((World.cell?_setCell_other _ _ _ _ (by simp <;> omega)).trans g0) ((World.cell?_setCell_other _ _ _ _ (by simp)).trans g1) g4 (by simp [z2'])⟩
   clear hA4 g4 hst htn hAT hCH
   gi_wp2_with fail
   exact HF.out
  ·have hn : RowKit.Hid (mvN victim who (x + 1) (m.ss, true) = (rl.set x (step t 9 who 0), false)):=Lib.hid (by rw [HN2.out]; rfl)
   clear hst
   gi_wp2_with fail
   refine ⟨trivial, ?_⟩
   gi_at_call 63
   refine (CallsIn.inRound L (callsIn_wide.2 htn)).mono ?_
   rintro e w6 ⟨rfl, h6, hc6⟩
   have y0:=(hc6.cell (p:=⟨w.heap.size, 0, none⟩) (by simp; omega) (by simp; omega)).trans g0
   have y1:=(hc6.cell (p:=⟨w.heap.size + 1, 0, none⟩) (by simp; omega) (by simp; omega)).trans g1
   have y2:=(hc6.cell (p:=⟨w.heap.size + 1 + 1, 0, none⟩) (by simpa using hltW) (by simp; omega)).trans g2
   have y3:=(hc6.frozen (p:=⟨w.heap.size + 1 + 1, 0, none⟩) (by simpa using hltW) (by simp; omega)).trans z2'
   have hA4 : MAt (w6.setCell ⟨w.heap.size + 1 + 1, 0, none⟩ (.bool false)) p { m with ss:=rl.set x (step t 9 who 0) }:=h6.chg (F:=fun k => k = w.heap.size + 1 + 1) ((Chg.refl _ _).setCell _ _ (fun _ => rfl)) (fun k hk e => by have:=hold k hk; omega) (by omega)
   have hC6:=hCH.trans hc6 (fun _ _ h => .inl h)
   have g4:=World.cell?_setCell_same w6 ⟨w.heap.size + 1 + 1, 0, none⟩ (.bool false) y2
   have HF : RowKit.Hid (KeepsB (fun k => k = p.sb ∨ k = w.heap.size + 1 + 1) W2 (w6.setCell ⟨w.heap.size + 1 + 1, 0, none⟩ (.bool false)) ∧ mvK w p m victim who (x + 1) (w6.setCell ⟨w.heap.size + 1 + 1, 0, none⟩ (.bool false))) :=
    Lib.hid ⟨KeepsB.of_chg (F:=fun k => k = p.sb ∨ k = w.heap.size + 1 + 1) ((hc6.mono (fun _ _ h => .inl h)).setCell _ _ (fun _ => .inr rfl)) (fun _ _ h => h), mvK_mk hn.out HLE.out hA4 (hC6.setCell _ _ (fun h => by simp at h; omega))
     ((World.cell?_setCell_other _ _ _ _ (by simp <;> omega)).trans y0) ((World.cell?_setCell_other _ _ _ _ (by simp)).trans y1) g4 (by simp [y3])⟩
   clear hA4 g4 h6 hc6 htn hAT hCH hC6 g0 g1 g2 z2' y0 y1
   gi_wp2_with fail
   exact HF.out
 case done =>
  rintro D s W hD rfl hk hKD
  have hat:=hk.at'
  rw [mvN_all] at hat
  have hch:=hk.chg
  clear hk
  have hT : Turn wq.heap.size W (W.putObj D (.deferred none)):=(Turn.refl _ _).putObj _ hD hKD rfl
  have hat2:=hat.turned hT (fun k h => by have:=hold k h; omega) (by omega)
  have hch2 : Chg (fun k => k = p.sb) w (W.putObj D (.deferred none)):=by
   have:=hT.chg hch (by omega)
   exact ⟨this.os, this.tape, this.output, this.size, fun k hk hf => this.block k hk (fun h => h.elim hf (fun h => by omega))⟩
  gi_wp2
  refine ⟨by simp, .inl ⟨_, _, rfl, run_takeDeferred hKD, ?_⟩⟩
  exact ⟨_, results_none rfl _ _ _, ⟨_, rfl⟩, hat2, hch2⟩
 case stop => exact fun D c W hD h hK => h.elim
end Go.Proofs.YtpmkgddjgebojaaGreatDoor.Mod
namespace Go.Proofs.YtpmkgddjgebojaaGreatDoor.Mod
open Go.RowKit Hp Slot RowL Life
def tell (ks : List Wk) (who : Int) : List Wk:=ks.set who.toNat { ks[who.toNat]?.getD Wk.zero with at':=3 }
theorem tell_len (ks : List Wk) (who : Int) : (tell ks who).length = ks.length:=by unfold tell; simp
def tellN (l : List Int) (ks : List Wk) (k : Nat) : List Wk:=(l.take k).foldl tell ks
theorem tellN_len (l : List Int) (ks : List Wk) : ∀ k, (tellN l ks k).length = ks.length:=by
 intro k
 unfold tellN
 generalize l.take k = q
 induction q generalizing ks with
 | nil => rfl
 | cons x q ih => rw [List.foldl_cons, ih, tell_len]
theorem tellN_succ {l : List Int} {ks : List Wk} {k : Nat} {x : Int} (h : l[k]? = some x) : tellN l ks (k + 1) = tell (tellN l ks k) x:=by
 unfold tellN
 obtain ⟨hl, h⟩:=List.getElem?_eq_some_iff.1 h
 rw [List.take_succ_eq_append_getElem hl, List.foldl_append, h]
 rfl
theorem tellN_all (l : List Int) (ks : List Wk) : tellN l ks l.length = l.foldl tell ks:=by unfold tellN; rw [List.take_length]
theorem tell_grants {ks : List Wk} {n : Nat} (h : ∀ k ∈ ks, k.at' = 2 → 0 ≤ k.slot ∧ k.slot < n) (who : Int) : ∀ k ∈ tell ks who, k.at' = 2 → 0 ≤ k.slot ∧ k.slot < n:=by
 intro k hk h2
 rcases List.mem_or_eq_of_mem_set hk with hk | rfl
 ·exact h k hk h2
 ·simp at h2
theorem tellN_grants {ks : List Wk} {n : Nat} (h : ∀ k ∈ ks, k.at' = 2 → 0 ≤ k.slot ∧ k.slot < n) (l : List Int) : ∀ i, ∀ k ∈ tellN l ks i, k.at' = 2 → 0 ≤ k.slot ∧ k.slot < n:=by
 intro i
 unfold tellN
 generalize l.take i = q
 induction q generalizing ks with
 | nil => exact h
 | cons x q ih => exact ih (tell_grants h x)
theorem hd_line {W : World} {p : Pl} {c : Conf.Cf} {ns nk : Nat} {closed : Int} (h : Hd W p c ns nk closed) (v : Value) : Hd (W.setCell ⟨p.mb, 7, none⟩ v) { p with lv:=v } c ns nk closed:=by
 have e : ∀ o, o ≠ 7 → (W.setCell ⟨p.mb, 7, none⟩ v).cell? ⟨p.mb, o, none⟩ = W.cell? ⟨p.mb, o, none⟩:=fun o ho => World.cell?_setCell_other _ _ _ _ (by simp <;> omega)
 exact ⟨(e 0 (by omega)).trans h.c0, (e 1 (by omega)).trans h.c1, (e 2 (by omega)).trans h.c2, (e 3 (by omega)).trans h.c3, (e 4 (by omega)).trans h.c4, (e 5 (by omega)).trans h.c5, (e 6 (by omega)).trans h.c6,
  World.cell?_setCell_same _ _ _ h.c7, (e 8 (by omega)).trans h.c8, (e 9 (by omega)).trans h.c9, (e 10 (by omega)).trans h.c10, by simp [h.f7], by simp [h.f8]⟩
theorem MPost.pre {W W1 w : World} {p : Pl} {ans : Value} {m' : M} {e : Ending} (hc : Chg (mfp p) W W1) (hs : W1.heap.size = W.heap.size) (h : MPost W1 p ans m' e w) : MPost W p ans m' e w:=by
 obtain ⟨h0, lv, rv, h1, h2, h3, h4⟩:=h
 exact ⟨h0, lv, rv, h1, fun k hk => by rw [← hs]; exact h2 k hk, fun k hk => by rw [← hs]; exact h3 k hk, hc.trans h4 (fun _ _ h => h)⟩
theorem m_close {W : World} {p : Pl} {m : M} (h : MAt W p m) (force : Bool) :
  Calls Tryz.prog 78 #[.pointer (some ⟨p.mb, 0, none⟩), .bool force] W (MPost W p Ev.zero.val (m.close force)):=by
 have hlt : p.mb < W.heap.size:=h.lt (.inl rfl)
 have c8:=h.hd.c8
 have f8:=h.hd.f8
 have hR : RowKit.Hid (m.close force = { m with closed:=(if force then 2 else if m.closed = 0 then 1 else m.closed), ks:=m.line.foldl tell m.ks, line:=[] }):=rfl
 generalize m.close force = R at *
 obtain ⟨la, lc, hlv⟩:=h.own.form
 have HLV:=Lib.hid hlv
 have hfew:=h.ok.few
 have HGR:=Lib.hid h.ok.grants
 clear hlv
 cases force
 ·by_cases hc0 : m.closed = 0
  ·have hc0' : (m.closed == 0) = true:=by simp [hc0]
   have HR2 : RowKit.Hid (R = { m with closed:=1, ks:=m.line.foldl tell m.ks, line:=[] }):=Lib.hid (by rw [hR.out]; simp [hc0])
   have h1:=h.toClosed 1 (by simp)
   have hC0 : Chg (mfp p) W (W.setCell ⟨p.mb, 8, none⟩ (.i 1)):=(Chg.refl _ _).setCell _ _ (fun _ => .inl rfl)
   have hsz : (W.setCell ⟨p.mb, 8, none⟩ (.i 1)).heap.size = W.heap.size:=by simp
   clear hc0 hR
   go_enter Tryz.func78, Tryz.ntmps78
   have HSZ:=Lib.hid hsz
   clear hsz
   have hB : Below (W.setCell ⟨p.mb, 8, none⟩ (.i 1)).heap.size (W.setCell ⟨p.mb, 8, none⟩ (.i 1)) ((W.setCell ⟨p.mb, 8, none⟩ (.i 1)).alloc (.cells Zv 36)):=(Below.refl _ _).alloc (Nat.le_refl _) _
   have r1 : Re (W.setCell ⟨p.mb, 8, none⟩ (.i 1)).heap.size ((W.setCell ⟨p.mb, 8, none⟩ (.i 1)).alloc (.cells Zv 36)) p ((W.setCell ⟨p.mb, 8, none⟩ (.i 1)).alloc (.cells Zv 36)) p { m with closed:=1 }:=Re.begin h1 hB
   have e1 : ERow ((W.setCell ⟨p.mb, 8, none⟩ (.i 1)).alloc (.cells Zv 36)) W.heap.size:=⟨Zv, rfl, by rw [← HSZ.out]; exact RowAt.new (W.setCell ⟨p.mb, 8, none⟩ (.i 1)) Zv 36⟩
   have hg1 : W.heap.size < ((W.setCell ⟨p.mb, 8, none⟩ (.i 1)).alloc (.cells Zv 36)).heap.size:=by rw [← HSZ.out]; simp
   go_upto_region 5 with (fail)
   generalize hwz : ((W.setCell ⟨p.mb, 8, none⟩ (.i 1)).alloc (.cells Zv 36)) = w0 at *
   clear hwz
   have c7:=r1.at'.hd.c7
   rw [HLV.out] at c7
   have R1:=Lib.hid r1
   have E1:=Lib.hid e1
   clear c8 f8 h1 r1 e1 h
   go_wp2_with fail
   clear c7
   go_loopw [24] (fun i wr => ∃ k : Nat, k ≤ m.line.length ∧ i = .i k ∧ Re (W.setCell ⟨p.mb, 8, none⟩ (.i 1)).heap.size w0 p wr p { m with closed:=1, ks:=tellN m.line m.ks k } ∧ ERow wr W.heap.size) (fun i _ => m.line.length - (intOf i).toNat)
   case atStart => exact ⟨0, by omega, rfl, R1.out, E1.out⟩
   case round =>
    clear R1 E1
    obtain ⟨k, hk, rfl, r2, e2⟩:=hrel
    have k0 : (0 : Int) ≤ (k : Int):=by omega
    have R2:=Lib.hid r2
    have E2:=Lib.hid e2
    by_cases hlt : k < m.line.length
    ·obtain ⟨x, hx⟩ : ∃ x, m.line[k]? = some x:=⟨_, List.getElem?_eq_getElem hlt⟩
     obtain ⟨g, off, cap, hl, hcap, -, -, -, -, hcell⟩:=r2.at'.own.some (by simpa using (show 0 < m.line.length by omega))
     simp only at hl hcell
     obtain ⟨rfl, rfl⟩ : la = some ⟨g, off, none⟩ ∧ lc = cap:=by have:=HLV.out.symm.trans hl; cases this; exact ⟨rfl, rfl⟩
     have hcx:=hcell k (.i x) (by simp [hx])
     have hxb:=r2.at'.ok.line x (List.mem_of_getElem? hx)
     simp only [tellN_len] at hxb
     obtain ⟨j, rfl⟩:=Int.eq_ofNat_of_zero_le hxb.1
     have c6:=r2.at'.hd.c6
     simp only [tellN_len] at c6
     obtain ⟨kk, hkk⟩ : ∃ kk, (tellN m.line m.ks k)[j]? = some kk:=⟨_, List.getElem?_eq_getElem (by rw [tellN_len]; omega)⟩
     have d0:=(r2.at'.works.get hkk).1
     have f0:=r2.at'.works.2 j 0 (by simp only [tellN_len]; omega) (by omega)
     simp only [Nat.add_zero] at f0
     have hw1:=r2.at'.works.set1 (k':={ kk with at':=3 }) hkk 0 (by omega) (.i 3) rfl
     have hset : (tellN m.line m.ks k).set j { kk with at':=3 } = tellN m.line m.ks (k + 1):=by
      rw [tellN_succ hx]; unfold tell; simp only [Int.toNat_natCast, hkk, Option.getD_some]
     rw [hset] at hw1
     have hMA:=r2.at'.toWorks ((Chg.refl _ _).setCell ⟨p.kb, j * 9 + 0, none⟩ (.i 3) (fun _ => rfl)) hw1 (by simp only [tellN_len]) (tellN_grants HGR.out m.line (k + 1))
     have r3:=r2.works hMA ((Chg.refl _ _).setCell ⟨p.kb, j * 9 + 0, none⟩ (.i 3) (fun _ => rfl))
     have e3:=e2.chg (F:=fun k => k = p.kb) ((Chg.refl _ _).setCell ⟨p.kb, j * 9 + 0, none⟩ (.i 3) (fun _ => rfl)) (fun e => r2.not (Nat.le_of_eq HSZ.out) hg1 (.inr (.inr (.inl e))))
     have R3:=Lib.hid r3
     have E3:=Lib.hid e3
     have q1 : (k : Int) < (m.line.length : Int):=by omega
     have q2 : (k : Int) ≤ (m.line.length : Int) - 1:=by omega
     obtain ⟨q3, q4⟩:=hxb
     have q5 : (j : Int) ≤ (m.ks.length : Int) - 1:=by omega
     have hnk:=r2.at'.ok.nk
     simp only [tellN_len] at hnk
     clear hset hMA hw1 hkk hx hl hcell r3 e3 r2 e2
     go_wp2_with fail
     go_roundw
     case rel => exact ⟨k + 1, by omega, by go_num, R3.out, E3.out⟩
     case measure => simp [intOf]; omega
    ·have hkk : k = m.line.length:=by omega
     have HR3 : RowKit.Hid (R = { m with closed:=1, ks:=tellN m.line m.ks k, line:=[] }):=Lib.hid (by rw [HR2.out, hkk, tellN_all])
     have HR2:=HR3
     have c7:=r2.at'.hd.c7
     have f7:=r2.at'.hd.f7
     have hML:=r2.at'.toLine (v':=.slice none 0 0) (l:=[]) (ownS_nil _ _) (by simp) (by simp) (fun k hk => (fp_nil k hk).elim) ((Chg.refl _ _).setCell ⟨p.mb, 7, none⟩ (.slice none 0 0) (fun _ => .inl rfl)) (hd_line r2.at'.hd _)
     have hp : MPost wr p Ev.zero.val _ (.returned Ev.zero.val) (wr.setCell ⟨p.mb, 7, none⟩ (.slice none 0 0)):=⟨rfl, .slice none 0 0, p.rv, hML, fun k hk => (fp_nil k hk).elim, fun k hk => .inl hk, (Chg.refl _ _).setCell _ _ (fun _ => .inl rfl)⟩
     obtain ⟨-, p5, r5, hc5⟩:=r2.post hp
     have e5:=e2.chg hc5 (r2.not (Nat.le_of_eq HSZ.out) hg1)
     clear hML hp hc5 r2 e2 hkk
     go_upto_region 11 with (fail)
     obtain ⟨Z, z1, z2⟩:=e5
     refine wp_region_lit ?_
     refine RowL.gl (Ev.zero).val ?_ (by go_simp; try rfl)
     refine RowL.gSt z2 (Ev.zero).cells 36 (.tmp 4) (.tmp 39) ?_ (hsz:=z1) (h1:=ev_one _)
     go_wp2_with fail
     refine bR1 W.heap.size (z2.set _) Tryz.underlying36 ?_
     rw [HR2.out]
     exact MPost.pre hC0 HSZ.out ((r5.row (Nat.le_of_eq HSZ.out) hg1 _).fin hB _)
  ·have hc0' : (m.closed == 0) = false:=by simp [hc0]
   have HR2 : RowKit.Hid (R = { m with closed:=m.closed, ks:=m.line.foldl tell m.ks, line:=[] }):=Lib.hid (by rw [hR.out]; simp [hc0])
   have h1 : MAt W p { m with closed:=m.closed }:=h
   have hC0 : Chg (mfp p) W W:=Chg.refl _ _
   have hsz : W.heap.size = W.heap.size:=rfl
   clear hc0 hR
   go_enter Tryz.func78, Tryz.ntmps78
   have HSZ:=Lib.hid hsz
   clear hsz
   have hB : Below W.heap.size W (W.alloc (.cells Zv 36)):=(Below.refl _ _).alloc (Nat.le_refl _) _
   have r1 : Re W.heap.size (W.alloc (.cells Zv 36)) p (W.alloc (.cells Zv 36)) p { m with closed:=m.closed }:=Re.begin h1 hB
   have e1 : ERow (W.alloc (.cells Zv 36)) W.heap.size:=⟨Zv, rfl, by rw [← (Eq.refl W.heap.size)]; exact RowAt.new W Zv 36⟩
   have hg1 : W.heap.size < (W.alloc (.cells Zv 36)).heap.size:=by rw [← (Eq.refl W.heap.size)]; simp
   go_upto_region 5 with (fail)
   generalize hwz : (W.alloc (.cells Zv 36)) = w0 at *
   clear hwz
   have c7:=r1.at'.hd.c7
   rw [HLV.out] at c7
   have R1:=Lib.hid r1
   have E1:=Lib.hid e1
   clear c8 f8 h1 r1 e1 h
   go_wp2_with fail
   clear c7
   go_loopw [24] (fun i wr => ∃ k : Nat, k ≤ m.line.length ∧ i = .i k ∧ Re W.heap.size w0 p wr p { m with closed:=m.closed, ks:=tellN m.line m.ks k } ∧ ERow wr W.heap.size) (fun i _ => m.line.length - (intOf i).toNat)
   case atStart => exact ⟨0, by omega, rfl, R1.out, E1.out⟩
   case round =>
    clear R1 E1
    obtain ⟨k, hk, rfl, r2, e2⟩:=hrel
    have k0 : (0 : Int) ≤ (k : Int):=by omega
    have R2:=Lib.hid r2
    have E2:=Lib.hid e2
    by_cases hlt : k < m.line.length
    ·obtain ⟨x, hx⟩ : ∃ x, m.line[k]? = some x:=⟨_, List.getElem?_eq_getElem hlt⟩
     obtain ⟨g, off, cap, hl, hcap, -, -, -, -, hcell⟩:=r2.at'.own.some (by simpa using (show 0 < m.line.length by omega))
     simp only at hl hcell
     obtain ⟨rfl, rfl⟩ : la = some ⟨g, off, none⟩ ∧ lc = cap:=by have:=HLV.out.symm.trans hl; cases this; exact ⟨rfl, rfl⟩
     have hcx:=hcell k (.i x) (by simp [hx])
     have hxb:=r2.at'.ok.line x (List.mem_of_getElem? hx)
     simp only [tellN_len] at hxb
     obtain ⟨j, rfl⟩:=Int.eq_ofNat_of_zero_le hxb.1
     have c6:=r2.at'.hd.c6
     simp only [tellN_len] at c6
     obtain ⟨kk, hkk⟩ : ∃ kk, (tellN m.line m.ks k)[j]? = some kk:=⟨_, List.getElem?_eq_getElem (by rw [tellN_len]; omega)⟩
     have d0:=(r2.at'.works.get hkk).1
     have f0:=r2.at'.works.2 j 0 (by simp only [tellN_len]; omega) (by omega)
     simp only [Nat.add_zero] at f0
     have hw1:=r2.at'.works.set1 (k':={ kk with at':=3 }) hkk 0 (by omega) (.i 3) rfl
     have hset : (tellN m.line m.ks k).set j { kk with at':=3 } = tellN m.line m.ks (k + 1):=by
      rw [tellN_succ hx]; unfold tell; simp only [Int.toNat_natCast, hkk, Option.getD_some]
     rw [hset] at hw1
     have hMA:=r2.at'.toWorks ((Chg.refl _ _).setCell ⟨p.kb, j * 9 + 0, none⟩ (.i 3) (fun _ => rfl)) hw1 (by simp only [tellN_len]) (tellN_grants HGR.out m.line (k + 1))
     have r3:=r2.works hMA ((Chg.refl _ _).setCell ⟨p.kb, j * 9 + 0, none⟩ (.i 3) (fun _ => rfl))
     have e3:=e2.chg (F:=fun k => k = p.kb) ((Chg.refl _ _).setCell ⟨p.kb, j * 9 + 0, none⟩ (.i 3) (fun _ => rfl)) (fun e => r2.not (Nat.le_of_eq (Eq.refl W.heap.size)) hg1 (.inr (.inr (.inl e))))
     have R3:=Lib.hid r3
     have E3:=Lib.hid e3
     have q1 : (k : Int) < (m.line.length : Int):=by omega
     have q2 : (k : Int) ≤ (m.line.length : Int) - 1:=by omega
     obtain ⟨q3, q4⟩:=hxb
     have q5 : (j : Int) ≤ (m.ks.length : Int) - 1:=by omega
     have hnk:=r2.at'.ok.nk
     simp only [tellN_len] at hnk
     clear hset hMA hw1 hkk hx hl hcell r3 e3 r2 e2
     go_wp2_with fail
     go_roundw
     case rel => exact ⟨k + 1, by omega, by go_num, R3.out, E3.out⟩
     case measure => simp [intOf]; omega
    ·have hkk : k = m.line.length:=by omega
     have HR3 : RowKit.Hid (R = { m with closed:=m.closed, ks:=tellN m.line m.ks k, line:=[] }):=Lib.hid (by rw [HR2.out, hkk, tellN_all])
     have HR2:=HR3
     have c7:=r2.at'.hd.c7
     have f7:=r2.at'.hd.f7
     have hML:=r2.at'.toLine (v':=.slice none 0 0) (l:=[]) (ownS_nil _ _) (by simp) (by simp) (fun k hk => (fp_nil k hk).elim) ((Chg.refl _ _).setCell ⟨p.mb, 7, none⟩ (.slice none 0 0) (fun _ => .inl rfl)) (hd_line r2.at'.hd _)
     have hp : MPost wr p Ev.zero.val _ (.returned Ev.zero.val) (wr.setCell ⟨p.mb, 7, none⟩ (.slice none 0 0)):=⟨rfl, .slice none 0 0, p.rv, hML, fun k hk => (fp_nil k hk).elim, fun k hk => .inl hk, (Chg.refl _ _).setCell _ _ (fun _ => .inl rfl)⟩
     obtain ⟨-, p5, r5, hc5⟩:=r2.post hp
     have e5:=e2.chg hc5 (r2.not (Nat.le_of_eq (Eq.refl W.heap.size)) hg1)
     clear hML hp hc5 r2 e2 hkk
     go_upto_region 11 with (fail)
     obtain ⟨Z, z1, z2⟩:=e5
     refine wp_region_lit ?_
     refine RowL.gl (Ev.zero).val ?_ (by go_simp; try rfl)
     refine RowL.gSt z2 (Ev.zero).cells 36 (.tmp 4) (.tmp 39) ?_ (hsz:=z1) (h1:=ev_one _)
     go_wp2_with fail
     refine bR1 W.heap.size (z2.set _) Tryz.underlying36 ?_
     rw [HR2.out]
     exact MPost.pre hC0 (Eq.refl W.heap.size) ((r5.row (Nat.le_of_eq (Eq.refl W.heap.size)) hg1 _).fin hB _)
 ·have HR2 : RowKit.Hid (R = { m with closed:=2, ks:=m.line.foldl tell m.ks, line:=[] }):=Lib.hid (by rw [hR.out]; simp)
  have h1:=h.toClosed 2 (by simp)
  have hC0 : Chg (mfp p) W (W.setCell ⟨p.mb, 8, none⟩ (.i 2)):=(Chg.refl _ _).setCell _ _ (fun _ => .inl rfl)
  have hsz : (W.setCell ⟨p.mb, 8, none⟩ (.i 2)).heap.size = W.heap.size:=by simp
  clear hR
  go_enter Tryz.func78, Tryz.ntmps78
  have HSZ:=Lib.hid hsz
  clear hsz
  have hB : Below (W.setCell ⟨p.mb, 8, none⟩ (.i 2)).heap.size (W.setCell ⟨p.mb, 8, none⟩ (.i 2)) ((W.setCell ⟨p.mb, 8, none⟩ (.i 2)).alloc (.cells Zv 36)):=(Below.refl _ _).alloc (Nat.le_refl _) _
  have r1 : Re (W.setCell ⟨p.mb, 8, none⟩ (.i 2)).heap.size ((W.setCell ⟨p.mb, 8, none⟩ (.i 2)).alloc (.cells Zv 36)) p ((W.setCell ⟨p.mb, 8, none⟩ (.i 2)).alloc (.cells Zv 36)) p { m with closed:=2 }:=Re.begin h1 hB
  have e1 : ERow ((W.setCell ⟨p.mb, 8, none⟩ (.i 2)).alloc (.cells Zv 36)) W.heap.size:=⟨Zv, rfl, by rw [← HSZ.out]; exact RowAt.new (W.setCell ⟨p.mb, 8, none⟩ (.i 2)) Zv 36⟩
  have hg1 : W.heap.size < ((W.setCell ⟨p.mb, 8, none⟩ (.i 2)).alloc (.cells Zv 36)).heap.size:=by rw [← HSZ.out]; simp
  go_upto_region 5 with (fail)
  generalize hwz : ((W.setCell ⟨p.mb, 8, none⟩ (.i 2)).alloc (.cells Zv 36)) = w0 at *
  clear hwz
  have c7:=r1.at'.hd.c7
  rw [HLV.out] at c7
  have R1:=Lib.hid r1
  have E1:=Lib.hid e1
  clear c8 f8 h1 r1 e1 h
  go_wp2_with fail
  clear c7
  go_loopw [24] (fun i wr => ∃ k : Nat, k ≤ m.line.length ∧ i = .i k ∧ Re (W.setCell ⟨p.mb, 8, none⟩ (.i 2)).heap.size w0 p wr p { m with closed:=2, ks:=tellN m.line m.ks k } ∧ ERow wr W.heap.size) (fun i _ => m.line.length - (intOf i).toNat)
  case atStart => exact ⟨0, by omega, rfl, R1.out, E1.out⟩
  case round =>
   clear R1 E1
   obtain ⟨k, hk, rfl, r2, e2⟩:=hrel
   have k0 : (0 : Int) ≤ (k : Int):=by omega
   have R2:=Lib.hid r2
   have E2:=Lib.hid e2
   by_cases hlt : k < m.line.length
   ·obtain ⟨x, hx⟩ : ∃ x, m.line[k]? = some x:=⟨_, List.getElem?_eq_getElem hlt⟩
    obtain ⟨g, off, cap, hl, hcap, -, -, -, -, hcell⟩:=r2.at'.own.some (by simpa using (show 0 < m.line.length by omega))
    simp only at hl hcell
    obtain ⟨rfl, rfl⟩ : la = some ⟨g, off, none⟩ ∧ lc = cap:=by have:=HLV.out.symm.trans hl; cases this; exact ⟨rfl, rfl⟩
    have hcx:=hcell k (.i x) (by simp [hx])
    have hxb:=r2.at'.ok.line x (List.mem_of_getElem? hx)
    simp only [tellN_len] at hxb
    obtain ⟨j, rfl⟩:=Int.eq_ofNat_of_zero_le hxb.1
    have c6:=r2.at'.hd.c6
    simp only [tellN_len] at c6
    obtain ⟨kk, hkk⟩ : ∃ kk, (tellN m.line m.ks k)[j]? = some kk:=⟨_, List.getElem?_eq_getElem (by rw [tellN_len]; omega)⟩
    have d0:=(r2.at'.works.get hkk).1
    have f0:=r2.at'.works.2 j 0 (by simp only [tellN_len]; omega) (by omega)
    simp only [Nat.add_zero] at f0
    have hw1:=r2.at'.works.set1 (k':={ kk with at':=3 }) hkk 0 (by omega) (.i 3) rfl
    have hset : (tellN m.line m.ks k).set j { kk with at':=3 } = tellN m.line m.ks (k + 1):=by
     rw [tellN_succ hx]; unfold tell; simp only [Int.toNat_natCast, hkk, Option.getD_some]
    rw [hset] at hw1
    have hMA:=r2.at'.toWorks ((Chg.refl _ _).setCell ⟨p.kb, j * 9 + 0, none⟩ (.i 3) (fun _ => rfl)) hw1 (by simp only [tellN_len]) (tellN_grants HGR.out m.line (k + 1))
    have r3:=r2.works hMA ((Chg.refl _ _).setCell ⟨p.kb, j * 9 + 0, none⟩ (.i 3) (fun _ => rfl))
    have e3:=e2.chg (F:=fun k => k = p.kb) ((Chg.refl _ _).setCell ⟨p.kb, j * 9 + 0, none⟩ (.i 3) (fun _ => rfl)) (fun e => r2.not (Nat.le_of_eq HSZ.out) hg1 (.inr (.inr (.inl e))))
    have R3:=Lib.hid r3
    have E3:=Lib.hid e3
    have q1 : (k : Int) < (m.line.length : Int):=by omega
    have q2 : (k : Int) ≤ (m.line.length : Int) - 1:=by omega
    obtain ⟨q3, q4⟩:=hxb
    have q5 : (j : Int) ≤ (m.ks.length : Int) - 1:=by omega
    have hnk:=r2.at'.ok.nk
    simp only [tellN_len] at hnk
    clear hset hMA hw1 hkk hx hl hcell r3 e3 r2 e2
    go_wp2_with fail
    go_roundw
    case rel => exact ⟨k + 1, by omega, by go_num, R3.out, E3.out⟩
    case measure => simp [intOf]; omega
   ·have hkk : k = m.line.length:=by omega
    have HR3 : RowKit.Hid (R = { m with closed:=2, ks:=tellN m.line m.ks k, line:=[] }):=Lib.hid (by rw [HR2.out, hkk, tellN_all])
    have HR2:=HR3
    have c7:=r2.at'.hd.c7
    have f7:=r2.at'.hd.f7
    have hML:=r2.at'.toLine (v':=.slice none 0 0) (l:=[]) (ownS_nil _ _) (by simp) (by simp) (fun k hk => (fp_nil k hk).elim) ((Chg.refl _ _).setCell ⟨p.mb, 7, none⟩ (.slice none 0 0) (fun _ => .inl rfl)) (hd_line r2.at'.hd _)
    have hp : MPost wr p Ev.zero.val _ (.returned Ev.zero.val) (wr.setCell ⟨p.mb, 7, none⟩ (.slice none 0 0)):=⟨rfl, .slice none 0 0, p.rv, hML, fun k hk => (fp_nil k hk).elim, fun k hk => .inl hk, (Chg.refl _ _).setCell _ _ (fun _ => .inl rfl)⟩
    obtain ⟨-, p5, r5, hc5⟩:=r2.post hp
    have e5:=e2.chg hc5 (r2.not (Nat.le_of_eq HSZ.out) hg1)
    clear hML hp hc5 r2 e2 hkk
    go_upto_region 11 with (fail)
    obtain ⟨Z, z1, z2⟩:=e5
    refine wp_region_lit ?_
    refine RowL.gl (Ev.zero).val ?_ (by go_simp; try rfl)
    refine RowL.gSt z2 (Ev.zero).cells 36 (.tmp 4) (.tmp 39) ?_ (hsz:=z1) (h1:=ev_one _)
    go_wp2_with fail
    refine bR1 W.heap.size (z2.set _) Tryz.underlying36 ?_
    rw [HR2.out]
    exact MPost.pre hC0 HSZ.out ((r5.row (Nat.le_of_eq HSZ.out) hg1 _).fin hB _)
end Go.Proofs.YtpmkgddjgebojaaGreatDoor.Mod
