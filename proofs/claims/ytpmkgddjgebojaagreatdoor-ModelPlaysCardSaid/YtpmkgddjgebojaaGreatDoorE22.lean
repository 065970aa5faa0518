/- Part 22 of the walks and plain laws that the last text joins. -/
import Derived.Test.YtpmkgddjgebojaaGreatDoorE20
import Derived.Test.YtpmkgddjgebojaaGreatDoorE21
import Derived.Sort.CutIn
set_option maxRecDepth 100000
set_option maxHeartbeats 16000000
set_option linter.unusedVariables false
set_option linter.unusedSimpArgs false
namespace Go.Proofs.YtpmkgddjgebojaaGreatDoor.Mod
open Go.RowKit Go.Shelf Hp Slot RowL Life Rng
attribute [local go_sem] Oper.semAt_some
def rpOne (who : Int) (s : S) (a : List Bool) (n : Int) : S × List Bool × Int :=
 if Find.fits s 6 who then (if a.headD true && (!s.marked && !s.broken) then (step s 10 who 0, a.tail, n) else (emptied s, a.tail, n + 1)) else (s, a, n)
def rpStep (who : Int) (i : Nat) (r : List S × List Bool × Int) : List S × List Bool × Int :=
 match r.1[i]? with
 | some s => (r.1.set i (rpOne who s r.2.1 r.2.2).1, (rpOne who s r.2.1 r.2.2).2)
 | none => r
def rpN (who : Int) : Nat → List S × List Bool × Int → List S × List Bool × Int
 | 0, r => r
 | i + 1, r => rpStep who i (rpN who i r)
theorem rpStep_len (who : Int) (i : Nat) (r : List S × List Bool × Int) : (rpStep who i r).1.length = r.1.length:=by
 unfold rpStep; split <;> simp
theorem rpN_len (who : Int) : ∀ (i : Nat) (r : List S × List Bool × Int), (rpN who i r).1.length = r.1.length
 | 0, _ => rfl
 | i + 1, r => by rw [rpN, rpStep_len, rpN_len who i r]
theorem rpN_cons (who : Int) (s : S) : ∀ (i : Nat) (l : List S) (a : List Bool) (n : Int), rpN who (i + 1) (s :: l, a, n) =
  (let r:=rpN who i (l, (rpOne who s a n).2); ((rpOne who s a n).1 :: r.1, r.2))
 | 0, l, a, n => by simp [rpN, rpStep]
 | i + 1, l, a, n => by
  rw [rpN, rpN_cons who s i l a n]
  simp only [rpN]
  generalize rpN who i (l, (rpOne who s a n).2) = r
  simp only [rpStep, List.getElem?_cons_succ]
  cases r.1[i]? <;> simp
theorem rpN_all (who : Int) : ∀ (l : List S) (a : List Bool) (n : Int), rpN who l.length (l, a, n) = M.reapL who a n l
 | [], a, n => rfl
 | s :: l, a, n => by
  rw [List.length_cons, rpN_cons]
  simp only [M.reapL, rpOne]
  split
  ·split <;> simp [rpN_all who l]
  ·simp [rpN_all who l]
theorem rpOne_cnt {who : Int} {s : S} {a : List Bool} {n : Int} : n ≤ (rpOne who s a n).2.2 ∧ (rpOne who s a n).2.2 ≤ n + 1:=by
 unfold rpOne
 split
 ·split <;> simp <;> omega
 ·simp; omega
theorem rpN_cnt (who : Int) : ∀ (i : Nat) (r : List S × List Bool × Int), r.2.2 ≤ (rpN who i r).2.2 ∧ (rpN who i r).2.2 ≤ r.2.2 + i
 | 0, r => by simp [rpN]
 | i + 1, r => by
  have h:=rpN_cnt who i r
  rw [rpN]
  generalize rpN who i r = q at *
  unfold rpStep
  split
  ·have:=@rpOne_cnt who (by assumption) q.2.1 q.2.2
   simp only; omega
  ·omega
theorem rp_next {who : Int} {i : Nat} {r : List S × List Bool × Int} {t : S} (ht : (rpN who i r).1[i]? = some t) :
  rpN who (i + 1) r = ((rpN who i r).1.set i (rpOne who t (rpN who i r).2.1 (rpN who i r).2.2).1, (rpOne who t (rpN who i r).2.1 (rpN who i r).2.2).2):=by
 rw [rpN, rpStep, ht]
theorem rpOne_no {who : Int} {t : S} {a : List Bool} {n : Int} (h : Find.fits t 6 who = false) : rpOne who t a n = (t, a, n):=by unfold rpOne; simp [h]
theorem rpOne_mark {who : Int} {t : S} {a : List Bool} {n : Int} (h : Find.fits t 6 who = true) (hc : (a.headD true && (!t.marked && !t.broken)) = true) : rpOne who t a n = (step t 10 who 0, a.tail, n):=by unfold rpOne; rw [if_pos h, if_pos hc]
theorem rpOne_gone {who : Int} {t : S} {a : List Bool} {n : Int} (h : Find.fits t 6 who = true) (hc : (a.headD true && (!t.marked && !t.broken)) = false) : rpOne who t a n = (emptied t, a.tail, n + 1):=by unfold rpOne; rw [if_pos h, if_neg (by rw [hc]; simp)]
theorem set_same {l : List S} {i : Nat} {t : S} (h : l[i]? = some t) : l.set i t = l:=by
 apply List.ext_getElem?
 intro j
 rw [List.getElem?_set]
 by_cases hj : i = j
 ·subst hj; rw [if_pos rfl, h]; simp [(List.getElem?_eq_some_iff.1 h).1]
 ·rw [if_neg hj]
theorem MAt.wne {W : World} {p : Pl} {m : M} (h : MAt W p m) : ¬ World11.wfp p.wb p.rb p.rv 0 ∧ ¬ World11.wfp p.wb p.rb p.rv p.mb ∧ ¬ World11.wfp p.wb p.rb p.rv p.sb:=by
 obtain ⟨t, t0, t1, t2, t3, t4, t5, t6⟩:=h.tag
 exact ⟨fun e => by have:=t5 _ e; omega, fun e => by have:=t5 _ e; omega, fun e => by have:=t5 _ e; omega⟩
theorem m_wnextW {W : World} {p : Pl} {m : M} (h : MAt W p m) : Calls Tryz.prog 97 #[.pointer (some ⟨p.wb, 0, none⟩)] W fun e W' =>
  e = .returned (.bool m.good) ∧ ∃ rv, MAt W' { p with rv:=rv } m.next ∧ (∀ k, Fp rv k → Fp p.rv k) ∧ Chg (World11.wfp p.wb p.rb p.rv) W W':=by
 obtain ⟨g, b, hw⟩:=h.wld
 refine (World11.wnext_any W p.wb p.rb p.rv m.ahead g b hw).mono ?_
 rintro e W' ⟨rfl, v', g', b', h1, h2, h3⟩
 refine ⟨rfl, v', h.toWorld h1 ?_ (fun k hk => .inl (h2 k hk)) h3, h2, h3⟩
 have:=h.ok.ahead
 simp; omega
structure rpK (w : World) (p : Pl) (m : M) (who : Int) (i : Nat) (W : World) : Prop where
 le : i ≤ m.ss.length
 at' : ∃ rv, (∀ k, Fp rv k → Fp p.rv k) ∧ MAt W { p with rv:=rv } { m with ss:=(rpN who i (m.ss, m.ahead, 0)).1, ahead:=(rpN who i (m.ss, m.ahead, 0)).2.1 }
 chg : Chg (fun k => k = p.sb ∨ World11.wfp p.wb p.rb p.rv k ∨ w.heap.size ≤ k) w W
 c0 : W.cell? ⟨w.heap.size, 0, none⟩ = some (.pointer (some ⟨p.mb, 0, none⟩))
 c1 : W.cell? ⟨w.heap.size + 1, 0, none⟩ = some (.i who)
 c2 : RowAt W (w.heap.size + 1 + 1) ev0 36
 c3 : W.cell? ⟨w.heap.size + 1 + 1 + 1, 0, none⟩ = some (.i (rpN who i (m.ss, m.ahead, 0)).2.2)
 f3 : W.frozen? ⟨w.heap.size + 1 + 1 + 1, 0, none⟩ = false
theorem rpK.later {w : World} {p : Pl} {m : M} {who : Int} {i : Nat} {W W' : World} (h : rpK w p m who i W) (hb : Below W.heap.size W W') : rpK w p m who i W':=by
 obtain ⟨rv, h1, h2⟩:=h.at'
 exact ⟨h.le, ⟨rv, h1, h2.below hb⟩, h.chg.trans (Chg.ofBelow (F:=fun _ => False) hb) (fun _ _ h => h.elim), Field.bkeep hb h.c0, Field.bkeep hb h.c1, h.c2.below hb, Field.bkeep hb h.c3, Field.bkeepz hb h.c3 h.f3⟩
theorem rpK_mk {w : World} {p : Pl} {m : M} {who : Int} {i : Nat} {W : World} {l : List S} {a : List Bool} {n : Int} (hn : rpN who i (m.ss, m.ahead, 0) = (l, a, n)) (le : i ≤ m.ss.length) (rv : Value) (hrv : ∀ k, Fp rv k → Fp p.rv k)
  (hat : MAt W { p with rv:=rv } { m with ss:=l, ahead:=a }) (chg : Chg (fun k => k = p.sb ∨ World11.wfp p.wb p.rb p.rv k ∨ w.heap.size ≤ k) w W)
  (c0 : W.cell? ⟨w.heap.size, 0, none⟩ = some (.pointer (some ⟨p.mb, 0, none⟩))) (c1 : W.cell? ⟨w.heap.size + 1, 0, none⟩ = some (.i who)) (c2 : RowAt W (w.heap.size + 1 + 1) ev0 36)
  (c3 : W.cell? ⟨w.heap.size + 1 + 1 + 1, 0, none⟩ = some (.i n)) (f3 : W.frozen? ⟨w.heap.size + 1 + 1 + 1, 0, none⟩ = false) : rpK w p m who i W :=
 ⟨le, ⟨rv, hrv, by rw [hn]; exact hat⟩, chg, c0, c1, c2, by rw [hn]; exact c3, f3⟩
structure rpC (w : World) (p : Pl) (who n : Int) (W : World) : Prop where
 c0 : W.cell? ⟨w.heap.size, 0, none⟩ = some (.pointer (some ⟨p.mb, 0, none⟩))
 c1 : W.cell? ⟨w.heap.size + 1, 0, none⟩ = some (.i who)
 c2 : RowAt W (w.heap.size + 1 + 1) ev0 36
 c3 : W.cell? ⟨w.heap.size + 1 + 1 + 1, 0, none⟩ = some (.i n)
 f3 : W.frozen? ⟨w.heap.size + 1 + 1 + 1, 0, none⟩ = false
theorem rpC.chg {w : World} {p : Pl} {who n : Int} {W W' : World} {F : Nat → Prop} (h : rpC w p who n W) (hc : Chg F W W') (hF : ∀ k, F k → k < w.heap.size) : rpC w p who n W' :=
 ⟨(hc.cell (World.block_lt_of_cell? _ _ h.c0) (fun hf => by have:=hF _ hf; simp at this)).trans h.c0, (hc.cell (World.block_lt_of_cell? _ _ h.c1) (fun hf => by have:=hF _ hf; simp at this; omega)).trans h.c1,
  h.c2.chg hc (fun hf => by have:=hF _ hf; omega), (hc.cell (World.block_lt_of_cell? _ _ h.c3) (fun hf => by have:=hF _ hf; simp at this; omega)).trans h.c3, (hc.frozen (World.block_lt_of_cell? _ _ h.c3) (fun hf => by have:=hF _ hf; simp at this; omega)).trans h.f3⟩
theorem rpC.below {w : World} {p : Pl} {who n : Int} {W W' : World} (h : rpC w p who n W) (hb : Below W.heap.size W W') : rpC w p who n W':=h.chg (F:=fun _ => False) (Chg.ofBelow hb) (fun _ h => h.elim)
theorem m_reap {w : World} {p : Pl} {m : M} (h : MAt w p m) (who : Int) :
  Calls Tryz.prog 76 #[.pointer (some ⟨p.mb, 0, none⟩), .i who] w (MPost w p (m.reap who).1.val (m.reap who).2):=by
 have hlm : p.mb < w.heap.size:=h.lt (.inl rfl)
 have hls : p.sb < w.heap.size:=h.lt (.inr (.inl rfl))
 have hns:=h.ok.ns
 refine (callsIn_wide (n:=9)).1 ?_
 refine callsIn_of_wp_marks Tryz.func76 rfl trivial ?_
 simp only [Tryz.ntmps76, List.size_toArray, List.length_cons, List.length_nil, Nat.reduceAdd, Nat.reduceSub, Array.replicate_succ, Array.replicate_zero, List.push_toArray, List.append_toArray, List.nil_append, List.cons_append]
 gi_wp2_with (refine ⟨trivial, ?_⟩; gi_at_call 81; refine (callsIn_wide.2 (fits_any _ _ _ _)).mono ?_; rintro e w' ⟨rfl, rfl⟩)
 have hB : Below w.heap.size w (((((((w.alloc (.cells #[.pointer (some ⟨p.mb, 0, none⟩)] 27)).alloc (.cells #[.i who] 3)).alloc (.cells Zv 36)).alloc (.cells #[.i 0] 3)).alloc (.cells #[.pointer (some ⟨p.mb, 0, none⟩)] 27)).alloc (.cells #[.i 6] 3)).alloc (.cells #[.i who] 3)):=(((((((Below.refl _ _).alloc (Nat.le_refl _) _).alloc (by simp) _).alloc (by simp; omega) _).alloc (by simp; omega) _).alloc (by simp; omega) _).alloc (by simp; omega) _).alloc (by simp; omega) _
 have b1 : (((((((w.alloc (.cells #[.pointer (some ⟨p.mb, 0, none⟩)] 27)).alloc (.cells #[.i who] 3)).alloc (.cells Zv 36)).alloc (.cells #[.i 0] 3)).alloc (.cells #[.pointer (some ⟨p.mb, 0, none⟩)] 27)).alloc (.cells #[.i 6] 3)).alloc (.cells #[.i who] 3)).cell? ⟨w.heap.size + 1 + 1 + 1 + 1, 0, none⟩ = some (.pointer (some ⟨p.mb, 0, none⟩)):=by go_simp
 have b2 : (((((((w.alloc (.cells #[.pointer (some ⟨p.mb, 0, none⟩)] 27)).alloc (.cells #[.i who] 3)).alloc (.cells Zv 36)).alloc (.cells #[.i 0] 3)).alloc (.cells #[.pointer (some ⟨p.mb, 0, none⟩)] 27)).alloc (.cells #[.i 6] 3)).alloc (.cells #[.i who] 3)).cell? ⟨w.heap.size + 1 + 1 + 1 + 1 + 1, 0, none⟩ = some (.i 6):=by go_simp
 have b3 : (((((((w.alloc (.cells #[.pointer (some ⟨p.mb, 0, none⟩)] 27)).alloc (.cells #[.i who] 3)).alloc (.cells Zv 36)).alloc (.cells #[.i 0] 3)).alloc (.cells #[.pointer (some ⟨p.mb, 0, none⟩)] 27)).alloc (.cells #[.i 6] 3)).alloc (.cells #[.i who] 3)).cell? ⟨w.heap.size + 1 + 1 + 1 + 1 + 1 + 1, 0, none⟩ = some (.i who):=by go_simp
 have r0 : (((((((w.alloc (.cells #[.pointer (some ⟨p.mb, 0, none⟩)] 27)).alloc (.cells #[.i who] 3)).alloc (.cells Zv 36)).alloc (.cells #[.i 0] 3)).alloc (.cells #[.pointer (some ⟨p.mb, 0, none⟩)] 27)).alloc (.cells #[.i 6] 3)).alloc (.cells #[.i who] 3)).cell? ⟨w.heap.size, 0, none⟩ = some (.pointer (some ⟨p.mb, 0, none⟩)):=by go_simp
 have r1 : (((((((w.alloc (.cells #[.pointer (some ⟨p.mb, 0, none⟩)] 27)).alloc (.cells #[.i who] 3)).alloc (.cells Zv 36)).alloc (.cells #[.i 0] 3)).alloc (.cells #[.pointer (some ⟨p.mb, 0, none⟩)] 27)).alloc (.cells #[.i 6] 3)).alloc (.cells #[.i who] 3)).cell? ⟨w.heap.size + 1, 0, none⟩ = some (.i who):=by go_simp
 have r2 : RowAt (((((((w.alloc (.cells #[.pointer (some ⟨p.mb, 0, none⟩)] 27)).alloc (.cells #[.i who] 3)).alloc (.cells Zv 36)).alloc (.cells #[.i 0] 3)).alloc (.cells #[.pointer (some ⟨p.mb, 0, none⟩)] 27)).alloc (.cells #[.i 6] 3)).alloc (.cells #[.i who] 3)) (w.heap.size + 1 + 1) ev0 36:=by
  have h0 : RowAt (((w.alloc (.cells #[.pointer (some ⟨p.mb, 0, none⟩)] 27)).alloc (.cells #[.i who] 3)).alloc (.cells ev0 36)) (w.heap.size + 1 + 1) ev0 36:=by have:=RowAt.new ((w.alloc (.cells #[.pointer (some ⟨p.mb, 0, none⟩)] 27)).alloc (.cells #[.i who] 3)) ev0 36; simpa using this
  exact h0.below (((((Below.refl _ _).alloc (Nat.le_refl _) _).alloc (by simp) _).alloc (by simp <;> omega) _).alloc (by simp <;> omega) _)
 have r3 : (((((((w.alloc (.cells #[.pointer (some ⟨p.mb, 0, none⟩)] 27)).alloc (.cells #[.i who] 3)).alloc (.cells Zv 36)).alloc (.cells #[.i 0] 3)).alloc (.cells #[.pointer (some ⟨p.mb, 0, none⟩)] 27)).alloc (.cells #[.i 6] 3)).alloc (.cells #[.i who] 3)).cell? ⟨w.heap.size + 1 + 1 + 1, 0, none⟩ = some (.i 0):=by go_simp
 have z3 : (((((((w.alloc (.cells #[.pointer (some ⟨p.mb, 0, none⟩)] 27)).alloc (.cells #[.i who] 3)).alloc (.cells Zv 36)).alloc (.cells #[.i 0] 3)).alloc (.cells #[.pointer (some ⟨p.mb, 0, none⟩)] 27)).alloc (.cells #[.i 6] 3)).alloc (.cells #[.i who] 3)).frozen? ⟨w.heap.size + 1 + 1 + 1, 0, none⟩ = false:=by go_simp
 have hK0 : rpK w p m who 0 (((((((w.alloc (.cells #[.pointer (some ⟨p.mb, 0, none⟩)] 27)).alloc (.cells #[.i who] 3)).alloc (.cells Zv 36)).alloc (.cells #[.i 0] 3)).alloc (.cells #[.pointer (some ⟨p.mb, 0, none⟩)] 27)).alloc (.cells #[.i 6] 3)).alloc (.cells #[.i who] 3)):=⟨by omega, ⟨p.rv, fun _ h => h, h.below hB⟩, Chg.ofBelow hB, r0, r1, r2, r3, z3⟩
 have hold : ∀ k, mfp p k → k < w.heap.size:=fun k hk => h.lt hk
 have hp0 : 0 < w.heap.size:=h.lt0
 have hms : p.mb ≠ p.sb:=h.ne.2.1
 have hwn:=h.wne
 try simp only [World.size_alloc]
 generalize hwq : (((((((w.alloc (.cells #[.pointer (some ⟨p.mb, 0, none⟩)] 27)).alloc (.cells #[.i who] 3)).alloc (.cells Zv 36)).alloc (.cells #[.i 0] 3)).alloc (.cells #[.pointer (some ⟨p.mb, 0, none⟩)] 27)).alloc (.cells #[.i 6] 3)).alloc (.cells #[.i who] 3)) = wq at *
 clear hwq
 have hsz : w.heap.size + 1 + 1 + 1 + 1 + 1 + 1 < wq.heap.size:=World.block_lt_of_cell? _ _ b3
 have hwfp : ∀ k, World11.wfp p.wb p.rb p.rv k → k < w.heap.size:=fun k hk => hold k (.inr (.inr (.inr (.inr (.inl hk)))))
 refine wpIn_rangeC (gf:=98) (lb:=#[.pointer (some ⟨w.heap.size + 1 + 1 + 1 + 1, 0, none⟩), .pointer (some ⟨w.heap.size + 1 + 1 + 1 + 1 + 1, 0, none⟩), .pointer (some ⟨w.heap.size + 1 + 1 + 1 + 1 + 1 + 1, 0, none⟩)]) rfl
  (enters_of Tryz.func98 (by kernel_rfl) rfl) (encs:=fun x : Nat => #[.i x]) (I:=fI p.sb m.ss.length) (Ww:=fun k => k = p.sb ∨ World11.wfp p.wb p.rb p.rv k ∨ k = w.heap.size + 1 + 1 + 1) (Wr:=fun _ => False)
  (Skips:=fSkips p.sb m.ss.length 6 who) (Yields:=fYields p.sb m.ss.length 6 who) (Done:=fun i _ => i = m.ss.length) (s0:=0)
  ?hps ?hRd ?hseq (rpK w p m who) (fun _ _ => False) ?hKI ?hKs ?hKk ?hKt (fun _ _ _ h _ => h) ?hYt (fun _ _ _ h _ => h) ?hYc ?h0 ?round ?done ?stop
 case hps => intro x; rfl
 case hKI =>
  intro s W h
  obtain ⟨rv, h1, h2⟩:=h.at'
  exact ⟨_, rpN_len _ _ _, h2.slots⟩
 case hRd =>
  rintro k ((rfl | h | rfl) | hk)
  ·omega
  ·have:=hwfp _ h; omega
  ·omega
  ·exact hk.elim
 case hseq =>
  intro W1 hT
  refine fits_seq _ _ _ p.mb p.sb m.ss.length 6 who _ W1 (by simp) (by omega) (hT.cell b1) (hT.cell b2) (hT.cell b3) (hT.cell (Field.bkeep hB h.hdr)) ?_ ?_ ?_ ?_ (fun k hk => ?_)
  ·rintro (e | e | e)
   ·omega
   ·have:=hwfp _ e; omega
   ·omega
  ·rintro (e | e | e)
   ·omega
   ·have:=hwfp _ e; omega
   ·omega
  ·rintro (e | e | e)
   ·omega
   ·have:=hwfp _ e; omega
   ·omega
  ·rintro (e | e | e)
   ·omega
   ·exact hwn.2.1 e
   ·omega
  ·have:=hT.size
   rcases hk with rfl | hk | rfl
   ·omega
   ·have:=hwfp _ hk; omega
   ·omega
 case hKs => exact fun s W W' h hc => h.later (below_false hc)
 case hKk =>
  rintro s s' W hk ⟨q1, rfl, ss', e1, e2, e3⟩
  obtain ⟨t, ht⟩ : ∃ t, (rpN who s (m.ss, m.ahead, 0)).1[s]? = some t:=⟨_, List.getElem?_eq_getElem (by rw [rpN_len]; exact q1)⟩
  obtain ⟨t', ht'⟩ : ∃ t', ss'[s]? = some t':=⟨_, List.getElem?_eq_getElem (by omega)⟩
  obtain ⟨rv, hrv, hat⟩:=hk.at'
  have hf:=e3 _ ht'
  rw [← slots_one hat.slots e2 ht ht'] at hf
  have hn : rpN who (s + 1) (m.ss, m.ahead, 0) = rpN who s (m.ss, m.ahead, 0):=by
   rw [rp_next ht, rpOne_no hf]; simp only; rw [set_same ht]
  exact ⟨by omega, ⟨rv, hrv, by rw [hn]; exact hat⟩, hk.chg, hk.c0, hk.c1, hk.c2, by rw [hn]; exact hk.c3, hk.f3⟩
 case hKt =>
  rintro s W W' hk ht
  obtain ⟨rv, hrv, hat⟩:=hk.at'
  refine ⟨hk.le, ⟨rv, hrv, hat.turned ht (fun k h => ?_) (by omega)⟩, ht.chg hk.chg (by omega), ht.cell hk.c0, ht.cell hk.c1, ?_, ht.cell hk.c3, (ht.frozen hk.c3).trans hk.f3⟩
  ·have:=hold k (by
    rcases h with h | h | h | h | (h | h | h) | h
    ·exact .inl h
    ·exact .inr (.inl h)
    ·exact .inr (.inr (.inl h))
    ·exact .inr (.inr (.inr (.inl h)))
    ·exact .inr (.inr (.inr (.inr (.inl (.inl h)))))
    ·exact .inr (.inr (.inr (.inr (.inl (.inr (.inl h))))))
    ·exact .inr (.inr (.inr (.inr (.inl (.inr (.inr (hrv _ h)))))))
    ·exact .inr (.inr (.inr (.inr (.inr h)))))
   omega
  ·exact (ht.cells _ _ hk.c2 rfl)
 case hYt =>
  rintro s x s' W W' ⟨q1, q2, q3, ss', e1, e2, e3⟩ ht
  exact ⟨q1, q2, q3, ss', e1, slots_turn e2 ht, e3⟩
 case hYc =>
  rintro s x s' W W' ⟨q1, q2, q3, ss', e1, e2, e3⟩ hc
  exact ⟨q1, q2, q3, ss', e1, e2.stable (hc.block p.sb (e2.lt (by omega)) id), e3⟩
 case h0 => exact hK0
 case round =>
  intro L s x s' W hL hLW hk hy
  gi_wp2
  refine ⟨Chg.refl _ _, ?_⟩
  rintro W2 hT2 - hk2 ⟨q1, rfl, rfl, ss', e1, e2, e3⟩
  obtain ⟨t, ht⟩ : ∃ t, (rpN who x (m.ss, m.ahead, 0)).1[x]? = some t:=⟨_, List.getElem?_eq_getElem (by rw [rpN_len]; exact q1)⟩
  obtain ⟨t', ht'⟩ : ∃ t', ss'[x]? = some t':=⟨_, List.getElem?_eq_getElem (by omega)⟩
  obtain ⟨rv, hrv, hAT⟩:=hk2.at'
  have hf:=e3 _ ht'
  rw [← slots_one hAT.slots e2 ht ht'] at hf
  have HN:=Lib.hid (rp_next ht)
  have hcnt:=rpN_cnt who x (m.ss, m.ahead, 0)
  have hCH:=hk2.chg
  have hC : rpC w p who (rpN who x (m.ss, m.ahead, 0)).2.2 W2:=⟨hk2.c0, hk2.c1, hk2.c2, hk2.c3, hk2.f3⟩
  have hltW : w.heap.size + 1 + 1 + 1 < W2.heap.size:=World.block_lt_of_cell? _ _ hk2.c3
  clear ht' e1 e2 e3 hk2 hT2 hy hk hLW hL r0 r1 r2 r3 z3 b1 b2 b3 hK0 hB
  have HLE : RowKit.Hid (x + 1 ≤ m.ss.length):=Lib.hid q1
  generalize rpN who x (m.ss, m.ahead, 0) = r at *
  obtain ⟨rl, ra, rn⟩:=r
  have HN2:=Lib.hid HN.out
  simp only at HN2 hAT hC ht hcnt
  clear HN
  have hle : rl.length = m.ss.length:=by have h1:=hAT.ok.nss; have h2:=h.ok.nss; simp only at h1; omega
  have hA2 : MAt W2 { p with rv:=rv } { m with ss:=rl, ahead:=ra }:=hAT
  have k5:=hAT.hd.c5
  have k10:=hAT.hd.c10
  have dd:=hAT.slots.get ht
  have g0:=hC.c0
  have g1:=hC.c1
  simp only at k5 k10 dd
  rw [hle] at k5
  have hlt : x < m.ss.length:=q1
  have bb0 : (0 : Int) ≤ (x : Int):=by omega
  have bb1 : (x : Int) < (m.ss.length : Int):=by omega
  have bb2 : (x : Int) ≤ (m.ss.length : Int) - 1:=by omega
  have HT:=Lib.hid ht
  have HF:=Lib.hid hf
  clear ht hf
  obtain ⟨s0, s1, s2, s3, s4, s5, s6, s7, s8⟩:=t
  simp only at dd
  obtain ⟨d0, d1, d2, d3, d4, d5, d6, d7, d8⟩:=dd
  have ga : ∀ o, (W2.alloc o).cell? ⟨w.heap.size, 0, none⟩ = some (.pointer (some ⟨p.mb, 0, none⟩)):=fun o => (World.cell?_alloc_lt _ _ _ (World.block_lt_of_cell? _ _ g0)).trans g0
  have ka : ∀ o, (W2.alloc o).cell? ⟨p.mb, 10, none⟩ = some (.pointer (some ⟨p.wb, 0, none⟩)):=fun o => (World.cell?_alloc_lt _ _ _ (World.block_lt_of_cell? _ _ k10)).trans k10
  gi_wp2_with fail
  refine ⟨trivial, ?_⟩
  gi_at_call 97
  have hbs : Below W2.heap.size W2 (W2.alloc (.cells (Ac s0 s1 s2 s3 s4 s5 s6 s7 s8) 59)):=(Below.refl _ _).alloc (Nat.le_refl _) _
  have qs : RowAt (W2.alloc (.cells (Ac s0 s1 s2 s3 s4 s5 s6 s7 s8) 59)) W2.heap.size (Ac s0 s1 s2 s3 s4 s5 s6 s7 s8) 59:=RowAt.new _ _ _
  have hC3:=hC.below hbs
  have hA3:=hA2.below hbs
  have hCH3:=hCH.trans (Chg.ofBelow (F:=fun _ => False) hbs) (fun _ _ h => h.elim)
  have hKB3 : Chg (fun k => k = p.sb ∨ World11.wfp p.wb p.rb p.rv k ∨ k = w.heap.size + 1 + 1 + 1) W2 (W2.alloc (.cells (Ac s0 s1 s2 s3 s4 s5 s6 s7 s8) 59)):=Chg.ofBelow hbs
  have hlt3 : W2.heap.size < (W2.alloc (.cells (Ac s0 s1 s2 s3 s4 s5 s6 s7 s8) 59)).heap.size:=by simp
  clear hbs ga ka d0 d1 d2 d3 d4 d5 d6 d7 d8 k5 k10 hA2 hAT hC hCH g0 g1
  generalize hwz : W2.alloc (.cells (Ac s0 s1 s2 s3 s4 s5 s6 s7 s8) 59) = w3 at *
  clear hwz
  refine (CallsIn.inRound L (callsIn_wide.2 (m_wnextW hA3))).mono ?_
  rintro e w4 ⟨rfl, rv4, hA4, hF4, hC4⟩
  have hsub : ∀ k, World11.wfp p.wb p.rb rv k → World11.wfp p.wb p.rb p.rv k:=fun k hk => by
   rcases hk with h | h | h
   ·exact .inl h
   ·exact .inr (.inl h)
   ·exact .inr (.inr (hrv _ h))
  have hF4' : ∀ k, Fp rv4 k → Fp p.rv k:=fun k hk => hrv _ (hF4 k hk)
  simp only at hC4 hA4
  have hC4' : Chg (World11.wfp p.wb p.rb p.rv) w3 w4:=hC4.mono (fun k _ hk => hsub k hk)
  have hCC4:=hC3.chg hC4' (fun k hk => hwfp k hk)
  have hCH4:=hCH3.trans hC4' (fun _ _ h => .inr (.inl h))
  have hKB4:=hKB3.trans hC4' (fun _ _ h => .inr (.inl h))
  have qs4 : RowAt w4 W2.heap.size (Ac s0 s1 s2 s3 s4 s5 s6 s7 s8) 59:=qs.chg hC4' (fun e => by have:=hwfp _ e; omega)
  have hgd : M.good { m with ss:=rl, ahead:=ra } = ra.headD true:=rfl
  have hA4' : MAt w4 { p with rv:=rv4 } { m with ss:=rl, ahead:=ra.tail }:=hA4
  have htn:=m_turn' hA4' x 10 x 10 who 0 _ HT.out rfl rfl (by simp [Mod.Done])
  have hem:=m_empty hA4' x x _ HT.out rfl
  have htl : (M.turn { m with ss:=rl, ahead:=ra.tail } x 10 who 0) = { m with ss:=rl.set x (step ⟨s0, s1, s2, s3, s4, s5, s6, s7, s8⟩ 10 who 0), ahead:=ra.tail }:=by
   unfold M.turn turnL
   simp only [HT.out]
  have hel : (M.empty { m with ss:=rl, ahead:=ra.tail } x) = { m with ss:=rl.set x (emptied ⟨s0, s1, s2, s3, s4, s5, s6, s7, s8⟩), ahead:=ra.tail }:=by
   unfold M.empty
   rw [M.slot_of (m:={ m with ss:=rl, ahead:=ra.tail }) HT.out]
  rw [htl] at htn
  rw [hel] at hem
  rw [hgd]
  have hM:=fun h => rpOne_mark (n:=rn) (a:=ra) HF.out h
  have hG:=fun h => rpOne_gone (n:=rn) (a:=ra) HF.out h
  simp only at hM hG
  have hlt4 : W2.heap.size < w4.heap.size:=Nat.lt_of_lt_of_le hlt3 hC4'.size
  have x3 : w4.cell? ⟨W2.heap.size, 3, none⟩ = some (.bool s3):=qs4.cell 3
  have x4 : w4.cell? ⟨W2.heap.size, 4, none⟩ = some (.bool s4):=qs4.cell 4
  have g0:=hCC4.c0
  have g1:=hCC4.c1
  clear htl hel hgd hA4 hA4' hC4 hA3 hCH3 hKB3 qs qs4 hC3 hC4'
  generalize hge : ra.headD true = gd at *
  clear hge
  have hone : (gd = true ∧ s4 = false ∧ s3 = false) ∨ (gd && (!s4 && !s3)) = false:=by cases gd <;> cases s4 <;> cases s3 <;> simp
  rcases hone with ⟨rfl, rfl, rfl⟩ | hno
  ·have hn:=Lib.hid (hM rfl)
   clear hM hG hem
   have HN3 : RowKit.Hid (rpN who (x + 1) (m.ss, m.ahead, 0) = (rl.set x (step ⟨s0, s1, s2, false, false, s5, s6, s7, s8⟩ 10 who 0), ra.tail, rn)):=Lib.hid (by rw [HN2.out, hn.out])
   gi_wp2_with fail
   refine ⟨trivial, ?_⟩
   gi_at_call 63
   refine (CallsIn.inRound L (callsIn_wide.2 htn)).mono ?_
   rintro e w6 ⟨rfl, h6, hc6⟩
   try simp only at hc6
   have hC6:=hCC4.chg hc6 (fun k e => by omega)
   have HFin : RowKit.Hid (KeepsB (fun k => k = p.sb ∨ World11.wfp p.wb p.rb p.rv k ∨ k = w.heap.size + 1 + 1 + 1) W2 w6 ∧ rpK w p m who (x + 1) w6) :=
    Lib.hid ⟨KeepsB.of_chg (hKB4.trans hc6 (fun _ _ h => .inl h)) (fun _ _ h => h), rpK_mk HN3.out HLE.out rv4 hF4' h6 (hCH4.trans hc6 (fun _ _ h => .inl h)) hC6.c0 hC6.c1 hC6.c2 hC6.c3 hC6.f3⟩
   clear h6 hc6 hC6 htn hCC4 hCH4 hKB4 x3 x4 g0 g1
   gi_wp2_with fail
   exact HFin.out
  ·have hn:=Lib.hid (hG hno)
   clear hM hG htn
   have HN3 : RowKit.Hid (rpN who (x + 1) (m.ss, m.ahead, 0) = (rl.set x (emptied ⟨s0, s1, s2, s3, s4, s5, s6, s7, s8⟩), ra.tail, rn + 1)):=Lib.hid (by rw [HN2.out, hn.out])
   have hb0 : 0 ≤ rn:=by omega
   have hb1 : rn ≤ 1000:=by omega
   have hfin : ∀ w6, MAt w6 { p with rv:=rv4 } { m with ss:=rl.set x (emptied ⟨s0, s1, s2, s3, s4, s5, s6, s7, s8⟩), ahead:=ra.tail } → Chg (fun k => k = p.sb) w4 w6 →
     w6.cell? ⟨w.heap.size + 1 + 1 + 1, 0, none⟩ = some (.i rn) ∧ w6.frozen? ⟨w.heap.size + 1 + 1 + 1, 0, none⟩ = false ∧ (KeepsB (fun k => k = p.sb ∨ World11.wfp p.wb p.rb p.rv k ∨ k = w.heap.size + 1 + 1 + 1) W2 (w6.setCell ⟨w.heap.size + 1 + 1 + 1, 0, none⟩ (.i (rn + 1))) ∧ rpK w p m who (x + 1) (w6.setCell ⟨w.heap.size + 1 + 1 + 1, 0, none⟩ (.i (rn + 1)))):=by
    intro w6 h6 hc6
    have hC6:=hCC4.chg hc6 (fun k e => by omega)
    have hgg : ¬ mfp { p with rv:=rv4 } (w.heap.size + 1 + 1 + 1):=fun hm => by
     have:=hold (w.heap.size + 1 + 1 + 1) (by
      rcases hm with h | h | h | h | (h | h | h) | h
      ·exact .inl h
      ·exact .inr (.inl h)
      ·exact .inr (.inr (.inl h))
      ·exact .inr (.inr (.inr (.inl h)))
      ·exact .inr (.inr (.inr (.inr (.inl (.inl h)))))
      ·exact .inr (.inr (.inr (.inr (.inl (.inr (.inl h))))))
      ·exact .inr (.inr (.inr (.inr (.inl (.inr (.inr (hF4' _ h)))))))
      ·exact .inr (.inr (.inr (.inr (.inr h)))))
     omega
    have hA7 : MAt (w6.setCell ⟨w.heap.size + 1 + 1 + 1, 0, none⟩ (.i (rn + 1))) { p with rv:=rv4 } { m with ss:=rl.set x (emptied ⟨s0, s1, s2, s3, s4, s5, s6, s7, s8⟩), ahead:=ra.tail } :=
     h6.chg (F:=fun k => k = w.heap.size + 1 + 1 + 1) ((Chg.refl _ _).setCell _ _ (fun _ => rfl)) (fun k hk e => hgg (e ▸ hk)) (by omega)
    refine ⟨hC6.c3, hC6.f3, KeepsB.of_chg ((hKB4.trans hc6 (fun _ _ h => .inl h)).setCell _ _ (fun _ => .inr (.inr rfl))) (fun _ _ h => h), rpK_mk HN3.out HLE.out rv4 hF4' hA7 ((hCH4.trans hc6 (fun _ _ h => .inl h)).setCell _ _ (fun h => by simp at h; omega)) ?_ ?_ ?_ ?_ ?_⟩
    ·exact (World.cell?_setCell_other _ _ _ _ (by simp <;> omega)).trans hC6.c0
    ·exact (World.cell?_setCell_other _ _ _ _ (by simp <;> omega)).trans hC6.c1
    ·exact hC6.c2.chg (F:=fun k => k = w.heap.size + 1 + 1 + 1) ((Chg.refl _ _).setCell _ _ (fun _ => rfl)) (by omega)
    ·exact World.cell?_setCell_same _ _ _ hC6.c3
    ·simp [hC6.f3]
   clear hCC4 hCH4 hKB4
   cases gd
   rotate_left
   ·cases s4
    ·cases s3
     ·cases hno
     ·gi_wp2_with fail
      refine ⟨trivial, ?_⟩
      gi_at_call 82
      refine (CallsIn.inRound L (callsIn_wide.2 hem)).mono ?_
      rintro e w6 ⟨⟨v6, rfl⟩, h6, hc6⟩
      obtain ⟨y3, yf, HFin⟩:=hfin w6 h6 hc6
      have HFin:=Lib.hid HFin
      clear hem h6 hc6 hfin x3 x4 g0 g1
      gi_wp2_with fail
      exact HFin.out
    ·gi_wp2_with fail
     refine ⟨trivial, ?_⟩
     gi_at_call 82
     refine (CallsIn.inRound L (callsIn_wide.2 hem)).mono ?_
     rintro e w6 ⟨⟨v6, rfl⟩, h6, hc6⟩
     obtain ⟨y3, yf, HFin⟩:=hfin w6 h6 hc6
     have HFin:=Lib.hid HFin
     clear hem h6 hc6 hfin x3 x4 g0 g1
     gi_wp2_with fail
     exact HFin.out
   ·gi_wp2_with fail
    refine ⟨trivial, ?_⟩
    gi_at_call 82
    refine (CallsIn.inRound L (callsIn_wide.2 hem)).mono ?_
    rintro e w6 ⟨⟨v6, rfl⟩, h6, hc6⟩
    obtain ⟨y3, yf, HFin⟩:=hfin w6 h6 hc6
    have HFin:=Lib.hid HFin
    clear hem h6 hc6 hfin x3 x4 g0 g1
    gi_wp2_with fail
    exact HFin.out
 case done =>
  rintro D s W hD rfl hk hKD
  obtain ⟨rv, hrv, hat⟩:=hk.at'
  have hcnt:=rpN_cnt who m.ss.length (m.ss, m.ahead, 0)
  have hch:=hk.chg
  have c2:=hk.c2
  have c3:=hk.c3
  rw [rpN_all] at hat c3 hcnt
  clear hk
  have hRR : m.reap who = ({ Ev.zero with slot:=(M.reapL who m.ahead 0 m.ss).2.2 }, { m with ss:=(M.reapL who m.ahead 0 m.ss).1, ahead:=(M.reapL who m.ahead 0 m.ss).2.1 }):=rfl
  generalize M.reapL who m.ahead 0 m.ss = R at *
  obtain ⟨rl, ra, rn⟩:=R
  simp only at *
  have hltD : w.heap.size + 1 + 1 + 1 < W.heap.size:=World.block_lt_of_cell? _ _ c3
  have hmm : ∀ k, mfp { p with rv:=rv } k → k < w.heap.size:=fun k h => hold k (by
   rcases h with h | h | h | h | (h | h | h) | h
   ·exact .inl h
   ·exact .inr (.inl h)
   ·exact .inr (.inr (.inl h))
   ·exact .inr (.inr (.inr (.inl h)))
   ·exact .inr (.inr (.inr (.inr (.inl (.inl h)))))
   ·exact .inr (.inr (.inr (.inr (.inl (.inr (.inl h))))))
   ·exact .inr (.inr (.inr (.inr (.inl (.inr (.inr (hrv _ h)))))))
   ·exact .inr (.inr (.inr (.inr (.inr h)))))
  have hrow:=c2.set ({ Ev.zero with slot:=rn } : Ev).cells
  have hcs : Chg (fun k => k = w.heap.size + 1 + 1) W (W.setRow (w.heap.size + 1 + 1) ({ Ev.zero with slot:=rn } : Ev).cells):=chg_setRow (Chg.refl _ _) _ _ (fun _ => rfl)
  have hat2:=hat.chg hcs (fun k hk e => by have:=hmm k hk; omega) (by omega)
  have hch2:=hch.trans hcs (fun k _ e => .inr (.inr (by omega)))
  have hKD2:=(hcs.block D (Array.getElem?_eq_some_iff.1 hKD).1 (by omega)).trans hKD
  have hT : Turn wq.heap.size (W.setRow (w.heap.size + 1 + 1) ({ Ev.zero with slot:=rn } : Ev).cells) ((W.setRow (w.heap.size + 1 + 1) ({ Ev.zero with slot:=rn } : Ev).cells).putObj D (.deferred none)):=(Turn.refl _ _).putObj _ hD hKD2 rfl
  have hat3:=hat2.turned hT (fun k h => by have:=hmm k h; omega) (by omega)
  have hrow3:=hT.cells _ _ hrow rfl
  have hch3 : Chg (mfp p) w ((W.setRow (w.heap.size + 1 + 1) ({ Ev.zero with slot:=rn } : Ev).cells).putObj D (.deferred none)):=by
   have:=hT.chg hch2 (by omega)
   exact ⟨this.os, this.tape, this.output, this.size, fun k hk hf => this.block k hk (fun h => by
    rcases h with h | h | h
    ·exact hf (.inr (.inl h))
    ·exact hf (.inr (.inr (.inr (.inr (.inl h)))))
    ·omega)⟩
  have HF:=Lib.hid (And.intro hrow3 (And.intro hKD2 (And.intro hat3 hch3)))
  have HRR:=Lib.hid hRR
  clear hat2 hch2 hKD2 hT hat3 hrow3 hch3 hrow hcs hRR hat hch
  gi_upto_region 9 with (fail)
  refine wpIn_wide.2 ?_
  refine wp_region_lit ?_
  refine RowL.gl (.i rn) ?_ (by go_simp; try rfl)
  refine RowL.gl ({ Ev.zero with slot:=rn } : Ev).val ?_ (by go_simp; try rfl)
  refine RowL.gSt c2 ({ Ev.zero with slot:=rn } : Ev).cells 36 (.tmp 4) (.tmp 44) ?_ (h1:=ev_one _)
  go_wp2_with fail
  gi_wp2
  obtain ⟨hrow3, hKD2, hat3, hch3⟩:=HF.out
  refine ⟨by simp, .inl ⟨_, _, rfl, run_takeDeferred hKD2, ?_⟩⟩
  rw [HRR.out]
  exact ⟨_, results_row rfl _ _ (w.heap.size + 1 + 1) _ _ _ rfl hrow3 Tryz.underlying36 rfl (by kernel_rfl), rfl, p.lv, rv, hat3, fun _ h => .inl h, fun k h => .inl (hrv k h), hch3⟩
 case stop => exact fun D c W hD h hK => h.elim
end Go.Proofs.YtpmkgddjgebojaaGreatDoor.Mod
namespace Go.Proofs.YtpmkgddjgebojaaGreatDoor.Mod
open Go.RowKit Hp Slot RowL Life R8
theorem qtick_any (w : World) (now n : Int) (h0 : 0 ≤ now) (h1 : now ≤ 1099511627776) (hn : -9223372036854775808 ≤ n) (hn' : n ≤ 9223372036854775807) :
  Calls Tryz.prog 61 #[.i now, .i n] w fun e w' => e = .returned (.i (Clock.tick now n)) ∧ w = w':=by
 go_enter Tryz.func61, Tryz.ntmps61
 go_wp2
 all_goals go_ret
 all_goals (refine ⟨Base.ret_int ?_, rfl⟩; unfold Clock.tick; omega)
theorem QAt.post0 {W : World} {p : Ql} {m : M} (h : QAt W p m) {W' : World} {m' : M} {ans : Value} (h' : QAt W' p m') (hc : Chg (qfp p) W W') : QPost W p ans m' (.returned ans) W' :=
 ⟨rfl, p.lv, p.ov, h', fun _ h => .inl h, fun _ h => .inl h, hc⟩
theorem q_tick {W : World} {p : Ql} {m : M} (h : QAt W p m) (n : Int) (hn : -9223372036854775808 ≤ n) (hn' : n ≤ 9223372036854775807) :
  Calls Tryz.prog 23 #[.pointer (some ⟨p.mb, 0, none⟩), .i n] W fun e W' => (∃ v, e = .returned v) ∧ QAt W' p (m.tick n) ∧ Chg (qfp p) W W':=by
 have c9:=h.hd.c9
 have f9:=h.hd.f9
 have hc:=qtick_any W m.now n h.ok.now.1 h.ok.now.2 hn hn'
 have hA:=h.toNow (Clock.tick m.now n) (tick_bd _ _ h.ok.now)
 have hC : Chg (qfp p) W (W.setCell ⟨p.mb, 9, none⟩ (.i (Clock.tick m.now n))):=(Chg.refl _ _).setCell _ _ (fun _ => .inl rfl)
 have HF:=Lib.hid (And.intro hA hC)
 clear h hA hC
 go_enter Tryz.func23, Tryz.ntmps23
 go_wp2_with fail
 refine hc.mono ?_
 rintro e w1 ⟨rfl, rfl⟩
 clear hc
 go_wp2_with fail
 go_end0
 exact ⟨⟨_, rfl⟩, HF.out.1, HF.out.2⟩
theorem qfeed_no (w : World) (rb : Nat) (v : Value) (l : List Bool) (g b : Int) (x : Bool) (h : Ref11.RAt w rb v l g b) (hf : ¬ l.length < 1000) :
  Calls Tryz.prog 25 #[.pointer (some ⟨rb, 0, none⟩), .bool x] w fun e w' => e = .returned (.bool false) ∧ w = w':=by
 obtain ⟨a, c, rfl⟩:=h.own.form
 have h0:=h.c0
 have hl:=h.own.len
 have hf' : (1000 : Int) ≤ (l.length : Int):=by omega
 clear hf h
 go_enter Tryz.func25, Tryz.ntmps25
 go_wp2_with fail
 go_ret
 exact ⟨rfl, rfl⟩
theorem q_feed {W : World} {p : Ql} {m : M} (h : QAt W p m) (b : Bool) :
  Calls Tryz.prog 25 #[.pointer (some ⟨p.wb, 0, none⟩), .bool b] W (QPost W p (.bool (m.feed b).1) (m.feed b).2):=by
 obtain ⟨g, bd, hw⟩:=h.wld
 unfold M.feed
 by_cases hl : m.ahead.length < 1000
 ·rw [if_pos hl]
  refine (Ref11.feed_yes W p.wb p.ov m.ahead g bd b hw hl).mono ?_
  rintro e w1 ⟨rfl, v', h1, h2, h3⟩
  exact ⟨rfl, p.lv, v', h.toWorld h1 (by simp; omega) h2 h3, fun k hk => .inl hk, h2, h3.mono fun k _ hk => .inr (.inr (.inr (.inl hk)))⟩
 ·rw [if_neg hl]
  refine (qfeed_no W p.wb p.ov m.ahead g bd b hw hl).mono ?_
  rintro e w1 ⟨rfl, rfl⟩
  exact h.post0 h (Chg.refl _ _)
theorem q_break {W : World} {p : Ql} {m : M} (h : QAt W p m) (i : Int) :
  Calls Tryz.prog 27 #[.pointer (some ⟨p.mb, 0, none⟩), .i i] W (QPost W p (.bool (m.break' i).1) (m.break' i).2):=by
 have c5:=h.hd.c5
 have hns:=h.ok.ns
 unfold M.break'
 by_cases h0 : i < 0
 ·rw [if_neg (by omega)]
  have HF : RowKit.Hid (QPost W p (.bool false) m (.returned (.bool false)) W):=h.post0 h (Chg.refl _ _)
  clear h
  go_enter Tryz.func27, Tryz.ntmps27
  go_wp2_with fail
  go_ret
  exact HF.out
 obtain ⟨n, rfl⟩:=Int.eq_ofNat_of_zero_le (show 0 ≤ i by omega)
 have d0' : (0 : Int) ≤ (n : Int):=by omega
 by_cases h1 : n < m.ss.length
 ·rw [if_pos (by omega)]
  obtain ⟨s, hs⟩ : ∃ s, m.ss[n]? = some s:=⟨_, List.getElem?_eq_getElem h1⟩
  have ht:=q_do h n 13 n 13 0 0 s hs rfl rfl (by simp [Done])
  simp only [Int.toNat_natCast, M.slot_of hs]
  have d1' : (n : Int) < (m.ss.length : Int):=by omega
  have H:=Lib.hid h
  generalize (Mod.next s 13 0 0).isSome = bb at *
  clear hs h h0
  go_enter Tryz.func27, Tryz.ntmps27
  go_wp2_with fail
  refine ht.mono ?_
  rintro e w1 ⟨rfl, hA, hC⟩
  have HQ : RowKit.Hid (QPost W p (.bool bb) (m.turn n 13 0 0) (.returned (.bool bb)) w1):=Lib.hid (H.out.post0 hA (hC.mono fun k _ e => .inr (.inl e)))
  clear hA hC ht
  go_wp2_with fail
  go_ret
  exact HQ.out
 ·rw [if_neg (by omega)]
  have HF : RowKit.Hid (QPost W p (.bool false) m (.returned (.bool false)) W):=h.post0 h (Chg.refl _ _)
  have d1' : (m.ss.length : Int) ≤ (n : Int):=by omega
  clear h h0 h1
  go_enter Tryz.func27, Tryz.ntmps27
  go_wp2_with fail
  go_ret
  exact HF.out
end Go.Proofs.YtpmkgddjgebojaaGreatDoor.Mod
