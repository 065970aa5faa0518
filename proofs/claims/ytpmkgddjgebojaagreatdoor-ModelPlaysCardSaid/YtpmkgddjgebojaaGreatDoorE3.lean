/- Part 3 of the walks and plain laws that the last text joins. -/
import Derived.Test.YtpmkgddjgebojaaGreatDoorE1
import Derived.Test.YtpmkgddjgebojaaGreatDoorE2
import Derived.RegionTactic
set_option maxRecDepth 100000
set_option maxHeartbeats 16000000
set_option linter.unusedVariables false
set_option linter.unusedSimpArgs false
namespace Go.Proofs.YtpmkgddjgebojaaGreatDoor.Mod
open Go.RowKit Go.Shelf Hp Slot RowL Life Rng
attribute [local go_sem] Oper.semAt_some
theorem below_false {W W' : World} (hc : Chg (fun _ => False) W W') : Below W.heap.size W W':=hc.below (Nat.le_refl _) fun _ h => h.elim
theorem slots_turn {B : Nat} {W W' : World} {sb : Nat} {ss : List S} (h : SlotsAt W sb ss) (ht : Turn B W W') : SlotsAt W' sb ss :=
 ⟨fun i s hs j v hv => ht.cell (h.1 i s hs j v hv), fun i j hi hj => (ht.frozen (h.1 i ss[i] (List.getElem?_eq_getElem hi) j _ (Array.getElem?_eq_getElem (by simpa [S.cells] using hj)))).trans (h.2 i j hi hj)⟩
theorem firstAt_none (kind own : Int) : ∀ (ss : List S), (∀ (j : Nat) (s : S), ss[j]? = some s → Find.fits s kind own = false) → firstAt kind own ss = none
 | [], _ => rfl
 | s :: l, h => by
  have h0 : Find.fits s kind own = false:=h 0 s rfl
  rw [firstAt, h0, firstAt_none kind own l (fun j t ht => h (j + 1) t (by simpa using ht))]
  rfl
theorem firstAt_some (kind own : Int) : ∀ (ss : List S) (i : Nat), (∃ s, ss[i]? = some s ∧ Find.fits s kind own = true) → (∀ (j : Nat) (s : S), j < i → ss[j]? = some s → Find.fits s kind own = false) → firstAt kind own ss = some i
 | [], _, ⟨_, h, _⟩, _ => by simp at h
 | s :: l, 0, ⟨t, ht, hf⟩, _ => by
  obtain rfl : s = t:=by simpa using ht
  rw [firstAt, hf]; rfl
 | s :: l, i + 1, ⟨t, ht, hf⟩, h => by
  have h0 : Find.fits s kind own = false:=h 0 s (by omega) rfl
  rw [firstAt, h0, firstAt_some kind own l i ⟨t, by simpa using ht, hf⟩ (fun j u hj hu => h (j + 1) u (by omega) (by simpa using hu))]
  rfl
def firstK (w : World) (sb : Nat) (ss : List S) (kind own : Int) (i : Nat) (W : World) : Prop :=
 (i ≤ ss.length ∧ ∀ (j : Nat) (s : S), j < i → ss[j]? = some s → Find.fits s kind own = false) ∧ SlotsAt W sb ss ∧ Below w.heap.size w W ∧ W.cell? ⟨w.heap.size, 0, none⟩ = some (.i 0) ∧ W.cell? ⟨w.heap.size + 1, 0, none⟩ = some (.bool false) ∧
  W.frozen? ⟨w.heap.size, 0, none⟩ = false ∧ W.frozen? ⟨w.heap.size + 1, 0, none⟩ = false
def firstX (w : World) (ss : List S) (kind own : Int) (c : Code) (W : World) : Prop :=
 c = .ret ∧ ∃ i : Nat, (∃ s, ss[i]? = some s ∧ Find.fits s kind own = true) ∧ (∀ (j : Nat) (s : S), j < i → ss[j]? = some s → Find.fits s kind own = false) ∧ Below w.heap.size w W ∧
  W.cell? ⟨w.heap.size, 0, none⟩ = some (.i i) ∧ W.cell? ⟨w.heap.size + 1, 0, none⟩ = some (.bool true)
theorem first_any (w : World) (mb sb : Nat) (ss : List S) (kind own : Int) (hk : kind = 0 ∨ kind = 1 ∨ kind = 2 ∨ kind = 3 ∨ kind = 4 ∨ kind = 6) (hn : ss.length ≤ 1000) (hm : Hdr w mb sb ss.length) (hs : SlotsAt w sb ss) (hl : sb < w.heap.size) :
  Calls Tryz.prog 83 #[.pointer (some ⟨mb, 0, none⟩), .i kind, .i own] w fun e W' =>
   e = .returned (.tuple #[.i ((firstAt kind own ss).getD 0), .bool (firstAt kind own ss).isSome]) ∧ Below w.heap.size w W':=by
 refine (callsIn_wide (n:=9)).1 ?_
 refine callsIn_of_wp_marks Tryz.func83 rfl trivial ?_
 simp only [Tryz.ntmps83, List.size_toArray, List.length_cons, List.length_nil, Nat.reduceAdd, Nat.reduceSub, Array.replicate_succ, Array.replicate_zero, List.push_toArray, List.append_toArray, List.nil_append, List.cons_append]
 gi_wp2_with (refine ⟨trivial, ?_⟩; gi_at_call 81; refine (callsIn_wide.2 (fits_any _ _ _ _)).mono ?_; rintro e w' ⟨rfl, rfl⟩)
 have hB : Below w.heap.size w (((((w.alloc (.cells #[.i 0] 3)).alloc (.cells #[.bool false] 4)).alloc (.cells #[.pointer (some ⟨mb, 0, none⟩)] 27)).alloc (.cells #[.i kind] 3)).alloc (.cells #[.i own] 3)):=(((((Below.refl _ _).alloc (Nat.le_refl _) _).alloc (by simp) _).alloc (by simp; omega) _).alloc (by simp; omega) _).alloc (by simp; omega) _
 have b1 : (((((w.alloc (.cells #[.i 0] 3)).alloc (.cells #[.bool false] 4)).alloc (.cells #[.pointer (some ⟨mb, 0, none⟩)] 27)).alloc (.cells #[.i kind] 3)).alloc (.cells #[.i own] 3)).cell? ⟨w.heap.size + 1 + 1, 0, none⟩ = some (.pointer (some ⟨mb, 0, none⟩)):=by go_simp
 have b2 : (((((w.alloc (.cells #[.i 0] 3)).alloc (.cells #[.bool false] 4)).alloc (.cells #[.pointer (some ⟨mb, 0, none⟩)] 27)).alloc (.cells #[.i kind] 3)).alloc (.cells #[.i own] 3)).cell? ⟨w.heap.size + 1 + 1 + 1, 0, none⟩ = some (.i kind):=by go_simp
 have b3 : (((((w.alloc (.cells #[.i 0] 3)).alloc (.cells #[.bool false] 4)).alloc (.cells #[.pointer (some ⟨mb, 0, none⟩)] 27)).alloc (.cells #[.i kind] 3)).alloc (.cells #[.i own] 3)).cell? ⟨w.heap.size + 1 + 1 + 1 + 1, 0, none⟩ = some (.i own):=by go_simp
 have r1 : (((((w.alloc (.cells #[.i 0] 3)).alloc (.cells #[.bool false] 4)).alloc (.cells #[.pointer (some ⟨mb, 0, none⟩)] 27)).alloc (.cells #[.i kind] 3)).alloc (.cells #[.i own] 3)).cell? ⟨w.heap.size, 0, none⟩ = some (.i 0):=by go_simp
 have r2 : (((((w.alloc (.cells #[.i 0] 3)).alloc (.cells #[.bool false] 4)).alloc (.cells #[.pointer (some ⟨mb, 0, none⟩)] 27)).alloc (.cells #[.i kind] 3)).alloc (.cells #[.i own] 3)).cell? ⟨w.heap.size + 1, 0, none⟩ = some (.bool false):=by go_simp
 have z1 : (((((w.alloc (.cells #[.i 0] 3)).alloc (.cells #[.bool false] 4)).alloc (.cells #[.pointer (some ⟨mb, 0, none⟩)] 27)).alloc (.cells #[.i kind] 3)).alloc (.cells #[.i own] 3)).frozen? ⟨w.heap.size, 0, none⟩ = false:=by go_simp
 have z2 : (((((w.alloc (.cells #[.i 0] 3)).alloc (.cells #[.bool false] 4)).alloc (.cells #[.pointer (some ⟨mb, 0, none⟩)] 27)).alloc (.cells #[.i kind] 3)).alloc (.cells #[.i own] 3)).frozen? ⟨w.heap.size + 1, 0, none⟩ = false:=by go_simp
 have hm1 : Hdr (((((w.alloc (.cells #[.i 0] 3)).alloc (.cells #[.bool false] 4)).alloc (.cells #[.pointer (some ⟨mb, 0, none⟩)] 27)).alloc (.cells #[.i kind] 3)).alloc (.cells #[.i own] 3)) mb sb ss.length:=Field.bkeep hB hm
 have hs1 : SlotsAt (((((w.alloc (.cells #[.i 0] 3)).alloc (.cells #[.bool false] 4)).alloc (.cells #[.pointer (some ⟨mb, 0, none⟩)] 27)).alloc (.cells #[.i kind] 3)).alloc (.cells #[.i own] 3)) sb ss:=hs.stable (hB.block sb hl)
 try simp only [World.size_alloc]
 generalize ((((w.alloc (.cells #[.i 0] 3)).alloc (.cells #[.bool false] 4)).alloc (.cells #[.pointer (some ⟨mb, 0, none⟩)] 27)).alloc (.cells #[.i kind] 3)).alloc (.cells #[.i own] 3) = wq at *
 refine wpIn_rangeC (gf:=98) (lb:=#[.pointer (some ⟨w.heap.size + 1 + 1, 0, none⟩), .pointer (some ⟨w.heap.size + 1 + 1 + 1, 0, none⟩), .pointer (some ⟨w.heap.size + 1 + 1 + 1 + 1, 0, none⟩)]) rfl
  (enters_of Tryz.func98 (by kernel_rfl) rfl) (encs:=fun x : Nat => #[.i x]) (I:=fI sb ss.length) (Ww:=fun k => k = w.heap.size ∨ k = w.heap.size + 1) (Wr:=fun _ => False)
  (Skips:=fSkips sb ss.length kind own) (Yields:=fYields sb ss.length kind own) (Done:=fun i _ => i = ss.length) (s0:=0)
  ?hps ?hRd ?hseq (firstK w sb ss kind own) (firstX w ss kind own) ?hKI ?hKs ?hKk ?hKt ?hKxt ?hYt (fun _ _ _ h _ => h) ?hYc ?h0 ?round ?done ?stop
 case hps => intro x; rfl
 case hKI => exact fun s W h => ⟨ss, rfl, h.2.1⟩
 case hRd =>
  have:=World.block_lt_of_cell? _ _ r2
  rintro k ((rfl | rfl) | hk)
  ·simp at this; omega
  ·simpa using this
  ·exact hk.elim
 case hseq =>
  intro W1 hT
  have hsz:=hB.size
  have hmw : mb < w.heap.size:=World.block_lt_of_cell? _ _ hm
  exact fits_seq _ _ _ mb sb ss.length kind own _ W1 hk hn (hT.cell b1) (hT.cell b2) (hT.cell b3) (hT.cell hm1) (by omega) (by omega) (by omega) (by omega) (fun k hk => by
   have h2:=World.block_lt_of_cell? _ _ (hT.cell r2)
   simp at h2
   rcases hk with rfl | rfl <;> omega)
 case hKs =>
  rintro s W W' ⟨k1, k2, k3, k4, k5, k6, k7⟩ hc
  have hb:=below_false hc
  have h2:=World.block_lt_of_cell? _ _ k5
  exact ⟨k1, k2.stable (hc.block sb (by simp at h2; omega) id), k3.trans (hb.mono k3.size), Field.bkeep hb k4, Field.bkeep hb k5, Field.bkeepz hb k4 k6, Field.bkeepz hb k5 k7⟩
 case hKk =>
  rintro s s' W ⟨⟨k0, k1⟩, k2, k3⟩ ⟨q1, rfl, q3⟩
  refine ⟨⟨by omega, fun j t hj ht => ?_⟩, k2, k3⟩
  rcases Nat.lt_succ_iff_lt_or_eq.1 hj with h | rfl
  ·exact k1 j t h ht
  ·obtain ⟨ss', e1, e2, e3⟩:=q3
   obtain ⟨t', ht'⟩ : ∃ t', ss'[j]? = some t':=⟨_, List.getElem?_eq_getElem (by omega)⟩
   rw [slots_one k2 e2 ht ht']; exact e3 _ ht'
 case hKt =>
  rintro s W W' ⟨k1, k2, k3, k4, k5, k6, k7⟩ ht
  have hsz:=hB.size
  exact ⟨k1, ⟨fun i s hs j v hv => ht.cell (k2.1 i s hs j v hv), fun i j hi hj => (ht.frozen (k2.1 i ss[i] (List.getElem?_eq_getElem hi) j _ (Array.getElem?_eq_getElem (by simpa [S.cells] using hj)))).trans (k2.2 i j hi hj)⟩,
   ht.below k3 hsz (Nat.le_refl _), ht.cell k4, ht.cell k5, (ht.frozen k4).trans k6, (ht.frozen k5).trans k7⟩
 case hKxt =>
  rintro c W W' ⟨rfl, i, k1, k2, k3, k4, k5⟩ ht
  exact ⟨rfl, i, k1, k2, ht.below k3 hB.size (Nat.le_refl _), ht.cell k4, ht.cell k5⟩
 case hYt =>
  rintro s x s' W W' ⟨q1, q2, q3, ss', e1, e2, e3⟩ ht
  exact ⟨q1, q2, q3, ss', e1, slots_turn e2 ht, e3⟩
 case hYc =>
  rintro s x s' W W' ⟨q1, q2, q3, ss', e1, e2, e3⟩ hc
  exact ⟨q1, q2, q3, ss', e1, e2.stable (hc.block sb (e2.lt (by omega)) id), e3⟩
 case h0 => exact ⟨⟨by omega, fun j s hj => absurd hj (by omega)⟩, hs1, hB, r1, r2, z1, z2⟩
 case round =>
  intro L s x s' W hL hLW hk hy
  gi_wp2
  refine ⟨Chg.refl _ _, ?_⟩
  rintro W2 hT2 - ⟨⟨k0, k1⟩, k2, k3, k4, k5, k6, k7⟩ ⟨q1, rfl, rfl, q3⟩
  have hlt:=World.block_lt_of_cell? _ _ k5
  clear hT2 hy hk hLW hL
  have KB : KeepsB (fun k => k = w.heap.size ∨ k = w.heap.size + 1) W2 ((W2.setCell ⟨w.heap.size, 0, none⟩ (.i x)).setCell ⟨w.heap.size + 1, 0, none⟩ (.bool true)) :=
   KeepsB.of_chg (F:=fun k => k = w.heap.size ∨ k = w.heap.size + 1) (((Chg.refl _ _).setCell ⟨w.heap.size, 0, none⟩ (.i x) (fun _ => .inl rfl)).setCell ⟨w.heap.size + 1, 0, none⟩ (.bool true) (fun _ => .inr rfl)) (fun _ _ h => h)
  have hX : firstX w ss kind own .ret ((W2.setCell ⟨w.heap.size, 0, none⟩ (.i x)).setCell ⟨w.heap.size + 1, 0, none⟩ (.bool true)):=by
   refine ⟨rfl, x, ?_, k1, (k3.setCell (by simp) _).setCell (by simp) _, ?_, ?_⟩
   ·obtain ⟨ss', e1, e2, e3⟩:=q3
    obtain ⟨t, ht⟩ : ∃ t, ss[x]? = some t:=⟨_, List.getElem?_eq_getElem q1⟩
    obtain ⟨t', ht'⟩ : ∃ t', ss'[x]? = some t':=⟨_, List.getElem?_eq_getElem (by omega)⟩
    exact ⟨t, ht, by rw [slots_one k2 e2 ht ht']; exact e3 _ ht'⟩
   ·rw [World.cell?_setCell_other _ _ _ _ (by simp)]; exact World.cell?_setCell_same _ _ _ k4
   ·exact World.cell?_setCell_same _ _ (.bool true) (by rw [World.cell?_setCell_other _ _ _ _ (by simp)]; exact k5)
  have HX:=Lib.hid hX
  have HKB:=Lib.hid KB
  clear hX KB q3 k0 k1 k2 k3
  gi_wp2_with fail
  exact ⟨HKB.out, HX.out⟩
 case done =>
  rintro D s W hD rfl ⟨⟨k0, k1⟩, k2, k3, k4, k5, k6, k7⟩ hK
  have hres:=firstAt_none kind own ss (fun j t ht => k1 j t (List.getElem?_eq_some_iff.1 ht).1 ht)
  have hsz:=World.block_lt_of_cell? _ _ r2
  have HR:=Lib.hid hres
  clear hres k0 k1
  gi_wp2
  try simp at hD
  have hK2 : ((W.setCell ⟨w.heap.size, 0, none⟩ (.i 0)).setCell ⟨w.heap.size + 1, 0, none⟩ (.bool false)).heap[D]? = some (.deferred (some [])):=((Below.heap_setCell _ _ _ _ (by simp; omega)).trans (Below.heap_setCell _ _ _ _ (by simp; omega))).trans hK
  have h7:=(k3.setCell (p:=⟨w.heap.size, 0, none⟩) (by simp) (.i 0)).setCell (p:=⟨w.heap.size + 1, 0, none⟩) (by simp) (.bool false)
  have h8 : ((W.setCell ⟨w.heap.size, 0, none⟩ (.i 0)).setCell ⟨w.heap.size + 1, 0, none⟩ (.bool false)).cell? ⟨w.heap.size, 0, none⟩ = some (.i 0):=by
   rw [World.cell?_setCell_other _ _ _ _ (by simp)]; exact World.cell?_setCell_same _ _ _ k4
  have h9 : ((W.setCell ⟨w.heap.size, 0, none⟩ (.i 0)).setCell ⟨w.heap.size + 1, 0, none⟩ (.bool false)).cell? ⟨w.heap.size + 1, 0, none⟩ = some (.bool false) :=
   World.cell?_setCell_same _ _ (.bool false) (by rw [World.cell?_setCell_other _ _ _ _ (by simp)]; exact k5)
  generalize (W.setCell ⟨w.heap.size, 0, none⟩ (.i 0)).setCell ⟨w.heap.size + 1, 0, none⟩ (.bool false) = W3 at *
  have hT : Turn w.heap.size W3 (W3.putObj D (.deferred none)):=(Turn.refl _ _).putObj _ (by omega) hK2 rfl
  have hc:=hT.cell h8
  have hd:=hT.cell h9
  refine ⟨by simp, .inl ⟨_, _, rfl, run_takeDeferred hK2, ?_⟩⟩
  exact ⟨.tuple #[.i 0, .bool false], by simp [results, Tryz.results83, go_sem, hc, hd], by rw [HR.out]; rfl, hT.below h7 (Nat.le_refl _) (Nat.le_refl _)⟩
 case stop =>
  rintro D cc W hD ⟨rfl, i, k1, k2, k3, k4, k5⟩ hK
  have hres:=firstAt_some kind own ss i k1 k2
  have hsz:=World.block_lt_of_cell? _ _ r2
  have HR:=Lib.hid hres
  clear hres k1 k2
  gi_wp2
  try simp at hD
  have hT : Turn w.heap.size W (W.putObj D (.deferred none)):=(Turn.refl _ _).putObj _ (by omega) hK rfl
  have hc:=hT.cell k4
  have hd:=hT.cell k5
  refine ⟨by simp, .inl ⟨_, _, rfl, run_takeDeferred hK, ?_⟩⟩
  exact ⟨.tuple #[.i i, .bool true], by simp [results, Tryz.results83, go_sem, hc, hd], by rw [HR.out]; rfl, hT.below k3 (Nat.le_refl _) (Nat.le_refl _)⟩
end Go.Proofs.YtpmkgddjgebojaaGreatDoor.Mod
namespace Go.Proofs.YtpmkgddjgebojaaGreatDoor.Life
set_option linter.ambiguousOpen false
open Go.RowKit Hp Slot RowL Mod
theorem bit_and (n : Int) (k : Nat) (h0 : 0 ≤ n ∧ n ≤ 255) (hk : k < 8) : bits .and .i64 n (2 ^ k) = if hasBit n k then 2 ^ k else 0:=by
 have h : ∀ (m : Fin 256) (j : Fin 8), bits .and .i64 (m.val : Int) (2 ^ j.val) = if m.val.testBit j.val then 2 ^ j.val else 0:=by decide +kernel
 obtain ⟨m, rfl⟩:=Int.eq_ofNat_of_zero_le h0.1
 exact h ⟨m, by omega⟩ ⟨k, hk⟩
theorem bit_or (n : Int) (k : Nat) (h0 : 0 ≤ n ∧ n ≤ 255) (hk : k < 8) : bits .or .i64 n (2 ^ k) = setBit n k:=by
 have h : ∀ (m : Fin 256) (j : Fin 8), bits .or .i64 (m.val : Int) (2 ^ j.val) = ((m.val ||| 2 ^ j.val : Nat) : Int):=by decide +kernel
 obtain ⟨m, rfl⟩:=Int.eq_ofNat_of_zero_le h0.1
 exact h ⟨m, by omega⟩ ⟨k, hk⟩
theorem bit_drop (n : Int) (k : Nat) (h0 : 0 ≤ n ∧ n ≤ 255) (hk : k < 8) (hb : hasBit n k = true) : bits .andNot .i64 n (2 ^ k) = dropBit n k:=by
 have h : ∀ (m : Fin 256) (j : Fin 8), m.val.testBit j.val = true → bits .andNot .i64 (m.val : Int) (2 ^ j.val) = (m.val : Int) - 2 ^ j.val:=by decide +kernel
 obtain ⟨m, rfl⟩:=Int.eq_ofNat_of_zero_le h0.1
 exact h ⟨m, by omega⟩ ⟨k, hk⟩ hb
theorem pow_val (k : Nat) (hk : k < 8) : (0 : Int) < 2 ^ k ∧ (2 : Int) ^ k ≤ 128:=by
 have h : ∀ j : Fin 8, (0 : Int) < 2 ^ j.val ∧ (2 : Int) ^ j.val ≤ 128:=by decide +kernel
 exact h ⟨k, hk⟩
theorem lowFree_some (n most : Int) (k : Nat) (hk : (k : Int) < min most 8) (hb : hasBit n k = false) (hall : ∀ j, j < k → hasBit n j = true) : lowFree n most = some k:=by
 unfold lowFree
 rw [List.find?_eq_some_iff_getElem]
 refine ⟨by simp [hb], k, by simp; omega, by simp, fun j hj => ?_⟩
 simp [hall j hj]
theorem lowFree_none (n most : Int) (k : Nat) (hk : min most 8 ≤ (k : Int)) (hall : ∀ j, j < k → hasBit n j = true) : lowFree n most = none:=by
 unfold lowFree
 rw [List.find?_eq_none]
 intro j hj
 simp at hj
 simp [hall j (by omega)]
theorem open_any (w : World) (s : S) (own more : Int) (hs : 0 ≤ s.streams ∧ s.streams ≤ 255) : Calls Tryz.prog 125 #[cval s own more] w fun e w' => e = .returned (.tuple #[(act 14 s own more).1.val, .bool (act 14 s own more).2]) ∧ Below w.heap.size w w':=by
 have hi:=fun W => mine_any W s own more 3
 have ha : act 14 s own more = if (s.state == 3 && s.own == own) && !s.broken then (match lowFree s.streams more with | some i => ({ s with streams:=setBit s.streams i }, true) | none => (s, false)) else (s, false):=rfl
 generalize act 14 s own more = res at *
 generalize hb : (s.state == 3 && s.own == own) = b at *
 clear hb
 have HA:=Lib.hid ha
 clear ha
 obtain ⟨st, ow, sm, br, ma, us, ge, ep, ve⟩:=s
 simp only [cval] at hi hs
 obtain ⟨hs0, hs1⟩:=hs
 have hB : Below w.heap.size w (((w.alloc (.cells (Ae st ow sm br ma us ge ep ve own more) 141)).alloc (.cells zero9 59)).alloc (.cells (Ac st ow sm br ma us ge ep ve) 59)):=(((Below.refl _ _).alloc (Nat.le_refl _) _).alloc (by simp) _).alloc (by simp; omega) _
 go_enter Tryz.func125, Tryz.ntmps125
 go_wp2_with fail
 refine (hi _).mono ?_
 rintro e w5 ⟨rfl, hb5⟩
 have r1 : RowAt w5 w.heap.size (Ae st ow sm br ma us ge ep ve own more) 141:=RowAt.below (by rw [RowAt, Below.heap_alloc _ _ _ (by simp; omega)]; exact heap_alloc2_old w _ _) hb5
 have r2 : RowAt w5 (w.heap.size + 1) zero9 59:=RowAt.below (heap_alloc3_mid w _ _ _) hb5
 have r3 : RowAt w5 (w.heap.size + 1 + 1) (Ac st ow sm br ma us ge ep ve) 59:=RowAt.below (by have:=heap_alloc_new ((w.alloc (.cells (Ae st ow sm br ma us ge ep ve own more) 141)).alloc (.cells zero9 59)) (.cells (Ac st ow sm br ma us ge ep ve) 59); simpa [RowAt] using this) hb5
 have HB:=Lib.hid (hB.trans (hb5.mono (by simp; omega)))
 have c10 : w5.cell? ⟨w.heap.size, 10, none⟩ = some (.i more):=r1.cell 10
 have q0 : w5.cell? ⟨w.heap.size + 1, 0, none⟩ = some (.i 0):=r2.cell 0
 have f0 : w5.frozen? ⟨w.heap.size + 1, 0, none⟩ = false:=r2.frozen 0
 have s0 : w5.cell? ⟨w.heap.size + 1 + 1, 0, none⟩ = some (.i st):=r3.cell 0
 have q1 : w5.cell? ⟨w.heap.size + 1, 1, none⟩ = some (.i 0):=r2.cell 1
 have f1 : w5.frozen? ⟨w.heap.size + 1, 1, none⟩ = false:=r2.frozen 1
 have s1 : w5.cell? ⟨w.heap.size + 1 + 1, 1, none⟩ = some (.i ow):=r3.cell 1
 have q2 : w5.cell? ⟨w.heap.size + 1, 2, none⟩ = some (.i 0):=r2.cell 2
 have f2 : w5.frozen? ⟨w.heap.size + 1, 2, none⟩ = false:=r2.frozen 2
 have s2 : w5.cell? ⟨w.heap.size + 1 + 1, 2, none⟩ = some (.i sm):=r3.cell 2
 have q3 : w5.cell? ⟨w.heap.size + 1, 3, none⟩ = some (.bool false):=r2.cell 3
 have f3 : w5.frozen? ⟨w.heap.size + 1, 3, none⟩ = false:=r2.frozen 3
 have s3 : w5.cell? ⟨w.heap.size + 1 + 1, 3, none⟩ = some (.bool br):=r3.cell 3
 have q4 : w5.cell? ⟨w.heap.size + 1, 4, none⟩ = some (.bool false):=r2.cell 4
 have f4 : w5.frozen? ⟨w.heap.size + 1, 4, none⟩ = false:=r2.frozen 4
 have s4 : w5.cell? ⟨w.heap.size + 1 + 1, 4, none⟩ = some (.bool ma):=r3.cell 4
 have q5 : w5.cell? ⟨w.heap.size + 1, 5, none⟩ = some (.i 0):=r2.cell 5
 have f5 : w5.frozen? ⟨w.heap.size + 1, 5, none⟩ = false:=r2.frozen 5
 have s5 : w5.cell? ⟨w.heap.size + 1 + 1, 5, none⟩ = some (.i us):=r3.cell 5
 have q6 : w5.cell? ⟨w.heap.size + 1, 6, none⟩ = some (.i 0):=r2.cell 6
 have f6 : w5.frozen? ⟨w.heap.size + 1, 6, none⟩ = false:=r2.frozen 6
 have s6 : w5.cell? ⟨w.heap.size + 1 + 1, 6, none⟩ = some (.i ge):=r3.cell 6
 have q7 : w5.cell? ⟨w.heap.size + 1, 7, none⟩ = some (.i 0):=r2.cell 7
 have f7 : w5.frozen? ⟨w.heap.size + 1, 7, none⟩ = false:=r2.frozen 7
 have s7 : w5.cell? ⟨w.heap.size + 1 + 1, 7, none⟩ = some (.i ep):=r3.cell 7
 have q8 : w5.cell? ⟨w.heap.size + 1, 8, none⟩ = some (.i 0):=r2.cell 8
 have f8 : w5.frozen? ⟨w.heap.size + 1, 8, none⟩ = false:=r2.frozen 8
 have s8 : w5.cell? ⟨w.heap.size + 1 + 1, 8, none⟩ = some (.i ve):=r3.cell 8
 have g2 : w5.frozen? ⟨w.heap.size + 1 + 1, 2, none⟩ = false:=r3.frozen 2
 have R2:=Lib.hid r2
 have R3:=Lib.hid r3
 clear r1 r2 r3 hb5 hB hi
 cases b
 ·go_wp2_with fail
  refine bR2 (w.heap.size + 1) (((((((((R2.out.setc 0 _).setc 1 _).setc 2 _).setc 3 _).setc 4 _).setc 5 _).setc 6 _).setc 7 _).setc 8 _) Tryz.underlying59 ?_
  refine ⟨by rw [HA.out]; simp [S.val, S.cells], ?_⟩
  iterate 9 refine Below.setCell ?_ (by simp) _
  exact HB.out
 cases br
 rotate_left
 ·go_wp2_with fail
  refine bR2 (w.heap.size + 1) (((((((((R2.out.setc 0 _).setc 1 _).setc 2 _).setc 3 _).setc 4 _).setc 5 _).setc 6 _).setc 7 _).setc 8 _) Tryz.underlying59 ?_
  refine ⟨by rw [HA.out]; simp [S.val, S.cells], ?_⟩
  iterate 9 refine Below.setCell ?_ (by simp) _
  exact HB.out
 have hmm : more ≤ 8 ∨ 8 < more:=by omega
 rcases hmm with hm | hm
 all_goals (
  go_wp2_with fail
  clear q0 f0 s0 q1 f1 s1 q2 f2 s2 q3 f3 s3 q4 f4 s4 q5 f5 s5 q6 f6 s6 q7 f7 s7 q8 f8 s8 g2
  have r2:=R2.out
  have r3:=R3.out
  have hB:=HB.out
  clear R2 R3 HB)
 ·go_loopw [19] (fun i wr => ∃ k : Nat, (k = 0 ∨ (k : Int) ≤ min more 8) ∧ i = .i k ∧ (∀ j, j < k → hasBit sm j = true) ∧ RowAt wr (w.heap.size + 1) zero9 59 ∧ RowAt wr (w.heap.size + 1 + 1) (Ac st ow sm false ma us ge ep ve) 59 ∧ Below w.heap.size w wr) (fun i _ => 8 - (intOf i).toNat)
  case atStart => exact ⟨0, .inl rfl, rfl, fun j hj => absurd hj (by omega), r2, r3, hB⟩
  case round =>
   clear r2 r3 hB
   obtain ⟨k, hk, rfl, hall, r2, r3, hB⟩:=hrel
   have R2:=Lib.hid r2
   have R3:=Lib.hid r3
   have HB:=Lib.hid hB
   have HALL:=Lib.hid hall
   have l0 : (0 : Int) ≤ (k : Int):=by omega
   have q0 : wr.cell? ⟨w.heap.size + 1, 0, none⟩ = some (.i 0):=r2.cell 0
   have f0 : wr.frozen? ⟨w.heap.size + 1, 0, none⟩ = false:=r2.frozen 0
   have s0 : wr.cell? ⟨w.heap.size + 1 + 1, 0, none⟩ = some (.i st):=r3.cell 0
   have q1 : wr.cell? ⟨w.heap.size + 1, 1, none⟩ = some (.i 0):=r2.cell 1
   have f1 : wr.frozen? ⟨w.heap.size + 1, 1, none⟩ = false:=r2.frozen 1
   have s1 : wr.cell? ⟨w.heap.size + 1 + 1, 1, none⟩ = some (.i ow):=r3.cell 1
   have q2 : wr.cell? ⟨w.heap.size + 1, 2, none⟩ = some (.i 0):=r2.cell 2
   have f2 : wr.frozen? ⟨w.heap.size + 1, 2, none⟩ = false:=r2.frozen 2
   have s2 : wr.cell? ⟨w.heap.size + 1 + 1, 2, none⟩ = some (.i sm):=r3.cell 2
   have q3 : wr.cell? ⟨w.heap.size + 1, 3, none⟩ = some (.bool false):=r2.cell 3
   have f3 : wr.frozen? ⟨w.heap.size + 1, 3, none⟩ = false:=r2.frozen 3
   have s3 : wr.cell? ⟨w.heap.size + 1 + 1, 3, none⟩ = some (.bool false):=r3.cell 3
   have q4 : wr.cell? ⟨w.heap.size + 1, 4, none⟩ = some (.bool false):=r2.cell 4
   have f4 : wr.frozen? ⟨w.heap.size + 1, 4, none⟩ = false:=r2.frozen 4
   have s4 : wr.cell? ⟨w.heap.size + 1 + 1, 4, none⟩ = some (.bool ma):=r3.cell 4
   have q5 : wr.cell? ⟨w.heap.size + 1, 5, none⟩ = some (.i 0):=r2.cell 5
   have f5 : wr.frozen? ⟨w.heap.size + 1, 5, none⟩ = false:=r2.frozen 5
   have s5 : wr.cell? ⟨w.heap.size + 1 + 1, 5, none⟩ = some (.i us):=r3.cell 5
   have q6 : wr.cell? ⟨w.heap.size + 1, 6, none⟩ = some (.i 0):=r2.cell 6
   have f6 : wr.frozen? ⟨w.heap.size + 1, 6, none⟩ = false:=r2.frozen 6
   have s6 : wr.cell? ⟨w.heap.size + 1 + 1, 6, none⟩ = some (.i ge):=r3.cell 6
   have q7 : wr.cell? ⟨w.heap.size + 1, 7, none⟩ = some (.i 0):=r2.cell 7
   have f7 : wr.frozen? ⟨w.heap.size + 1, 7, none⟩ = false:=r2.frozen 7
   have s7 : wr.cell? ⟨w.heap.size + 1 + 1, 7, none⟩ = some (.i ep):=r3.cell 7
   have q8 : wr.cell? ⟨w.heap.size + 1, 8, none⟩ = some (.i 0):=r2.cell 8
   have f8 : wr.frozen? ⟨w.heap.size + 1, 8, none⟩ = false:=r2.frozen 8
   have s8 : wr.cell? ⟨w.heap.size + 1 + 1, 8, none⟩ = some (.i ve):=r3.cell 8
   have g2 : wr.frozen? ⟨w.heap.size + 1 + 1, 2, none⟩ = false:=r3.frozen 2
   clear r2 r3 hB hall
   by_cases hlt : (k : Int) < min more 8
   ·have l1 : (k : Int) < more:=by omega
    have l2 : k < 8:=by omega
    have hp1:=(pow_val k l2).1
    have hp2:=(pow_val k l2).2
    have hne : ((2 : Int) ^ k == 0) = false:=by simp; omega
    have hnd:=bit_and sm k ⟨hs0, hs1⟩ l2
    have hor:=bit_or sm k ⟨hs0, hs1⟩ l2
    have HL:=Lib.hid (lowFree_some sm more k hlt)
    clear hlt hk
    cases hb : hasBit sm k
    ·rw [hb] at hnd
     simp only [Bool.false_eq_true, if_false] at hnd
     have HR:=Lib.hid (HL.out hb HALL.out)
     clear hb HL
     go_wp2_with fail
     go_region
     go_wp2_with fail
     go_region
     go_wp2_with fail
     refine bodyPost_ret (results_row2 rfl _ _ (w.heap.size + 1) _ _ _ rfl ((((((((((setOther R2.out _ (by simp)).setc 0 _).setc 1 _).setc 2 _).setc 3 _).setc 4 _).setc 5 _).setc 6 _).setc 7 _).setc 8 _).drew.drew Tryz.underlying59 rfl (by kernel_rfl)) rfl ?_
     refine ⟨by rw [HA.out]; simp [S.val, S.cells, HR.out], ?_⟩
     refine Below.drew (Below.drew ?_)
     iterate 9 refine Below.setCell ?_ (by simp) _
     exact HB.out.setCell (by simp; omega) _
    ·rw [hb] at hnd
     simp only [if_true] at hnd
     have HALL2 : RowKit.Hid (∀ j, j < k + 1 → hasBit sm j = true):=Lib.hid (fun j hj => by
      rcases Nat.lt_succ_iff_lt_or_eq.1 hj with h | rfl
      ·exact HALL.out j h
      ·exact hb)
     clear hb HL hor
     go_wp2_with fail
     go_region
     go_wp2_with fail
     go_roundw
     case rel => exact ⟨k + 1, .inr (by omega), by go_num, HALL2.out, R2.out.drew, R3.out.drew, HB.out.drew⟩
     case measure => simp [intOf]; omega
   ·have l1 : ¬ ((k : Int) < more):=by omega
    have HR:=Lib.hid (lowFree_none sm more k (by omega) HALL.out)
    clear hlt hk
    go_wp2_with fail
    refine bR2 (w.heap.size + 1) (((((((((R2.out.setc 0 _).setc 1 _).setc 2 _).setc 3 _).setc 4 _).setc 5 _).setc 6 _).setc 7 _).setc 8 _) Tryz.underlying59 ?_
    refine ⟨by rw [HA.out, HR.out]; simp [S.val, S.cells], ?_⟩
    iterate 9 refine Below.setCell ?_ (by simp) _
    exact HB.out
 ·go_loopw [19] (fun i wr => ∃ k : Nat, (k = 0 ∨ (k : Int) ≤ min more 8) ∧ i = .i k ∧ (∀ j, j < k → hasBit sm j = true) ∧ RowAt wr (w.heap.size + 1) zero9 59 ∧ RowAt wr (w.heap.size + 1 + 1) (Ac st ow sm false ma us ge ep ve) 59 ∧ Below w.heap.size w wr) (fun i _ => 8 - (intOf i).toNat)
  case atStart => exact ⟨0, .inl rfl, rfl, fun j hj => absurd hj (by omega), r2, r3, hB⟩
  case round =>
   clear r2 r3 hB
   obtain ⟨k, hk, rfl, hall, r2, r3, hB⟩:=hrel
   have R2:=Lib.hid r2
   have R3:=Lib.hid r3
   have HB:=Lib.hid hB
   have HALL:=Lib.hid hall
   have l0 : (0 : Int) ≤ (k : Int):=by omega
   have q0 : wr.cell? ⟨w.heap.size + 1, 0, none⟩ = some (.i 0):=r2.cell 0
   have f0 : wr.frozen? ⟨w.heap.size + 1, 0, none⟩ = false:=r2.frozen 0
   have s0 : wr.cell? ⟨w.heap.size + 1 + 1, 0, none⟩ = some (.i st):=r3.cell 0
   have q1 : wr.cell? ⟨w.heap.size + 1, 1, none⟩ = some (.i 0):=r2.cell 1
   have f1 : wr.frozen? ⟨w.heap.size + 1, 1, none⟩ = false:=r2.frozen 1
   have s1 : wr.cell? ⟨w.heap.size + 1 + 1, 1, none⟩ = some (.i ow):=r3.cell 1
   have q2 : wr.cell? ⟨w.heap.size + 1, 2, none⟩ = some (.i 0):=r2.cell 2
   have f2 : wr.frozen? ⟨w.heap.size + 1, 2, none⟩ = false:=r2.frozen 2
   have s2 : wr.cell? ⟨w.heap.size + 1 + 1, 2, none⟩ = some (.i sm):=r3.cell 2
   have q3 : wr.cell? ⟨w.heap.size + 1, 3, none⟩ = some (.bool false):=r2.cell 3
   have f3 : wr.frozen? ⟨w.heap.size + 1, 3, none⟩ = false:=r2.frozen 3
   have s3 : wr.cell? ⟨w.heap.size + 1 + 1, 3, none⟩ = some (.bool false):=r3.cell 3
   have q4 : wr.cell? ⟨w.heap.size + 1, 4, none⟩ = some (.bool false):=r2.cell 4
   have f4 : wr.frozen? ⟨w.heap.size + 1, 4, none⟩ = false:=r2.frozen 4
   have s4 : wr.cell? ⟨w.heap.size + 1 + 1, 4, none⟩ = some (.bool ma):=r3.cell 4
   have q5 : wr.cell? ⟨w.heap.size + 1, 5, none⟩ = some (.i 0):=r2.cell 5
   have f5 : wr.frozen? ⟨w.heap.size + 1, 5, none⟩ = false:=r2.frozen 5
   have s5 : wr.cell? ⟨w.heap.size + 1 + 1, 5, none⟩ = some (.i us):=r3.cell 5
   have q6 : wr.cell? ⟨w.heap.size + 1, 6, none⟩ = some (.i 0):=r2.cell 6
   have f6 : wr.frozen? ⟨w.heap.size + 1, 6, none⟩ = false:=r2.frozen 6
   have s6 : wr.cell? ⟨w.heap.size + 1 + 1, 6, none⟩ = some (.i ge):=r3.cell 6
   have q7 : wr.cell? ⟨w.heap.size + 1, 7, none⟩ = some (.i 0):=r2.cell 7
   have f7 : wr.frozen? ⟨w.heap.size + 1, 7, none⟩ = false:=r2.frozen 7
   have s7 : wr.cell? ⟨w.heap.size + 1 + 1, 7, none⟩ = some (.i ep):=r3.cell 7
   have q8 : wr.cell? ⟨w.heap.size + 1, 8, none⟩ = some (.i 0):=r2.cell 8
   have f8 : wr.frozen? ⟨w.heap.size + 1, 8, none⟩ = false:=r2.frozen 8
   have s8 : wr.cell? ⟨w.heap.size + 1 + 1, 8, none⟩ = some (.i ve):=r3.cell 8
   have g2 : wr.frozen? ⟨w.heap.size + 1 + 1, 2, none⟩ = false:=r3.frozen 2
   clear r2 r3 hB hall
   by_cases hlt : (k : Int) < min more 8
   ·have l1 : (k : Int) < more:=by omega
    have l2 : k < 8:=by omega
    have hp1:=(pow_val k l2).1
    have hp2:=(pow_val k l2).2
    have hne : ((2 : Int) ^ k == 0) = false:=by simp; omega
    have hnd:=bit_and sm k ⟨hs0, hs1⟩ l2
    have hor:=bit_or sm k ⟨hs0, hs1⟩ l2
    have HL:=Lib.hid (lowFree_some sm more k hlt)
    clear hlt hk
    cases hb : hasBit sm k
    ·rw [hb] at hnd
     simp only [Bool.false_eq_true, if_false] at hnd
     have HR:=Lib.hid (HL.out hb HALL.out)
     clear hb HL
     go_wp2_with fail
     go_region
     go_wp2_with fail
     go_region
     go_wp2_with fail
     refine bodyPost_ret (results_row2 rfl _ _ (w.heap.size + 1) _ _ _ rfl ((((((((((setOther R2.out _ (by simp)).setc 0 _).setc 1 _).setc 2 _).setc 3 _).setc 4 _).setc 5 _).setc 6 _).setc 7 _).setc 8 _).drew.drew Tryz.underlying59 rfl (by kernel_rfl)) rfl ?_
     refine ⟨by rw [HA.out]; simp [S.val, S.cells, HR.out], ?_⟩
     refine Below.drew (Below.drew ?_)
     iterate 9 refine Below.setCell ?_ (by simp) _
     exact HB.out.setCell (by simp; omega) _
    ·rw [hb] at hnd
     simp only [if_true] at hnd
     have HALL2 : RowKit.Hid (∀ j, j < k + 1 → hasBit sm j = true):=Lib.hid (fun j hj => by
      rcases Nat.lt_succ_iff_lt_or_eq.1 hj with h | rfl
      ·exact HALL.out j h
      ·exact hb)
     clear hb HL hor
     go_wp2_with fail
     go_region
     go_wp2_with fail
     go_roundw
     case rel => exact ⟨k + 1, .inr (by omega), by go_num, HALL2.out, R2.out.drew, R3.out.drew, HB.out.drew⟩
     case measure => simp [intOf]; omega
   ·have l1 : ¬ ((k : Int) < 8):=by omega
    have HR:=Lib.hid (lowFree_none sm more k (by omega) HALL.out)
    clear hlt hk
    go_wp2_with fail
    refine bR2 (w.heap.size + 1) (((((((((R2.out.setc 0 _).setc 1 _).setc 2 _).setc 3 _).setc 4 _).setc 5 _).setc 6 _).setc 7 _).setc 8 _) Tryz.underlying59 ?_
    refine ⟨by rw [HA.out, HR.out]; simp [S.val, S.cells], ?_⟩
    iterate 9 refine Below.setCell ?_ (by simp) _
    exact HB.out
end Go.Proofs.YtpmkgddjgebojaaGreatDoor.Life
