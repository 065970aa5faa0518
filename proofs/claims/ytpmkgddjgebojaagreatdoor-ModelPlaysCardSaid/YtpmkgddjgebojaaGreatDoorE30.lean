/- Part 30 of the walks and plain laws that the last text joins. -/
import Derived.Test.YtpmkgddjgebojaaGreatDoorE24
import Derived.Test.YtpmkgddjgebojaaGreatDoorE28
import Derived.Lib.SliceRun
import Derived.LoopTactic
set_option maxRecDepth 100000
set_option maxHeartbeats 16000000
set_option linter.unusedVariables false
set_option linter.unusedSimpArgs false
namespace Go.Proofs.YtpmkgddjgebojaaGreatDoor.Mod
open Go.RowKit Hp Slot RowL Life
theorem del_any (W : World) (b : Nat) (who x : Int) (h : W.cell? ⟨b, 0, none⟩ = some (.i who)) :
  Calls Tryz.prog 52 #[.i x, .pointer (some ⟨b, 0, none⟩)] W fun e W' => e = .returned (.bool (x == who)) ∧ W = W':=by
 go_enter Tryz.func52, Tryz.ntmps52
 go_wp2
 go_ret
 exact ⟨rfl, rfl⟩
theorem index_any (W : World) (b : Nat) (who : Int) (h : W.cell? ⟨b, 0, none⟩ = some (.i who)) (g off cap : Nat) (l : List Int) (hl : l.length ≤ 1000) (hc : ∀ j x, l[j]? = some x → W.cell? ⟨g, off + j, none⟩ = some (.i x)) :
  Calls Tryz.prog 91 #[.slice (some ⟨g, off, none⟩) l.length cap, .func (.func 52) #[] #[.pointer (some ⟨b, 0, none⟩)]] W fun e W' =>
   (∃ k : Nat, (e = .returned (.i k) ∧ l[k]? = some who ∧ who ∉ l.take k) ∨ (e = .returned (.i (-1)) ∧ who ∉ l)) ∧ W = W':=by
 have HC:=Lib.hid hc
 clear hc
 go_enter Tryz.func91, Tryz.ntmps91
 go_wp2
 go_loop [8] (fun i => ∃ k : Nat, k ≤ l.length ∧ i = .i k ∧ who ∉ l.take k) (fun i => l.length - (intOf i).toNat)
 case atStart => exact ⟨0, by omega, rfl, by simp⟩
 case round =>
  obtain ⟨k, hk, rfl, hno⟩:=hrel
  have HNO:=Lib.hid hno
  clear hno
  by_cases hlt : k < l.length
  ·obtain ⟨x, hx⟩ : ∃ x, l[k]? = some x:=⟨_, List.getElem?_eq_getElem hlt⟩
   have HX:=Lib.hid hx
   have hcell:=HC.out k x hx
   have b0 : (0 : Int) ≤ (k : Int):=by omega
   have b1 : (k : Int) < (l.length : Int):=by omega
   have b2 : (k : Int) ≤ (l.length : Int) - 1:=by omega
   have hd:=del_any W b who x h
   clear hx
   by_cases hxw : x = who
   ·have hxe : (x == who) = true:=by simpa using hxw
    rw [hxe] at hd
    have HXW:=Lib.hid hxw
    clear hxw hxe
    go_wp2_with fail
    refine hd.mono ?_
    rintro e w' ⟨rfl, rfl⟩
    go_wp2_with fail
    go_ret
    exact ⟨⟨k, .inl ⟨rfl, by rw [HX.out, HXW.out], HNO.out⟩⟩, rfl⟩
   ·have hxe : (x == who) = false:=by simpa using hxw
    rw [hxe] at hd
    have HXW:=Lib.hid hxw
    clear hxw hxe
    go_wp2_with fail
    refine hd.mono ?_
    rintro e w' ⟨rfl, rfl⟩
    go_wp2_with fail
    go_round
    case rel =>
     refine ⟨k + 1, by omega, by go_num, ?_⟩
     obtain ⟨hl2, he⟩:=List.getElem?_eq_some_iff.1 HX.out
     rw [List.take_succ_eq_append_getElem hl2, he]
     simp only [List.mem_append, List.mem_singleton, not_or]
     exact ⟨HNO.out, fun e => HXW.out e.symm⟩
    case measure => simp [intOf]; omega
  ·obtain rfl : k = l.length:=by omega
   go_wp2
   go_ret
   refine ⟨⟨0, .inr ⟨rfl, ?_⟩⟩, rfl⟩
   have:=HNO.out
   rwa [List.take_length] at this
theorem filter_none' {l : List Int} {n : Int} (h : n ∉ l) : l.filter (fun o => o != n) = l:=by
 rw [List.filter_eq_self]
 intro x hx
 simp
 rintro rfl
 exact h hx
theorem index_nil (W : World) (b : Nat) :
  Calls Tryz.prog 91 #[.slice none 0 0, .func (.func 52) #[] #[.pointer (some ⟨b, 0, none⟩)]] W fun e W' => e = .returned (.i (-1)) ∧ W = W':=by
 go_enter Tryz.func91, Tryz.ntmps91
 go_wp2
 go_loop [8] (fun i => i = .i 0) (fun i => 0)
 case atStart => rfl
 case round =>
  obtain rfl:=hrel
  go_wp2
  go_ret
  exact ⟨rfl, rfl⟩
structure DelAt (W0 W : World) (g off cap : Nat) (l : List Int) (who : Int) (i j : Nat) : Prop where
 ij : i < j
 jn : j ≤ l.length
 cnt : i = ((l.take j).filter (fun o => o != who)).length
 kept : ∀ q x, ((l.take j).filter (fun o => o != who))[q]? = some x → W.cell? ⟨g, off + q, none⟩ = some (.i x)
 rest : ∀ q x, j ≤ q → l[q]? = some x → W.cell? ⟨g, off + q, none⟩ = some (.i x)
 some' : ∀ q, q < cap → (W.cell? ⟨g, off + q, none⟩).isSome = true
 frz : ∀ q, q < cap → W.frozen? ⟨g, off + q, none⟩ = false
 isc : IsC W g
 chg : Chg (fun k => k = g) W0 W
theorem DelAt.skip {W0 W : World} {g off cap : Nat} {l : List Int} {who : Int} {i j : Nat} (h : DelAt W0 W g off cap l who i j) (hj : l[j]? = some who) : DelAt W0 W g off cap l who i (j + 1):=by
 obtain ⟨hl, he⟩:=List.getElem?_eq_some_iff.1 hj
 have e : (l.take (j + 1)).filter (fun o => o != who) = (l.take j).filter (fun o => o != who):=by
  rw [List.take_succ_eq_append_getElem hl, List.filter_append, he]; simp
 exact ⟨by have:=h.ij; omega, by omega, by rw [e]; exact h.cnt, by rw [e]; exact h.kept, fun q x hq => h.rest q x (by omega), h.some', h.frz, h.isc, h.chg⟩
theorem DelAt.keep {W0 W : World} {g off cap : Nat} {l : List Int} {who x : Int} {i j : Nat} (h : DelAt W0 W g off cap l who i j) (hj : l[j]? = some x) (hx : x ≠ who) (hcap : l.length ≤ cap) : DelAt W0 (W.setCell ⟨g, off + i, none⟩ (.i x)) g off cap l who (i + 1) (j + 1):=by
 obtain ⟨hl, he⟩:=List.getElem?_eq_some_iff.1 hj
 have e : (l.take (j + 1)).filter (fun o => o != who) = (l.take j).filter (fun o => o != who) ++ [x]:=by
  rw [List.take_succ_eq_append_getElem hl, List.filter_append, he]; simp [hx]
 have hi:=h.ij
 have hc:=h.cnt
 obtain ⟨v0, hv0⟩:=Option.isSome_iff_exists.1 (h.some' i (by omega))
 refine ⟨by omega, by omega, by rw [e]; simp; exact hc, fun q y hq => ?_, fun q y hq hy => ?_, fun q hq => ?_, fun q hq => ?_, h.isc.setCell _ _, h.chg.setCell _ _ (fun _ => rfl)⟩
 ·rw [e] at hq
  by_cases hqi : q = i
  ·subst hqi
   rw [List.getElem?_append_right (by omega)] at hq
   rw [← hc] at hq
   simp at hq
   subst hq
   exact World.cell?_setCell_same _ _ _ hv0
  ·have hql : q < ((l.take j).filter (fun o => o != who)).length:=by
    have:=(List.getElem?_eq_some_iff.1 hq).1
    simp at this; omega
   rw [List.getElem?_append_left hql] at hq
   rw [World.cell?_setCell_other _ _ _ _ (by simp <;> omega)]
   exact h.kept q y hq
 ·rw [World.cell?_setCell_other _ _ _ _ (by simp <;> omega)]
  exact h.rest q y (by omega) hy
 ·by_cases hqi : q = i
  ·subst hqi; rw [World.cell?_setCell_same _ _ _ hv0]; rfl
  ·rw [World.cell?_setCell_other _ _ _ _ (by simp <;> omega)]; exact h.some' q hq
 ·rw [World.frozen?_setCell]; exact h.frz q hq
theorem int_zero (W : World) : (zeroValue 3).run Tryz.prog W = .ok (.i 0) W:=by kernel_rfl
theorem own_put {W : World} {g off cap i : Nat} {xs : List Value} (z : Value) (m : Nat) (hi : i ≤ cap) (hcm : cap ≤ maxLen) (hm : i + m ≤ cap) (hl : xs.length = i) (isc : IsC W g) (hs : ∀ q, q < cap → (W.cell? ⟨g, off + q, none⟩).isSome = true) (hf : ∀ q, q < cap → W.frozen? ⟨g, off + q, none⟩ = false)
  (hx : ∀ q u, xs[q]? = some u → W.cell? ⟨g, off + q, none⟩ = some u) : OwnS (W.setCells g (off + i) (List.replicate m z)) (.slice (some ⟨g, off, none⟩) i cap) i 1 xs:=by
 refine ⟨by omega, .inr ⟨g, off, cap, rfl, hi, hcm, isc.setCells g _ _, fun j hj => ?_, fun j hj => ?_, fun j u hu => ?_⟩⟩
 ·exact World.isSome_setCells g _ _ _ _ (hs j (by omega))
 ·rw [World.frozen?_setCells]; exact hf j (by omega)
 ·have hj:=(List.getElem?_eq_some_iff.1 hu).1
  rw [World.cell?_setCells_out g _ _ _ _ (fun _ _ => by simp only [List.length_replicate]; omega)]
  exact hx j u hu
theorem delete_any (W : World) (b : Nat) (who : Int) (h : W.cell? ⟨b, 0, none⟩ = some (.i who)) (v : Value) (l : List Int) (hl : l.length ≤ 1000) (ho : OwnS W v l.length 1 (l.map (Value.int .i64))) (hb : ¬ Fp v b) :
  Calls Tryz.prog 51 #[v, .func (.func 52) #[] #[.pointer (some ⟨b, 0, none⟩)]] W fun e W' =>
   ∃ v', e = .returned v' ∧ OwnS W' v' (l.filter (fun o => o != who)).length 1 ((l.filter (fun o => o != who)).map (Value.int .i64)) ∧ (∀ k, Fp v' k → Fp v k) ∧ Chg (Fp v) W W':=by
 rcases ho.2 with ⟨rfl, h0⟩ | ⟨g, off, cap, rfl, hn, hcm, isc, hs, hf, hx⟩
 ·obtain rfl : l = []:=List.eq_nil_of_length_eq_zero h0
  go_enter Tryz.func51, Tryz.ntmps51
  go_wp2_with fail
  refine (index_nil W b).mono ?_
  rintro e w' ⟨rfl, rfl⟩
  go_wp2_with fail
  go_ret
  exact ⟨_, rfl, ownS_nil _ _, fun _ h => h, Chg.refl _ _⟩
 ·have hi:=index_any W b who h g off cap l hl (fun j x hj => hx j _ (by simp [hj]))
  go_enter Tryz.func51, Tryz.ntmps51
  go_wp2_with fail
  refine hi.mono ?_
  rintro e w' ⟨⟨k, ⟨rfl, hk, hno⟩ | ⟨rfl, hno⟩⟩, rfl⟩
  ·have hkl : k < l.length:=(List.getElem?_eq_some_iff.1 hk).1
   have htk : (l.take (k + 1)).filter (fun o => o != who) = l.take k:=by
    rw [List.take_succ_eq_append_getElem hkl, List.filter_append, (List.getElem?_eq_some_iff.1 hk).2, filter_none' hno]; simp
   have D0 : DelAt W W g off cap l who k (k + 1):=⟨by omega, by omega, by rw [htk]; simp; omega, (fun q x hq => by
    rw [htk, List.getElem?_take] at hq
    split at hq
    ·exact hx q _ (by simp [hq])
    ·cases hq), fun q x _ hq => hx q _ (by simp [hq]), fun q hq => hs q (by omega), fun q hq => hf q (by omega), isc, Chg.refl _ _⟩
   have hbg : b ≠ g:=fun e => hb (by rw [fp_some]; exact e.symm)
   clear hi ho hs hf hx htk hno hk isc
   have kb0 : (0 : Int) ≤ (k : Int):=by omega
   go_wp2_with fail
   go_loopw [5, 6] (fun vi vj wr => ∃ i j : Nat, vi = .i i ∧ vj = .i j ∧ DelAt W wr g off cap l who i j ∧ wr.cell? ⟨b, 0, none⟩ = some (.i who)) (fun _ vj _ => l.length - (intOf vj).toNat)
   case atStart => exact ⟨k, k + 1, rfl, by first | rfl | go_num, D0, h⟩
   case round =>
    obtain ⟨i, j, rfl, rfl, D, hcb⟩:=hrel
    have hij:=D.ij
    have hjn:=D.jn
    have b0 : (0 : Int) ≤ (j : Int):=by omega
    have i0 : (0 : Int) ≤ (i : Int):=by omega
    have i1 : (i : Int) < (l.length : Int):=by omega
    have i2 : (i : Int) ≤ (l.length : Int) - 1:=by omega
    clear D0 h kb0
    by_cases hlt : j < l.length
    ·obtain ⟨x, hx⟩ : ∃ x, l[j]? = some x:=⟨_, List.getElem?_eq_getElem hlt⟩
     have hcell:=D.rest j x (Nat.le_refl _) hx
     have b1 : (j : Int) < (l.length : Int):=by omega
     have b2 : (j : Int) ≤ (l.length : Int) - 1:=by omega
     have hd:=del_any wr b who x hcb
     have HX:=Lib.hid hx
     have hD:=Lib.hid D
     obtain ⟨v0, hv0⟩:=Option.isSome_iff_exists.1 (D.some' i (by omega))
     have hf0:=D.frz i (by omega)
     clear hx D
     by_cases hxw : x = who
     ·have hxe : (x == who) = true:=by simpa using hxw
      rw [hxe] at hd
      have HXW:=Lib.hid hxw
      clear hxw hxe
      go_wp2_with fail
      refine hd.mono ?_
      rintro e w' ⟨rfl, rfl⟩
      go_wp2_with fail
      go_roundw
      case rel => first | exact ⟨i, j + 1, rfl, by go_num, hD.out.skip (by rw [HX.out, HXW.out]), hcb⟩ | ((repeat apply Exists.intro); exact ⟨⟨i, j + 1, rfl, by go_num, hD.out.skip (by rw [HX.out, HXW.out]), hcb⟩, rfl⟩)
      case measure => simp [intOf]; omega
     ·have hxe : (x == who) = false:=by simpa using hxw
      rw [hxe] at hd
      have HXW:=Lib.hid hxw
      clear hxw hxe
      go_wp2_with fail
      refine hd.mono ?_
      rintro e w' ⟨rfl, rfl⟩
      go_wp2_with fail
      go_roundw
      case rel => first | exact ⟨i + 1, j + 1, by go_num, by go_num, hD.out.keep HX.out HXW.out hn, (World.cell?_setCell_other _ _ _ _ (by simp <;> omega)).trans hcb⟩ | ((repeat apply Exists.intro); exact ⟨⟨i + 1, j + 1, by go_num, by go_num, hD.out.keep HX.out HXW.out hn, (World.cell?_setCell_other _ _ _ _ (by simp <;> omega)).trans hcb⟩, rfl⟩)
      case measure => simp [intOf]; omega
    ·obtain rfl : j = l.length:=by omega
     have hcnt : i = (l.filter (fun o => o != who)).length:=by have:=D.cnt; rwa [List.take_length] at this
     have hkept:=D.kept
     rw [List.take_length] at hkept
     have hown:=own_put (.i 0) (l.length - i) (xs:=(l.filter (fun o => o != who)).map (Value.int .i64)) (i:=i) (by omega) hcm (by omega) (by simp; omega) D.isc D.some' D.frz (fun q u hq => by
      rw [List.getElem?_map] at hq
      cases hqq : (l.filter (fun o => o != who))[q]? with
      | none => rw [hqq] at hq; cases hq
      | some y => rw [hqq] at hq; cases hq; exact hkept q y hqq)
     have hclr : ∀ ty, (Builtin.clear_ #[43] ty #[.slice (some ⟨g, off + i, none⟩) (l.length - i) (cap - i)]).run Tryz.prog wr = .ok (.tuple #[]) (wr.setCells g (off + i) (List.replicate (l.length - i) (.i 0))):=fun ty =>
      Lib.run_clear_slice wr 43 3 ty (.i 0) Tryz.underlying43 int_zero rfl rfl g (off + i) (l.length - i) (cap - i) (by omega)
       (fun j hj => by rw [Nat.add_assoc]; exact D.some' _ (by omega)) (fun j hj => by rw [Nat.add_assoc]; exact D.frz _ (by omega))
     have hch : Chg (fun k => k = g) W (wr.setCells g (off + i) (List.replicate (l.length - i) (.i 0))):=D.chg.trans (chg_setCells _ _ _ _) (fun _ _ h => h)
     have HF:=Lib.hid (And.intro hown (And.intro hch hcnt))
     have hne : ¬ cap = i:=by omega
     have hic : i ≤ cap:=by omega
     clear hown hch hcnt hkept D hcb
     go_wp2_with fail
     go_ret
     have h3:=HF.out
     rw [← h3.2.2]
     exact ⟨.slice (some ⟨g, off, none⟩) i cap, rfl, h3.1, fun k hk => by rw [fp_some] at hk ⊢; exact hk, h3.2.1.mono (fun k _ e => by rw [fp_some]; exact e.symm)⟩
  ·have hfe : l.filter (fun o => o != who) = l:=filter_none' hno
   have HO:=Lib.hid ho
   have HFE:=Lib.hid hfe
   clear hi ho hs hf hx hfe hno isc
   go_wp2_with fail
   go_ret
   rw [HFE.out]
   exact ⟨_, rfl, HO.out, fun _ h => h, Chg.refl _ _⟩
end Go.Proofs.YtpmkgddjgebojaaGreatDoor.Mod
namespace Go.Proofs.YtpmkgddjgebojaaGreatDoor.Mod
open Go.RowKit Hp Slot RowL Life R8
theorem q_give {W : World} {p : Ql} {m : M} (h : QAt W p m) (who : Int) (a : Ask) (hop : a.op = 1) :
  Calls Tryz.prog 43 #[.pointer (some ⟨p.mb, 0, none⟩), .i who, a.val] W (QPost W p (m.give who a false).1.val (m.give who a false).2):=by
 have hR : RowKit.Hid (m.give who a false = if m.owns who a ≠ 0 then (M.failed (m.owns who a), m) else if (m.slot a.slot.toNat).streams ≠ 0 ∧ false = false then (M.failed 8, m) else (Ev.zero, if false = true ∨ (m.slot a.slot.toNat).broken = true ∨ m.cf.uses ≤ (m.slot a.slot.toNat).uses ∨ m.closed ≠ 0 then m.empty a.slot.toNat else m.turn a.slot.toNat 4 who 0)):=rfl
 generalize m.give who a false = R at *
 have hlt : p.mb < W.heap.size:=h.lt (.inl rfl)
 have how:=owns_has m who a
 have hos : RowKit.Hid (m.owns who a = 0 → m.closed ≠ 2 ∧ ∃ (n : Nat) (s : S), a.slot = n ∧ m.ss[n]? = some s ∧ s.state = 3 ∧ s.own = who ∧ s.gen = a.gen):=fun h => owns_zero h
 have hha:=fun W (h : QAt W p m) => q_has h who a
 generalize m.owns who a = q at *
 generalize m.hasL who a = b at *
 obtain ⟨op, dl, wt, fo, sl, ge, st⟩:=a
 simp only at hop
 subst hop
 simp only [Ask.val, Ask.cells] at *
 have hB : Below W.heap.size W ((W.alloc (.cells (Ad 1 dl wt fo sl ge st) 25)).alloc (.cells Zv 36)):=((Below.refl _ _).alloc (Nat.le_refl _) _).alloc (by simp) _
 have r0 : Rq W.heap.size ((W.alloc (.cells (Ad 1 dl wt fo sl ge st) 25)).alloc (.cells Zv 36)) p ((W.alloc (.cells (Ad 1 dl wt fo sl ge st) 25)).alloc (.cells Zv 36)) p m:=Rq.begin h hB
 have e0 : ERow ((W.alloc (.cells (Ad 1 dl wt fo sl ge st) 25)).alloc (.cells Zv 36)) (W.heap.size + 1):=⟨Zv, rfl, heap_alloc2_new W _ _⟩
 have hg1 : W.heap.size + 1 < ((W.alloc (.cells (Ad 1 dl wt fo sl ge st) 25)).alloc (.cells Zv 36)).heap.size:=by simp
 have hg0 : W.heap.size ≤ W.heap.size + 1:=by omega
 have a0 : RowAt ((W.alloc (.cells (Ad 1 dl wt fo sl ge st) 25)).alloc (.cells Zv 36)) W.heap.size (Ad 1 dl wt fo sl ge st) 25:=heap_alloc2_old W _ _
 have ho:=hha _ r0.at'
 have HOW:=Lib.hid how
 have l0:=a0.cell 0
 clear hha how h
 go_enter Tryz.func43, Tryz.ntmps43
 go_upto_region 1 with (fail)
 generalize hw0 : ((W.alloc (.cells (Ad 1 dl wt fo sl ge st) 25)).alloc (.cells Zv 36)) = wb at *
 clear hw0 l0
 refine wp_region_lit ?_
 refine RowL.gl (.pointer (some ⟨p.mb, 0, none⟩)) ?_ (by go_simp; try rfl)
 refine RowL.gl (.i who) ?_ (by go_simp; try rfl)
 refine RowL.grow a0 25 (.tmp 5) Tryz.underlying25 ?_
 go_wp2_with fail
 refine ho.mono ?_
 rintro e w1 ⟨rfl, hb1⟩
 have r1:=r0.below hb1
 have e1:=e0.below hb1
 have a1:=a0.below hb1
 have k8:=r1.at'.hd.c8
 rw [r1.mb] at k8
 clear ho hb1 r0 e0 a0
 by_cases hc2 : m.closed = 2
 ·have HR2 : RowKit.Hid (R = (M.failed 5, m)):=Lib.hid (by have h1:=HOW.out; rw [if_pos hc2] at h1; rw [hR.out, h1, if_pos (by simp)])
  rw [hc2] at k8
  clear hos hR a1 hc2 HOW
  go_upto_region 3 with (fail)
  obtain ⟨Z, z1, z2⟩:=e1
  refine wp_region_lit ?_
  refine RowL.gl ((M.failed 5)).val ?_ (by go_simp; try rfl)
  refine RowL.gSt z2 ((M.failed 5)).cells 36 (.tmp 6) (.tmp 22) ?_ (hsz:=z1) (h1:=ev_one _)
  go_wp2_with fail
  refine bR1 (W.heap.size + 1) (z2.set _) Tryz.underlying36 ?_
  rw [HR2.out]
  exact (r1.row hg0 hg1 _).fin hB _
 have hc2' : (m.closed == 2) = false:=by simpa using hc2
 cases b
 ·have HR2 : RowKit.Hid (R = (M.failed 2, m)):=Lib.hid (by have h1:=HOW.out; rw [if_neg hc2, if_neg (by simp)] at h1; rw [hR.out, h1, if_pos (by simp)])
  clear hos hR a1 hc2 HOW
  go_upto_region 5 with (fail)
  obtain ⟨Z, z1, z2⟩:=e1
  refine wp_region_lit ?_
  refine RowL.gl ((M.failed 2)).val ?_ (by go_simp; try rfl)
  refine RowL.gSt z2 ((M.failed 2)).cells 36 (.tmp 6) (.tmp 25) ?_ (hsz:=z1) (h1:=ev_one _)
  go_wp2_with fail
  refine bR1 (W.heap.size + 1) (z2.set _) Tryz.underlying36 ?_
  rw [HR2.out]
  exact (r1.row hg0 hg1 _).fin hB _
 have hq : q = 0:=by have h1:=HOW.out; rw [if_neg hc2, if_pos rfl] at h1; exact h1
 obtain ⟨hcl2, n, s, hn, hs, hs3, hso, hsg⟩:=hos.out hq
 try simp only at hn hsg
 subst hn
 have HS:=Lib.hid hs
 have hsl : m.slot n = s:=M.slot_of hs
 have HR:=Lib.hid hR.out
 rw [if_neg (by first | simp [hq] | exact fun e => e hq | exact not_not_intro hq)] at HR
 try simp only [Int.toNat_natCast, hsl] at HR
 have hil : n < m.ss.length:=(List.getElem?_eq_some_iff.1 hs).1
 have hns:=r1.at'.ok.ns
 have b0 : (0 : Int) ≤ (n : Int):=by omega
 have b1 : (n : Int) < (m.ss.length : Int):=by omega
 have b2 : (n : Int) ≤ (m.ss.length : Int) - 1:=by omega
 clear hos hR hq hs hsl hil HOW hc2 hcl2
 have k5:=r1.at'.hd.c5
 rw [r1.mb, r1.sb] at k5
 have kA : w1.cell? ⟨W.heap.size, 4, none⟩ = some (.i n):=a1.cell 4
 have hd:=r1.at'.slots.get HS.out
 rw [r1.sb] at hd
 obtain ⟨s0, s1, s2, s3, s4, s5, s6, s7, s8⟩:=s
 try simp only at hs3 hso hsg HR hd
 have HS3:=Lib.hid hs3
 have HSO:=Lib.hid hso
 have HSG:=Lib.hid hsg
 clear hs3 hso hsg
 obtain ⟨d0, d1, d2, d3, d4, d5, d6, d7, d8⟩:=hd
 have L5 : ∀ w', Below w1.heap.size w1 w' → w'.cell? ⟨p.mb, 5, none⟩ = some (.slice (some ⟨p.sb, 0, none⟩) m.ss.length m.ss.length):=fun w' h => Field.bkeep h k5
 have LA : ∀ w', Below w1.heap.size w1 w' → w'.cell? ⟨W.heap.size, 4, none⟩ = some (.i n):=fun w' h => Field.bkeep h kA
 have Ls0 : ∀ w', Below w1.heap.size w1 w' → w'.cell? ⟨p.sb, n * 9, none⟩ = some (.i s0):=fun w' h => Field.bkeep h d0
 have Ls1 : ∀ w', Below w1.heap.size w1 w' → w'.cell? ⟨p.sb, n * 9 + 1, none⟩ = some (.i s1):=fun w' h => Field.bkeep h d1
 have Ls2 : ∀ w', Below w1.heap.size w1 w' → w'.cell? ⟨p.sb, n * 9 + 2, none⟩ = some (.i s2):=fun w' h => Field.bkeep h d2
 have Ls3 : ∀ w', Below w1.heap.size w1 w' → w'.cell? ⟨p.sb, n * 9 + 3, none⟩ = some (.bool s3):=fun w' h => Field.bkeep h d3
 have Ls4 : ∀ w', Below w1.heap.size w1 w' → w'.cell? ⟨p.sb, n * 9 + 4, none⟩ = some (.bool s4):=fun w' h => Field.bkeep h d4
 have Ls5 : ∀ w', Below w1.heap.size w1 w' → w'.cell? ⟨p.sb, n * 9 + 5, none⟩ = some (.i s5):=fun w' h => Field.bkeep h d5
 have Ls6 : ∀ w', Below w1.heap.size w1 w' → w'.cell? ⟨p.sb, n * 9 + 6, none⟩ = some (.i s6):=fun w' h => Field.bkeep h d6
 have Ls7 : ∀ w', Below w1.heap.size w1 w' → w'.cell? ⟨p.sb, n * 9 + 7, none⟩ = some (.i s7):=fun w' h => Field.bkeep h d7
 have Ls8 : ∀ w', Below w1.heap.size w1 w' → w'.cell? ⟨p.sb, n * 9 + 8, none⟩ = some (.i s8):=fun w' h => Field.bkeep h d8
 have hKd : Below w1.heap.size w1 w1.drew:=(Below.refl _ _).drew
 clear d0 d1 d2 d3 d4 d5 d6 d7 d8 kA k5
 go_upto_region 6 with (fail)
 go_region_held3 (fun w' => Below w1.heap.size w1 w') (first | assumption | exact ((Below.refl _ _).alloc (Nat.le_refl _) _) | exact ((Below.refl _ _).alloc (Nat.le_refl _) _).drew | exact ((Below.refl _ _).drew.alloc (Nat.le_refl _) _)) (fail)
 clear L5 LA Ls0 Ls1 Ls2 Ls3 Ls4 Ls5 Ls6 Ls7 Ls8 b0 b1 b2 hKd
 have hb2 : Below w1.heap.size w1 ((w1.alloc (.cells (Ac s0 s1 s2 s3 s4 s5 s6 s7 s8) 59)).drew):=((Below.refl _ _).alloc (Nat.le_refl _) _).drew
 have r2:=r1.below hb2
 have e2:=e1.below hb2
 have a2:=a1.below hb2
 have q2 : RowAt ((w1.alloc (.cells (Ac s0 s1 s2 s3 s4 s5 s6 s7 s8) 59)).drew) w1.heap.size (Ac s0 s1 s2 s3 s4 s5 s6 s7 s8) 59:=RowAt.new w1 _ _
 have hgs : W.heap.size + 1 < w1.heap.size:=Nat.lt_of_lt_of_le hg1 r1.size
 clear hb2 r1 e1 a1
 generalize hwz : (w1.alloc (.cells (Ac s0 s1 s2 s3 s4 s5 s6 s7 s8) 59)).drew = w2 at *
 clear hwz
 have kS : w2.cell? ⟨w1.heap.size, 2, none⟩ = some (.i s2):=q2.cell 2
 have kb : w2.cell? ⟨w1.heap.size, 3, none⟩ = some (.bool s3):=q2.cell 3
 have kU : w2.cell? ⟨w1.heap.size, 5, none⟩ = some (.i s5):=q2.cell 5
 have kO : w2.cell? ⟨W.heap.size, 0, none⟩ = some (.i 1):=a2.cell 0
 have hsb:=((right_iff _).1 (r2.at'.ok.rights _ (List.mem_of_getElem? HS.out))).1.2.2.1.1
 simp only at hsb
 have hcb:=r2.at'.ok.closed
 by_cases hst0 : s2 = 0
 ·have HR : RowKit.Hid (R = (Ev.zero, if (false = true) ∨ s3 = true ∨ m.cf.uses ≤ s5 ∨ m.closed ≠ 0 then m.empty n else m.turn n 4 who 0)):=Lib.hid (by rw [HR.out, if_neg (fun e => e.1 hst0)]; try simp)
  have hs0' : ¬ (0 : Int) < s2:=by omega
  have kc:=r2.at'.hd.c8
  have ku:=r2.at'.hd.c4
  rw [r2.mb] at kc ku
  cases s3
  ·by_cases hu : m.cf.uses ≤ s5
   ·have HR2 : RowKit.Hid (R = (Ev.zero, m.empty n)):=Lib.hid (by rw [HR.out, if_pos (by simp [hu])])
    clear HR hst0 hcb
    go_wp2_with fail
    go_quiet (fail)
    clear kc ku kb kU kS k8
    have hb3 : Below w2.heap.size w2 (w2.drewN nq):=bdrewN (Below.refl _ _) nq
    have r3:=r2.below hb3
    have e3:=e2.below hb3
    have a3:=a2.below hb3
    have kA:=a3.cell 4
    generalize hwz : w2.drewN nq = w3 at *
    clear hwz hb3 r2 e2 a2
    have hem:=q_empty r3.at' n n _ HS.out rfl
    rw [r3.mb] at hem
    go_wp2_with fail
    refine hem.mono ?_
    rintro e w4 ⟨⟨v4, rfl⟩, h4, hc4⟩
    have r4:=r3.slots h4 hc4
    have e4:=e3.chg hc4 (fun e => r3.not hg0 hg1 (.inr (.inl e)))
    clear hem h4 hc4 r3 e3 a3 kA
    go_upto_region 33 with (fail)
    obtain ⟨Z, z1, z2⟩:=e4
    refine wp_region_lit ?_
    refine RowL.gl (Ev.zero).val ?_ (by go_simp; try rfl)
    refine RowL.gSt z2 (Ev.zero).cells 36 (.tmp 6) (.tmp 129) ?_ (hsz:=z1) (h1:=ev_one _)
    go_wp2_with fail
    refine bR1 (W.heap.size + 1) (z2.set _) Tryz.underlying36 ?_
    rw [HR2.out]
    exact (r4.row hg0 hg1 _).fin hB _
   ·by_cases hc : m.closed = 0
    ·have HR2 : RowKit.Hid (R = (Ev.zero, m.turn n 4 who 0)):=Lib.hid (by rw [HR.out, if_neg (by simp [hc]; omega)])
     have hc' : ¬ (0 : Int) < m.closed:=by omega
     clear hc HR hst0 hcb
     go_wp2_with fail
     go_quiet (fail)
     clear kc ku kb kU kS k8
     have hb3 : Below w2.heap.size w2 (w2.drewN nq):=bdrewN (Below.refl _ _) nq
     have r3:=r2.below hb3
     have e3:=e2.below hb3
     have a3:=a2.below hb3
     have kA:=a3.cell 4
     generalize hwz : w2.drewN nq = w3 at *
     clear hwz hb3 r2 e2 a2
     have hem:=q_do r3.at' n 4 n 4 who 0 _ HS.out rfl rfl (by simp [Done])
     rw [r3.mb] at hem
     go_wp2_with fail
     refine hem.mono ?_
     rintro e w4 ⟨rfl, h4, hc4⟩
     have r4:=r3.slots h4 hc4
     have e4:=e3.chg hc4 (fun e => r3.not hg0 hg1 (.inr (.inl e)))
     clear hem h4 hc4 r3 e3 a3 kA
     go_upto_region 33 with (fail)
     obtain ⟨Z, z1, z2⟩:=e4
     refine wp_region_lit ?_
     refine RowL.gl (Ev.zero).val ?_ (by go_simp; try rfl)
     refine RowL.gSt z2 (Ev.zero).cells 36 (.tmp 6) (.tmp 129) ?_ (hsz:=z1) (h1:=ev_one _)
     go_wp2_with fail
     refine bR1 (W.heap.size + 1) (z2.set _) Tryz.underlying36 ?_
     rw [HR2.out]
     exact (r4.row hg0 hg1 _).fin hB _
    ·have HR2 : RowKit.Hid (R = (Ev.zero, m.empty n)):=Lib.hid (by rw [HR.out, if_pos (by simp [hc])])
     have hc' : (0 : Int) < m.closed:=by omega
     clear hc HR hst0 hcb
     go_wp2_with fail
     go_quiet (fail)
     clear kc ku kb kU kS k8
     have hb3 : Below w2.heap.size w2 (w2.drewN nq):=bdrewN (Below.refl _ _) nq
     have r3:=r2.below hb3
     have e3:=e2.below hb3
     have a3:=a2.below hb3
     have kA:=a3.cell 4
     generalize hwz : w2.drewN nq = w3 at *
     clear hwz hb3 r2 e2 a2
     have hem:=q_empty r3.at' n n _ HS.out rfl
     rw [r3.mb] at hem
     go_wp2_with fail
     refine hem.mono ?_
     rintro e w4 ⟨⟨v4, rfl⟩, h4, hc4⟩
     have r4:=r3.slots h4 hc4
     have e4:=e3.chg hc4 (fun e => r3.not hg0 hg1 (.inr (.inl e)))
     clear hem h4 hc4 r3 e3 a3 kA
     go_upto_region 33 with (fail)
     obtain ⟨Z, z1, z2⟩:=e4
     refine wp_region_lit ?_
     refine RowL.gl (Ev.zero).val ?_ (by go_simp; try rfl)
     refine RowL.gSt z2 (Ev.zero).cells 36 (.tmp 6) (.tmp 129) ?_ (hsz:=z1) (h1:=ev_one _)
     go_wp2_with fail
     refine bR1 (W.heap.size + 1) (z2.set _) Tryz.underlying36 ?_
     rw [HR2.out]
     exact (r4.row hg0 hg1 _).fin hB _
  ·have HR2 : RowKit.Hid (R = (Ev.zero, m.empty n)):=Lib.hid (by rw [HR.out, if_pos (by simp)])
   clear HR hst0 hcb
   go_wp2_with fail
   go_quiet (fail)
   clear kc ku kb kU kS k8
   have hb3 : Below w2.heap.size w2 (w2.drewN nq):=bdrewN (Below.refl _ _) nq
   have r3:=r2.below hb3
   have e3:=e2.below hb3
   have a3:=a2.below hb3
   have kA:=a3.cell 4
   generalize hwz : w2.drewN nq = w3 at *
   clear hwz hb3 r2 e2 a2
   have hem:=q_empty r3.at' n n _ HS.out rfl
   rw [r3.mb] at hem
   go_wp2_with fail
   refine hem.mono ?_
   rintro e w4 ⟨⟨v4, rfl⟩, h4, hc4⟩
   have r4:=r3.slots h4 hc4
   have e4:=e3.chg hc4 (fun e => r3.not hg0 hg1 (.inr (.inl e)))
   clear hem h4 hc4 r3 e3 a3 kA
   go_upto_region 33 with (fail)
   obtain ⟨Z, z1, z2⟩:=e4
   refine wp_region_lit ?_
   refine RowL.gl (Ev.zero).val ?_ (by go_simp; try rfl)
   refine RowL.gSt z2 (Ev.zero).cells 36 (.tmp 6) (.tmp 129) ?_ (hsz:=z1) (h1:=ev_one _)
   go_wp2_with fail
   refine bR1 (W.heap.size + 1) (z2.set _) Tryz.underlying36 ?_
   rw [HR2.out]
   exact (r4.row hg0 hg1 _).fin hB _
 ·have hs0' : (0 : Int) < s2:=by omega
  have HR2 : RowKit.Hid (R = (M.failed 8, m)):=Lib.hid (by rw [HR.out, if_pos ⟨hst0, by first | rfl | trivial⟩])
  clear HR hst0 hcb
  go_upto_region 10 with (fail)
  obtain ⟨Z, z1, z2⟩:=e2
  refine wp_region_lit ?_
  refine RowL.gl ((M.failed 8)).val ?_ (by go_simp; try rfl)
  refine RowL.gSt z2 ((M.failed 8)).cells 36 (.tmp 6) (.tmp 41) ?_ (hsz:=z1) (h1:=ev_one _)
  go_wp2_with fail
  refine bR1 (W.heap.size + 1) (z2.set _) Tryz.underlying36 ?_
  rw [HR2.out]
  exact (r2.row hg0 hg1 _).fin hB _
theorem q_discard {W : World} {p : Ql} {m : M} (h : QAt W p m) (who : Int) (a : Ask) (hop : a.op = 2) :
  Calls Tryz.prog 43 #[.pointer (some ⟨p.mb, 0, none⟩), .i who, a.val] W (QPost W p (m.give who a true).1.val (m.give who a true).2):=by
 have hR : RowKit.Hid (m.give who a true = if m.owns who a ≠ 0 then (M.failed (m.owns who a), m) else if (m.slot a.slot.toNat).streams ≠ 0 ∧ true = false then (M.failed 8, m) else (Ev.zero, if true = true ∨ (m.slot a.slot.toNat).broken = true ∨ m.cf.uses ≤ (m.slot a.slot.toNat).uses ∨ m.closed ≠ 0 then m.empty a.slot.toNat else m.turn a.slot.toNat 4 who 0)):=rfl
 generalize m.give who a true = R at *
 have hlt : p.mb < W.heap.size:=h.lt (.inl rfl)
 have how:=owns_has m who a
 have hos : RowKit.Hid (m.owns who a = 0 → m.closed ≠ 2 ∧ ∃ (n : Nat) (s : S), a.slot = n ∧ m.ss[n]? = some s ∧ s.state = 3 ∧ s.own = who ∧ s.gen = a.gen):=fun h => owns_zero h
 have hha:=fun W (h : QAt W p m) => q_has h who a
 generalize m.owns who a = q at *
 generalize m.hasL who a = b at *
 obtain ⟨op, dl, wt, fo, sl, ge, st⟩:=a
 simp only at hop
 subst hop
 simp only [Ask.val, Ask.cells] at *
 have hB : Below W.heap.size W ((W.alloc (.cells (Ad 2 dl wt fo sl ge st) 25)).alloc (.cells Zv 36)):=((Below.refl _ _).alloc (Nat.le_refl _) _).alloc (by simp) _
 have r0 : Rq W.heap.size ((W.alloc (.cells (Ad 2 dl wt fo sl ge st) 25)).alloc (.cells Zv 36)) p ((W.alloc (.cells (Ad 2 dl wt fo sl ge st) 25)).alloc (.cells Zv 36)) p m:=Rq.begin h hB
 have e0 : ERow ((W.alloc (.cells (Ad 2 dl wt fo sl ge st) 25)).alloc (.cells Zv 36)) (W.heap.size + 1):=⟨Zv, rfl, heap_alloc2_new W _ _⟩
 have hg1 : W.heap.size + 1 < ((W.alloc (.cells (Ad 2 dl wt fo sl ge st) 25)).alloc (.cells Zv 36)).heap.size:=by simp
 have hg0 : W.heap.size ≤ W.heap.size + 1:=by omega
 have a0 : RowAt ((W.alloc (.cells (Ad 2 dl wt fo sl ge st) 25)).alloc (.cells Zv 36)) W.heap.size (Ad 2 dl wt fo sl ge st) 25:=heap_alloc2_old W _ _
 have ho:=hha _ r0.at'
 have HOW:=Lib.hid how
 have l0:=a0.cell 0
 clear hha how h
 go_enter Tryz.func43, Tryz.ntmps43
 go_upto_region 1 with (fail)
 generalize hw0 : ((W.alloc (.cells (Ad 2 dl wt fo sl ge st) 25)).alloc (.cells Zv 36)) = wb at *
 clear hw0 l0
 refine wp_region_lit ?_
 refine RowL.gl (.pointer (some ⟨p.mb, 0, none⟩)) ?_ (by go_simp; try rfl)
 refine RowL.gl (.i who) ?_ (by go_simp; try rfl)
 refine RowL.grow a0 25 (.tmp 5) Tryz.underlying25 ?_
 go_wp2_with fail
 refine ho.mono ?_
 rintro e w1 ⟨rfl, hb1⟩
 have r1:=r0.below hb1
 have e1:=e0.below hb1
 have a1:=a0.below hb1
 have k8:=r1.at'.hd.c8
 rw [r1.mb] at k8
 clear ho hb1 r0 e0 a0
 by_cases hc2 : m.closed = 2
 ·have HR2 : RowKit.Hid (R = (M.failed 5, m)):=Lib.hid (by have h1:=HOW.out; rw [if_pos hc2] at h1; rw [hR.out, h1, if_pos (by simp)])
  rw [hc2] at k8
  clear hos hR a1 hc2 HOW
  go_upto_region 3 with (fail)
  obtain ⟨Z, z1, z2⟩:=e1
  refine wp_region_lit ?_
  refine RowL.gl ((M.failed 5)).val ?_ (by go_simp; try rfl)
  refine RowL.gSt z2 ((M.failed 5)).cells 36 (.tmp 6) (.tmp 22) ?_ (hsz:=z1) (h1:=ev_one _)
  go_wp2_with fail
  refine bR1 (W.heap.size + 1) (z2.set _) Tryz.underlying36 ?_
  rw [HR2.out]
  exact (r1.row hg0 hg1 _).fin hB _
 have hc2' : (m.closed == 2) = false:=by simpa using hc2
 cases b
 ·have HR2 : RowKit.Hid (R = (M.failed 2, m)):=Lib.hid (by have h1:=HOW.out; rw [if_neg hc2, if_neg (by simp)] at h1; rw [hR.out, h1, if_pos (by simp)])
  clear hos hR a1 hc2 HOW
  go_upto_region 5 with (fail)
  obtain ⟨Z, z1, z2⟩:=e1
  refine wp_region_lit ?_
  refine RowL.gl ((M.failed 2)).val ?_ (by go_simp; try rfl)
  refine RowL.gSt z2 ((M.failed 2)).cells 36 (.tmp 6) (.tmp 25) ?_ (hsz:=z1) (h1:=ev_one _)
  go_wp2_with fail
  refine bR1 (W.heap.size + 1) (z2.set _) Tryz.underlying36 ?_
  rw [HR2.out]
  exact (r1.row hg0 hg1 _).fin hB _
 have hq : q = 0:=by have h1:=HOW.out; rw [if_neg hc2, if_pos rfl] at h1; exact h1
 obtain ⟨hcl2, n, s, hn, hs, hs3, hso, hsg⟩:=hos.out hq
 try simp only at hn hsg
 subst hn
 have HS:=Lib.hid hs
 have hsl : m.slot n = s:=M.slot_of hs
 have HR:=Lib.hid hR.out
 rw [if_neg (by first | simp [hq] | exact fun e => e hq | exact not_not_intro hq)] at HR
 try simp only [Int.toNat_natCast, hsl] at HR
 have hil : n < m.ss.length:=(List.getElem?_eq_some_iff.1 hs).1
 have hns:=r1.at'.ok.ns
 have b0 : (0 : Int) ≤ (n : Int):=by omega
 have b1 : (n : Int) < (m.ss.length : Int):=by omega
 have b2 : (n : Int) ≤ (m.ss.length : Int) - 1:=by omega
 clear hos hR hq hs hsl hil HOW hc2 hcl2
 have k5:=r1.at'.hd.c5
 rw [r1.mb, r1.sb] at k5
 have kA : w1.cell? ⟨W.heap.size, 4, none⟩ = some (.i n):=a1.cell 4
 have hd:=r1.at'.slots.get HS.out
 rw [r1.sb] at hd
 obtain ⟨s0, s1, s2, s3, s4, s5, s6, s7, s8⟩:=s
 try simp only at hs3 hso hsg HR hd
 have HS3:=Lib.hid hs3
 have HSO:=Lib.hid hso
 have HSG:=Lib.hid hsg
 clear hs3 hso hsg
 obtain ⟨d0, d1, d2, d3, d4, d5, d6, d7, d8⟩:=hd
 have L5 : ∀ w', Below w1.heap.size w1 w' → w'.cell? ⟨p.mb, 5, none⟩ = some (.slice (some ⟨p.sb, 0, none⟩) m.ss.length m.ss.length):=fun w' h => Field.bkeep h k5
 have LA : ∀ w', Below w1.heap.size w1 w' → w'.cell? ⟨W.heap.size, 4, none⟩ = some (.i n):=fun w' h => Field.bkeep h kA
 have Ls0 : ∀ w', Below w1.heap.size w1 w' → w'.cell? ⟨p.sb, n * 9, none⟩ = some (.i s0):=fun w' h => Field.bkeep h d0
 have Ls1 : ∀ w', Below w1.heap.size w1 w' → w'.cell? ⟨p.sb, n * 9 + 1, none⟩ = some (.i s1):=fun w' h => Field.bkeep h d1
 have Ls2 : ∀ w', Below w1.heap.size w1 w' → w'.cell? ⟨p.sb, n * 9 + 2, none⟩ = some (.i s2):=fun w' h => Field.bkeep h d2
 have Ls3 : ∀ w', Below w1.heap.size w1 w' → w'.cell? ⟨p.sb, n * 9 + 3, none⟩ = some (.bool s3):=fun w' h => Field.bkeep h d3
 have Ls4 : ∀ w', Below w1.heap.size w1 w' → w'.cell? ⟨p.sb, n * 9 + 4, none⟩ = some (.bool s4):=fun w' h => Field.bkeep h d4
 have Ls5 : ∀ w', Below w1.heap.size w1 w' → w'.cell? ⟨p.sb, n * 9 + 5, none⟩ = some (.i s5):=fun w' h => Field.bkeep h d5
 have Ls6 : ∀ w', Below w1.heap.size w1 w' → w'.cell? ⟨p.sb, n * 9 + 6, none⟩ = some (.i s6):=fun w' h => Field.bkeep h d6
 have Ls7 : ∀ w', Below w1.heap.size w1 w' → w'.cell? ⟨p.sb, n * 9 + 7, none⟩ = some (.i s7):=fun w' h => Field.bkeep h d7
 have Ls8 : ∀ w', Below w1.heap.size w1 w' → w'.cell? ⟨p.sb, n * 9 + 8, none⟩ = some (.i s8):=fun w' h => Field.bkeep h d8
 have hKd : Below w1.heap.size w1 w1.drew:=(Below.refl _ _).drew
 clear d0 d1 d2 d3 d4 d5 d6 d7 d8 kA k5
 go_upto_region 6 with (fail)
 go_region_held3 (fun w' => Below w1.heap.size w1 w') (first | assumption | exact ((Below.refl _ _).alloc (Nat.le_refl _) _) | exact ((Below.refl _ _).alloc (Nat.le_refl _) _).drew | exact ((Below.refl _ _).drew.alloc (Nat.le_refl _) _)) (fail)
 clear L5 LA Ls0 Ls1 Ls2 Ls3 Ls4 Ls5 Ls6 Ls7 Ls8 b0 b1 b2 hKd
 have hb2 : Below w1.heap.size w1 ((w1.alloc (.cells (Ac s0 s1 s2 s3 s4 s5 s6 s7 s8) 59)).drew):=((Below.refl _ _).alloc (Nat.le_refl _) _).drew
 have r2:=r1.below hb2
 have e2:=e1.below hb2
 have a2:=a1.below hb2
 have q2 : RowAt ((w1.alloc (.cells (Ac s0 s1 s2 s3 s4 s5 s6 s7 s8) 59)).drew) w1.heap.size (Ac s0 s1 s2 s3 s4 s5 s6 s7 s8) 59:=RowAt.new w1 _ _
 have hgs : W.heap.size + 1 < w1.heap.size:=Nat.lt_of_lt_of_le hg1 r1.size
 clear hb2 r1 e1 a1
 generalize hwz : (w1.alloc (.cells (Ac s0 s1 s2 s3 s4 s5 s6 s7 s8) 59)).drew = w2 at *
 clear hwz
 have kS : w2.cell? ⟨w1.heap.size, 2, none⟩ = some (.i s2):=q2.cell 2
 have kb : w2.cell? ⟨w1.heap.size, 3, none⟩ = some (.bool s3):=q2.cell 3
 have kU : w2.cell? ⟨w1.heap.size, 5, none⟩ = some (.i s5):=q2.cell 5
 have kO : w2.cell? ⟨W.heap.size, 0, none⟩ = some (.i 2):=a2.cell 0
 have HR2 : RowKit.Hid (R = (Ev.zero, m.empty n)):=Lib.hid (by rw [HR.out]; simp)
 clear HR
 have r3:=r2
 have e3:=e2
 have a3:=a2
 have kA:=a3.cell 4
 clear kb kU kS k8 r2 e2 a2
 have hem:=q_empty r3.at' n n _ HS.out rfl
 rw [r3.mb] at hem
 go_wp2_with fail
 refine hem.mono ?_
 rintro e w4 ⟨⟨v4, rfl⟩, h4, hc4⟩
 have r4:=r3.slots h4 hc4
 have e4:=e3.chg hc4 (fun e => r3.not hg0 hg1 (.inr (.inl e)))
 clear hem h4 hc4 r3 e3 a3 kA
 go_upto_region 33 with (fail)
 obtain ⟨Z, z1, z2⟩:=e4
 refine wp_region_lit ?_
 refine RowL.gl (Ev.zero).val ?_ (by go_simp; try rfl)
 refine RowL.gSt z2 (Ev.zero).cells 36 (.tmp 6) (.tmp 129) ?_ (hsz:=z1) (h1:=ev_one _)
 go_wp2_with fail
 refine bR1 (W.heap.size + 1) (z2.set _) Tryz.underlying36 ?_
 rw [HR2.out]
 exact (r4.row hg0 hg1 _).fin hB _
end Go.Proofs.YtpmkgddjgebojaaGreatDoor.Mod
