/- Part 46 of the walks and plain laws that the last text joins. -/
import Derived.Test.YtpmkgddjgebojaaGreatDoorE37
set_option maxRecDepth 100000
set_option maxHeartbeats 16000000
set_option linter.unusedVariables false
set_option linter.unusedSimpArgs false
namespace Go.Proofs.YtpmkgddjgebojaaGreatDoor.Mod
open Go.RowKit Hp Slot RowL Life
def EntryP (W : World) (en : Ending) (W' : World) : Prop:=∃ x : En, en = .returned x.val ∧ x.ok ∧ Below W.heap.size W W'
theorem heap_new_at (w : World) (o : Obj) {k : Nat} (hk : k = w.heap.size) : (w.alloc o).heap[k]? = some o:=by subst hk; exact heap_alloc_new _ _
theorem heap_old_at (w : World) (o : Obj) {k : Nat} (hk : k < w.heap.size) : (w.alloc o).heap[k]? = w.heap[k]?:=Below.heap_alloc _ _ _ hk
theorem ebox0 (W : World) (A B Z cs : Array Value) (nq : Nat) : RowAt (((((W.alloc (.cells A 57)).alloc (.cells B 23)).alloc (.cells Z 54)).drewN nq).alloc (.cells cs 54)) (W.heap.size + 1 + 1 + 1) cs 54 ∧
  RowAt (((((W.alloc (.cells A 57)).alloc (.cells B 23)).alloc (.cells Z 54)).drewN nq).alloc (.cells cs 54)) (W.heap.size + 1 + 1) Z 54 ∧ Below W.heap.size W (((((W.alloc (.cells A 57)).alloc (.cells B 23)).alloc (.cells Z 54)).drewN nq).alloc (.cells cs 54)) :=
 ⟨heap_new_at _ _ (by simp), (heap_old_at _ _ (by simp)).trans (heap_new_at _ _ (by simp)), (bdrewN ((((Below.refl _ _).alloc (Nat.le_refl _) _).alloc (by simp) _).alloc (by simp <;> omega) _) nq).alloc (by simp <;> omega) _⟩
theorem ebox1 (W : World) (A B Z cs L : Array Value) (nq : Nat) : RowAt ((((((W.alloc (.cells A 57)).alloc (.cells B 23)).alloc (.cells Z 54)).drewN nq).alloc (.cells cs 54)).alloc (.cells L 3)) (W.heap.size + 1 + 1 + 1) cs 54 ∧
  RowAt ((((((W.alloc (.cells A 57)).alloc (.cells B 23)).alloc (.cells Z 54)).drewN nq).alloc (.cells cs 54)).alloc (.cells L 3)) (W.heap.size + 1 + 1) Z 54 ∧ Below W.heap.size W ((((((W.alloc (.cells A 57)).alloc (.cells B 23)).alloc (.cells Z 54)).drewN nq).alloc (.cells cs 54)).alloc (.cells L 3)) :=
 have h:=ebox0 W A B Z cs nq
 ⟨(heap_old_at _ _ (by simp)).trans h.1, (heap_old_at _ _ (by simp <;> omega)).trans h.2.1, h.2.2.alloc (by simp <;> omega) _⟩
theorem elate {wx : World} {g : Nat} {cs : Array Value} {u v : Value} (rX : RowAt wx g cs 54) (h6 : cs[6]? = some u) (h7 : cs[7]? = some v) (hv : ∀ x, (cs.setIfInBounds 6 x)[7]? = some v) : (∀ N, (wx.drewN N).cell? ⟨g, 6, none⟩ = some u) ∧
  (∀ N x, ((wx.drewN N).setCell ⟨g, 6, none⟩ x).cell? ⟨g, 7, none⟩ = some v) ∧ (∀ N, (wx.drewN N).frozen? ⟨g, 6, none⟩ = false) ∧ (∀ N x, ((wx.drewN N).setCell ⟨g, 6, none⟩ x).frozen? ⟨g, 7, none⟩ = false) :=
 ⟨fun N => (rX.cell 6).trans h6, fun N x => ((RowAt.setc (w:=wx.drewN N) rX 6 x).cell 7).trans (hv x), fun N => RowAt.frozen (w:=wx.drewN N) rX 6, fun N x => (RowAt.setc (w:=wx.drewN N) rX 6 x).frozen 7⟩
theorem elate2 {W wx : World} {Z : Array Value} (rR : RowAt wx (W.heap.size + 1 + 1) Z 54) (hB : Below W.heap.size W wx) (N : Nat) (x y : Value) : RowAt (((wx.drewN N).setCell ⟨W.heap.size + 1 + 1 + 1, 6, none⟩ x).setCell ⟨W.heap.size + 1 + 1 + 1, 7, none⟩ y) (W.heap.size + 1 + 1) Z 54 ∧
  Below W.heap.size W (((wx.drewN N).setCell ⟨W.heap.size + 1 + 1 + 1, 6, none⟩ x).setCell ⟨W.heap.size + 1 + 1 + 1, 7, none⟩ y) :=
 ⟨(heap_setCell_other _ _ _ _ (by simp)).trans ((heap_setCell_other _ _ _ _ (by simp)).trans rR), ((bdrewN hB N).setCell (p:=⟨W.heap.size + 1 + 1 + 1, 6, none⟩) (by simp <;> omega) x).setCell (p:=⟨W.heap.size + 1 + 1 + 1, 7, none⟩) (by simp <;> omega) y⟩
theorem entry_any (W : World) (k w o s g n : Int) (hk : 0 ≤ k ∧ k < 256) (hw : 0 ≤ w ∧ w < 256) (ho : 0 ≤ o ∧ o < 256) (hs : 0 ≤ s ∧ s < 256) (hg : 0 ≤ g ∧ g < 256) (hn : 0 ≤ n ∧ n < 256)
  (c : Conf.Cf) (hc : c.right = true) (v : Value) (l : List Ev) (hl : l.length ≤ 1000) (hv : EvsAt W v l) :
  Calls Tryz.prog 21 #[.agg #[.int .u8 k, .int .u8 w, .int .u8 o, .int .u8 s, .int .u8 g, .int .u8 n], c.val, v] W (EntryP W):=by
 simp [Conf.Cf.right, Conf.btw] at hc
 obtain ⟨cw, cs, cst, cwa, cu⟩:=c
 simp only [Conf.Cf.val, Conf.Cf.cells] at *
 obtain ⟨k0, k1⟩:=hk
 obtain ⟨w0, w1⟩:=hw
 obtain ⟨o0, o1⟩:=ho
 obtain ⟨s0, s1⟩:=hs
 obtain ⟨g0, g1⟩:=hg
 obtain ⟨n0, n1⟩:=hn
 have hcw : 1 ≤ cw ∧ cw ≤ 8:=by omega
 clear hc
 obtain ⟨cw0, cw1⟩:=hcw
 have hwr : IntKind.i64.wrap (cw + 1) = cw + 1:=IntWalk.i64_in _ (by omega)
 have hle : ∀ W', Below W.heap.size W W' → ∀ u, Calls Tryz.prog 59 #[v, .i u] W' (LeaseP W'):=fun W' hb u => lease_any W' v l hl (hv.stable hb.size (fun k hk => hb.block k (hv.lt hk))) u
 have hidx : ∃ z : Int, ((Aa 0 0 1 1 3) : Array Value)[(o % 5).toNat]? = some (.i z):=by
  have h5 : o % 5 = 0 ∨ o % 5 = 1 ∨ o % 5 = 2 ∨ o % 5 = 3 ∨ o % 5 = 4:=by omega
  rcases h5 with h | h | h | h | h <;> rw [h] <;> exact ⟨_, rfl⟩
 obtain ⟨z, hz⟩:=hidx
 have HV:=Lib.hid hv
 have HLE:=Lib.hid hle
 clear hv hl hle
 go_enter Tryz.func21, Tryz.ntmps21
 go_wp2_with fail
 go_quiet (fail)
 clear hwr
 have ht : ((k < 60) ∨ (60 ≤ k ∧ k < 230) ∨ (230 ≤ k ∧ k < 238) ∨ (238 ≤ k ∧ k < 246) ∨ (246 ≤ k ∧ k < 252) ∨ (252 ≤ k)):=by omega
 have hoo : o < 100 ∨ 100 ≤ o:=by omega
 have hss : s < 60 ∨ 60 ≤ s:=by omega
 rcases ht with ht | ht | ht | ht | ht | ht
 ·have ht0:=ht
  rcases hoo with hoo | hoo
  ·go_upto_if 106 with (fail)
   obtain ⟨rX, rR, hB⟩:=ebox0 W #[.int .u8 k, .int .u8 w, .int .u8 o, .int .u8 s, .int .u8 g, .int .u8 n] (Aa cw cs cst cwa cu) (Ab 0 0 0 0 false false 0 0 0 0 false) (Ab 0 (wrap64 (w % (cw + 1) - w / 250)) (o % 9) n (n % 2 == 1) (n % 5 == 0) (s % 6) (g % 4) (n % 4) (n % 16) (decide (0 < n % 3))) nq
   generalize (((((W.alloc (.cells #[.int .u8 k, .int .u8 w, .int .u8 o, .int .u8 s, .int .u8 g, .int .u8 n] 57)).alloc (.cells (Aa cw cs cst cwa cu) 23)).alloc (.cells (Ab 0 0 0 0 false false 0 0 0 0 false) 54)).drewN nq).alloc (.cells (Ab 0 (wrap64 (w % (cw + 1) - w / 250)) (o % 9) n (n % 2 == 1) (n % 5 == 0) (s % 6) (g % 4) (n % 4) (n % 16) (decide (0 < n % 3))) 54)) = wx at rX rR hB ⊢
   have hlt : W.heap.size ≤ W.heap.size + 1 + 1:=by omega
   rcases hss with hss | hss
   ·skip
    go_upto_region 21 with (fail)
    refine wp_region_lit ?_
    refine grow rX 54 (.tmp 8) Tryz.underlying54 ?_
    refine gSt rR (Ab 0 (wrap64 (w % (cw + 1) - w / 250)) (o % 9) n (n % 2 == 1) (n % 5 == 0) (s % 6) (g % 4) (n % 4) (n % 16) (decide (0 < n % 3))) 54 (.tmp 6) (.tmp 119) ?_
    go_wp2_with fail
    refine bR1 (W.heap.size + 1 + 1) (rR.set _) (Tryz.underlying54) ?_
    exact ⟨⟨0, (wrap64 (w % (cw + 1) - w / 250)), ⟨(o % 9), n, n % 2 == 1, n % 5 == 0, s % 6, g % 4, n % 4⟩, n % 16, decide (0 < n % 3)⟩, rfl, ⟨⟨by dsimp only; omega, by dsimp only; omega⟩, by dsimp only; omega, by dsimp only; omega⟩, below_setRow hB hlt _⟩
   ·have hl:=HLE.out wx hB (wrap64 (w % (cw + 1) - w / 250))
    obtain ⟨c6, c7, f6, f7⟩:=elate rX rfl rfl (fun _ => rfl)
    go_wp2_with fail
    refine hl.mono ?_
    rintro e w2 ⟨la, lb, rfl, N, rfl⟩
    have rX2:=(((RowAt.setc (w:=wx.drewN N) rX 6 (.i la)).setc 7 (.i lb)))
    obtain ⟨rR2, hB2⟩:=elate2 rR hB N (.i la) (.i lb)
    simp only [List.setIfInBounds_toArray, List.set_cons_succ, List.set_cons_zero] at rX2
    go_upto_region 21 with (fail)
    refine wp_region_lit ?_
    refine grow rX2 54 (.tmp 8) Tryz.underlying54 ?_
    refine gSt rR2 (Ab 0 (wrap64 (w % (cw + 1) - w / 250)) (o % 9) n (n % 2 == 1) (n % 5 == 0) la lb (n % 4) (n % 16) (decide (0 < n % 3))) 54 (.tmp 6) (.tmp 119) ?_
    go_wp2_with fail
    refine bR1 (W.heap.size + 1 + 1) (rR2.set _) (Tryz.underlying54) ?_
    exact ⟨⟨0, (wrap64 (w % (cw + 1) - w / 250)), ⟨(o % 9), n, n % 2 == 1, n % 5 == 0, la, lb, n % 4⟩, n % 16, decide (0 < n % 3)⟩, rfl, ⟨⟨by dsimp only; omega, by dsimp only; omega⟩, by dsimp only; omega, by dsimp only; omega⟩, below_setRow hB2 hlt _⟩
  ·go_upto_if 106 with (fail)
   obtain ⟨rX, rR, hB⟩:=ebox1 W #[.int .u8 k, .int .u8 w, .int .u8 o, .int .u8 s, .int .u8 g, .int .u8 n] (Aa cw cs cst cwa cu) (Ab 0 0 0 0 false false 0 0 0 0 false) (Ab 0 (wrap64 (w % (cw + 1) - w / 250)) z n (n % 2 == 1) (n % 5 == 0) (s % 6) (g % 4) (n % 4) (n % 16) (decide (0 < n % 3))) (Aa 0 0 1 1 3) nq
   generalize ((((((W.alloc (.cells #[.int .u8 k, .int .u8 w, .int .u8 o, .int .u8 s, .int .u8 g, .int .u8 n] 57)).alloc (.cells (Aa cw cs cst cwa cu) 23)).alloc (.cells (Ab 0 0 0 0 false false 0 0 0 0 false) 54)).drewN nq).alloc (.cells (Ab 0 (wrap64 (w % (cw + 1) - w / 250)) z n (n % 2 == 1) (n % 5 == 0) (s % 6) (g % 4) (n % 4) (n % 16) (decide (0 < n % 3))) 54)).alloc (.cells (Aa 0 0 1 1 3) 3)) = wx at rX rR hB ⊢
   have hlt : W.heap.size ≤ W.heap.size + 1 + 1:=by omega
   rcases hss with hss | hss
   ·skip
    go_upto_region 21 with (fail)
    refine wp_region_lit ?_
    refine grow rX 54 (.tmp 8) Tryz.underlying54 ?_
    refine gSt rR (Ab 0 (wrap64 (w % (cw + 1) - w / 250)) z n (n % 2 == 1) (n % 5 == 0) (s % 6) (g % 4) (n % 4) (n % 16) (decide (0 < n % 3))) 54 (.tmp 6) (.tmp 119) ?_
    go_wp2_with fail
    refine bR1 (W.heap.size + 1 + 1) (rR.set _) (Tryz.underlying54) ?_
    exact ⟨⟨0, (wrap64 (w % (cw + 1) - w / 250)), ⟨z, n, n % 2 == 1, n % 5 == 0, s % 6, g % 4, n % 4⟩, n % 16, decide (0 < n % 3)⟩, rfl, ⟨⟨by dsimp only; omega, by dsimp only; omega⟩, by dsimp only; omega, by dsimp only; omega⟩, below_setRow hB hlt _⟩
   ·have hl:=HLE.out wx hB (wrap64 (w % (cw + 1) - w / 250))
    obtain ⟨c6, c7, f6, f7⟩:=elate rX rfl rfl (fun _ => rfl)
    go_wp2_with fail
    refine hl.mono ?_
    rintro e w2 ⟨la, lb, rfl, N, rfl⟩
    have rX2:=(((RowAt.setc (w:=wx.drewN N) rX 6 (.i la)).setc 7 (.i lb)))
    obtain ⟨rR2, hB2⟩:=elate2 rR hB N (.i la) (.i lb)
    simp only [List.setIfInBounds_toArray, List.set_cons_succ, List.set_cons_zero] at rX2
    go_upto_region 21 with (fail)
    refine wp_region_lit ?_
    refine grow rX2 54 (.tmp 8) Tryz.underlying54 ?_
    refine gSt rR2 (Ab 0 (wrap64 (w % (cw + 1) - w / 250)) z n (n % 2 == 1) (n % 5 == 0) la lb (n % 4) (n % 16) (decide (0 < n % 3))) 54 (.tmp 6) (.tmp 119) ?_
    go_wp2_with fail
    refine bR1 (W.heap.size + 1 + 1) (rR2.set _) (Tryz.underlying54) ?_
    exact ⟨⟨0, (wrap64 (w % (cw + 1) - w / 250)), ⟨z, n, n % 2 == 1, n % 5 == 0, la, lb, n % 4⟩, n % 16, decide (0 < n % 3)⟩, rfl, ⟨⟨by dsimp only; omega, by dsimp only; omega⟩, by dsimp only; omega, by dsimp only; omega⟩, below_setRow hB2 hlt _⟩
 ·have ht0:=ht
  rcases hoo with hoo | hoo
  ·go_upto_if 106 with (fail)
   obtain ⟨rX, rR, hB⟩:=ebox0 W #[.int .u8 k, .int .u8 w, .int .u8 o, .int .u8 s, .int .u8 g, .int .u8 n] (Aa cw cs cst cwa cu) (Ab 0 0 0 0 false false 0 0 0 0 false) (Ab 1 (wrap64 (w % (cw + 1) - w / 250)) (o % 9) n (n % 2 == 1) (n % 5 == 0) (s % 6) (g % 4) (n % 4) (n % 16) (decide (0 < n % 3))) nq
   generalize (((((W.alloc (.cells #[.int .u8 k, .int .u8 w, .int .u8 o, .int .u8 s, .int .u8 g, .int .u8 n] 57)).alloc (.cells (Aa cw cs cst cwa cu) 23)).alloc (.cells (Ab 0 0 0 0 false false 0 0 0 0 false) 54)).drewN nq).alloc (.cells (Ab 1 (wrap64 (w % (cw + 1) - w / 250)) (o % 9) n (n % 2 == 1) (n % 5 == 0) (s % 6) (g % 4) (n % 4) (n % 16) (decide (0 < n % 3))) 54)) = wx at rX rR hB ⊢
   have hlt : W.heap.size ≤ W.heap.size + 1 + 1:=by omega
   rcases hss with hss | hss
   ·skip
    go_upto_region 21 with (fail)
    refine wp_region_lit ?_
    refine grow rX 54 (.tmp 8) Tryz.underlying54 ?_
    refine gSt rR (Ab 1 (wrap64 (w % (cw + 1) - w / 250)) (o % 9) n (n % 2 == 1) (n % 5 == 0) (s % 6) (g % 4) (n % 4) (n % 16) (decide (0 < n % 3))) 54 (.tmp 6) (.tmp 119) ?_
    go_wp2_with fail
    refine bR1 (W.heap.size + 1 + 1) (rR.set _) (Tryz.underlying54) ?_
    exact ⟨⟨1, (wrap64 (w % (cw + 1) - w / 250)), ⟨(o % 9), n, n % 2 == 1, n % 5 == 0, s % 6, g % 4, n % 4⟩, n % 16, decide (0 < n % 3)⟩, rfl, ⟨⟨by dsimp only; omega, by dsimp only; omega⟩, by dsimp only; omega, by dsimp only; omega⟩, below_setRow hB hlt _⟩
   ·have hl:=HLE.out wx hB (wrap64 (w % (cw + 1) - w / 250))
    obtain ⟨c6, c7, f6, f7⟩:=elate rX rfl rfl (fun _ => rfl)
    go_wp2_with fail
    refine hl.mono ?_
    rintro e w2 ⟨la, lb, rfl, N, rfl⟩
    have rX2:=(((RowAt.setc (w:=wx.drewN N) rX 6 (.i la)).setc 7 (.i lb)))
    obtain ⟨rR2, hB2⟩:=elate2 rR hB N (.i la) (.i lb)
    simp only [List.setIfInBounds_toArray, List.set_cons_succ, List.set_cons_zero] at rX2
    go_upto_region 21 with (fail)
    refine wp_region_lit ?_
    refine grow rX2 54 (.tmp 8) Tryz.underlying54 ?_
    refine gSt rR2 (Ab 1 (wrap64 (w % (cw + 1) - w / 250)) (o % 9) n (n % 2 == 1) (n % 5 == 0) la lb (n % 4) (n % 16) (decide (0 < n % 3))) 54 (.tmp 6) (.tmp 119) ?_
    go_wp2_with fail
    refine bR1 (W.heap.size + 1 + 1) (rR2.set _) (Tryz.underlying54) ?_
    exact ⟨⟨1, (wrap64 (w % (cw + 1) - w / 250)), ⟨(o % 9), n, n % 2 == 1, n % 5 == 0, la, lb, n % 4⟩, n % 16, decide (0 < n % 3)⟩, rfl, ⟨⟨by dsimp only; omega, by dsimp only; omega⟩, by dsimp only; omega, by dsimp only; omega⟩, below_setRow hB2 hlt _⟩
  ·go_upto_if 106 with (fail)
   obtain ⟨rX, rR, hB⟩:=ebox1 W #[.int .u8 k, .int .u8 w, .int .u8 o, .int .u8 s, .int .u8 g, .int .u8 n] (Aa cw cs cst cwa cu) (Ab 0 0 0 0 false false 0 0 0 0 false) (Ab 1 (wrap64 (w % (cw + 1) - w / 250)) z n (n % 2 == 1) (n % 5 == 0) (s % 6) (g % 4) (n % 4) (n % 16) (decide (0 < n % 3))) (Aa 0 0 1 1 3) nq
   generalize ((((((W.alloc (.cells #[.int .u8 k, .int .u8 w, .int .u8 o, .int .u8 s, .int .u8 g, .int .u8 n] 57)).alloc (.cells (Aa cw cs cst cwa cu) 23)).alloc (.cells (Ab 0 0 0 0 false false 0 0 0 0 false) 54)).drewN nq).alloc (.cells (Ab 1 (wrap64 (w % (cw + 1) - w / 250)) z n (n % 2 == 1) (n % 5 == 0) (s % 6) (g % 4) (n % 4) (n % 16) (decide (0 < n % 3))) 54)).alloc (.cells (Aa 0 0 1 1 3) 3)) = wx at rX rR hB ⊢
   have hlt : W.heap.size ≤ W.heap.size + 1 + 1:=by omega
   rcases hss with hss | hss
   ·skip
    go_upto_region 21 with (fail)
    refine wp_region_lit ?_
    refine grow rX 54 (.tmp 8) Tryz.underlying54 ?_
    refine gSt rR (Ab 1 (wrap64 (w % (cw + 1) - w / 250)) z n (n % 2 == 1) (n % 5 == 0) (s % 6) (g % 4) (n % 4) (n % 16) (decide (0 < n % 3))) 54 (.tmp 6) (.tmp 119) ?_
    go_wp2_with fail
    refine bR1 (W.heap.size + 1 + 1) (rR.set _) (Tryz.underlying54) ?_
    exact ⟨⟨1, (wrap64 (w % (cw + 1) - w / 250)), ⟨z, n, n % 2 == 1, n % 5 == 0, s % 6, g % 4, n % 4⟩, n % 16, decide (0 < n % 3)⟩, rfl, ⟨⟨by dsimp only; omega, by dsimp only; omega⟩, by dsimp only; omega, by dsimp only; omega⟩, below_setRow hB hlt _⟩
   ·have hl:=HLE.out wx hB (wrap64 (w % (cw + 1) - w / 250))
    obtain ⟨c6, c7, f6, f7⟩:=elate rX rfl rfl (fun _ => rfl)
    go_wp2_with fail
    refine hl.mono ?_
    rintro e w2 ⟨la, lb, rfl, N, rfl⟩
    have rX2:=(((RowAt.setc (w:=wx.drewN N) rX 6 (.i la)).setc 7 (.i lb)))
    obtain ⟨rR2, hB2⟩:=elate2 rR hB N (.i la) (.i lb)
    simp only [List.setIfInBounds_toArray, List.set_cons_succ, List.set_cons_zero] at rX2
    go_upto_region 21 with (fail)
    refine wp_region_lit ?_
    refine grow rX2 54 (.tmp 8) Tryz.underlying54 ?_
    refine gSt rR2 (Ab 1 (wrap64 (w % (cw + 1) - w / 250)) z n (n % 2 == 1) (n % 5 == 0) la lb (n % 4) (n % 16) (decide (0 < n % 3))) 54 (.tmp 6) (.tmp 119) ?_
    go_wp2_with fail
    refine bR1 (W.heap.size + 1 + 1) (rR2.set _) (Tryz.underlying54) ?_
    exact ⟨⟨1, (wrap64 (w % (cw + 1) - w / 250)), ⟨z, n, n % 2 == 1, n % 5 == 0, la, lb, n % 4⟩, n % 16, decide (0 < n % 3)⟩, rfl, ⟨⟨by dsimp only; omega, by dsimp only; omega⟩, by dsimp only; omega, by dsimp only; omega⟩, below_setRow hB2 hlt _⟩
 ·have ht0:=ht
  rcases hoo with hoo | hoo
  ·go_upto_if 106 with (fail)
   obtain ⟨rX, rR, hB⟩:=ebox0 W #[.int .u8 k, .int .u8 w, .int .u8 o, .int .u8 s, .int .u8 g, .int .u8 n] (Aa cw cs cst cwa cu) (Ab 0 0 0 0 false false 0 0 0 0 false) (Ab 2 (wrap64 (w % (cw + 1) - w / 250)) (o % 9) n (n % 2 == 1) (n % 5 == 0) (s % 6) (g % 4) (n % 4) (n % 16) (decide (0 < n % 3))) nq
   generalize (((((W.alloc (.cells #[.int .u8 k, .int .u8 w, .int .u8 o, .int .u8 s, .int .u8 g, .int .u8 n] 57)).alloc (.cells (Aa cw cs cst cwa cu) 23)).alloc (.cells (Ab 0 0 0 0 false false 0 0 0 0 false) 54)).drewN nq).alloc (.cells (Ab 2 (wrap64 (w % (cw + 1) - w / 250)) (o % 9) n (n % 2 == 1) (n % 5 == 0) (s % 6) (g % 4) (n % 4) (n % 16) (decide (0 < n % 3))) 54)) = wx at rX rR hB ⊢
   have hlt : W.heap.size ≤ W.heap.size + 1 + 1:=by omega
   rcases hss with hss | hss
   ·skip
    go_upto_region 21 with (fail)
    refine wp_region_lit ?_
    refine grow rX 54 (.tmp 8) Tryz.underlying54 ?_
    refine gSt rR (Ab 2 (wrap64 (w % (cw + 1) - w / 250)) (o % 9) n (n % 2 == 1) (n % 5 == 0) (s % 6) (g % 4) (n % 4) (n % 16) (decide (0 < n % 3))) 54 (.tmp 6) (.tmp 119) ?_
    go_wp2_with fail
    refine bR1 (W.heap.size + 1 + 1) (rR.set _) (Tryz.underlying54) ?_
    exact ⟨⟨2, (wrap64 (w % (cw + 1) - w / 250)), ⟨(o % 9), n, n % 2 == 1, n % 5 == 0, s % 6, g % 4, n % 4⟩, n % 16, decide (0 < n % 3)⟩, rfl, ⟨⟨by dsimp only; omega, by dsimp only; omega⟩, by dsimp only; omega, by dsimp only; omega⟩, below_setRow hB hlt _⟩
   ·have hl:=HLE.out wx hB (wrap64 (w % (cw + 1) - w / 250))
    obtain ⟨c6, c7, f6, f7⟩:=elate rX rfl rfl (fun _ => rfl)
    go_wp2_with fail
    refine hl.mono ?_
    rintro e w2 ⟨la, lb, rfl, N, rfl⟩
    have rX2:=(((RowAt.setc (w:=wx.drewN N) rX 6 (.i la)).setc 7 (.i lb)))
    obtain ⟨rR2, hB2⟩:=elate2 rR hB N (.i la) (.i lb)
    simp only [List.setIfInBounds_toArray, List.set_cons_succ, List.set_cons_zero] at rX2
    go_upto_region 21 with (fail)
    refine wp_region_lit ?_
    refine grow rX2 54 (.tmp 8) Tryz.underlying54 ?_
    refine gSt rR2 (Ab 2 (wrap64 (w % (cw + 1) - w / 250)) (o % 9) n (n % 2 == 1) (n % 5 == 0) la lb (n % 4) (n % 16) (decide (0 < n % 3))) 54 (.tmp 6) (.tmp 119) ?_
    go_wp2_with fail
    refine bR1 (W.heap.size + 1 + 1) (rR2.set _) (Tryz.underlying54) ?_
    exact ⟨⟨2, (wrap64 (w % (cw + 1) - w / 250)), ⟨(o % 9), n, n % 2 == 1, n % 5 == 0, la, lb, n % 4⟩, n % 16, decide (0 < n % 3)⟩, rfl, ⟨⟨by dsimp only; omega, by dsimp only; omega⟩, by dsimp only; omega, by dsimp only; omega⟩, below_setRow hB2 hlt _⟩
  ·go_upto_if 106 with (fail)
   obtain ⟨rX, rR, hB⟩:=ebox1 W #[.int .u8 k, .int .u8 w, .int .u8 o, .int .u8 s, .int .u8 g, .int .u8 n] (Aa cw cs cst cwa cu) (Ab 0 0 0 0 false false 0 0 0 0 false) (Ab 2 (wrap64 (w % (cw + 1) - w / 250)) z n (n % 2 == 1) (n % 5 == 0) (s % 6) (g % 4) (n % 4) (n % 16) (decide (0 < n % 3))) (Aa 0 0 1 1 3) nq
   generalize ((((((W.alloc (.cells #[.int .u8 k, .int .u8 w, .int .u8 o, .int .u8 s, .int .u8 g, .int .u8 n] 57)).alloc (.cells (Aa cw cs cst cwa cu) 23)).alloc (.cells (Ab 0 0 0 0 false false 0 0 0 0 false) 54)).drewN nq).alloc (.cells (Ab 2 (wrap64 (w % (cw + 1) - w / 250)) z n (n % 2 == 1) (n % 5 == 0) (s % 6) (g % 4) (n % 4) (n % 16) (decide (0 < n % 3))) 54)).alloc (.cells (Aa 0 0 1 1 3) 3)) = wx at rX rR hB ⊢
   have hlt : W.heap.size ≤ W.heap.size + 1 + 1:=by omega
   rcases hss with hss | hss
   ·skip
    go_upto_region 21 with (fail)
    refine wp_region_lit ?_
    refine grow rX 54 (.tmp 8) Tryz.underlying54 ?_
    refine gSt rR (Ab 2 (wrap64 (w % (cw + 1) - w / 250)) z n (n % 2 == 1) (n % 5 == 0) (s % 6) (g % 4) (n % 4) (n % 16) (decide (0 < n % 3))) 54 (.tmp 6) (.tmp 119) ?_
    go_wp2_with fail
    refine bR1 (W.heap.size + 1 + 1) (rR.set _) (Tryz.underlying54) ?_
    exact ⟨⟨2, (wrap64 (w % (cw + 1) - w / 250)), ⟨z, n, n % 2 == 1, n % 5 == 0, s % 6, g % 4, n % 4⟩, n % 16, decide (0 < n % 3)⟩, rfl, ⟨⟨by dsimp only; omega, by dsimp only; omega⟩, by dsimp only; omega, by dsimp only; omega⟩, below_setRow hB hlt _⟩
   ·have hl:=HLE.out wx hB (wrap64 (w % (cw + 1) - w / 250))
    obtain ⟨c6, c7, f6, f7⟩:=elate rX rfl rfl (fun _ => rfl)
    go_wp2_with fail
    refine hl.mono ?_
    rintro e w2 ⟨la, lb, rfl, N, rfl⟩
    have rX2:=(((RowAt.setc (w:=wx.drewN N) rX 6 (.i la)).setc 7 (.i lb)))
    obtain ⟨rR2, hB2⟩:=elate2 rR hB N (.i la) (.i lb)
    simp only [List.setIfInBounds_toArray, List.set_cons_succ, List.set_cons_zero] at rX2
    go_upto_region 21 with (fail)
    refine wp_region_lit ?_
    refine grow rX2 54 (.tmp 8) Tryz.underlying54 ?_
    refine gSt rR2 (Ab 2 (wrap64 (w % (cw + 1) - w / 250)) z n (n % 2 == 1) (n % 5 == 0) la lb (n % 4) (n % 16) (decide (0 < n % 3))) 54 (.tmp 6) (.tmp 119) ?_
    go_wp2_with fail
    refine bR1 (W.heap.size + 1 + 1) (rR2.set _) (Tryz.underlying54) ?_
    exact ⟨⟨2, (wrap64 (w % (cw + 1) - w / 250)), ⟨z, n, n % 2 == 1, n % 5 == 0, la, lb, n % 4⟩, n % 16, decide (0 < n % 3)⟩, rfl, ⟨⟨by dsimp only; omega, by dsimp only; omega⟩, by dsimp only; omega, by dsimp only; omega⟩, below_setRow hB2 hlt _⟩
 ·have ht0:=ht
  rcases hoo with hoo | hoo
  ·go_upto_if 106 with (fail)
   obtain ⟨rX, rR, hB⟩:=ebox0 W #[.int .u8 k, .int .u8 w, .int .u8 o, .int .u8 s, .int .u8 g, .int .u8 n] (Aa cw cs cst cwa cu) (Ab 0 0 0 0 false false 0 0 0 0 false) (Ab 3 (wrap64 (w % (cw + 1) - w / 250)) (o % 9) n (n % 2 == 1) (n % 5 == 0) (s % 6) (g % 4) (n % 4) (n % 16) (decide (0 < n % 3))) nq
   generalize (((((W.alloc (.cells #[.int .u8 k, .int .u8 w, .int .u8 o, .int .u8 s, .int .u8 g, .int .u8 n] 57)).alloc (.cells (Aa cw cs cst cwa cu) 23)).alloc (.cells (Ab 0 0 0 0 false false 0 0 0 0 false) 54)).drewN nq).alloc (.cells (Ab 3 (wrap64 (w % (cw + 1) - w / 250)) (o % 9) n (n % 2 == 1) (n % 5 == 0) (s % 6) (g % 4) (n % 4) (n % 16) (decide (0 < n % 3))) 54)) = wx at rX rR hB ⊢
   have hlt : W.heap.size ≤ W.heap.size + 1 + 1:=by omega
   rcases hss with hss | hss
   ·skip
    go_upto_region 21 with (fail)
    refine wp_region_lit ?_
    refine grow rX 54 (.tmp 8) Tryz.underlying54 ?_
    refine gSt rR (Ab 3 (wrap64 (w % (cw + 1) - w / 250)) (o % 9) n (n % 2 == 1) (n % 5 == 0) (s % 6) (g % 4) (n % 4) (n % 16) (decide (0 < n % 3))) 54 (.tmp 6) (.tmp 119) ?_
    go_wp2_with fail
    refine bR1 (W.heap.size + 1 + 1) (rR.set _) (Tryz.underlying54) ?_
    exact ⟨⟨3, (wrap64 (w % (cw + 1) - w / 250)), ⟨(o % 9), n, n % 2 == 1, n % 5 == 0, s % 6, g % 4, n % 4⟩, n % 16, decide (0 < n % 3)⟩, rfl, ⟨⟨by dsimp only; omega, by dsimp only; omega⟩, by dsimp only; omega, by dsimp only; omega⟩, below_setRow hB hlt _⟩
   ·have hl:=HLE.out wx hB (wrap64 (w % (cw + 1) - w / 250))
    obtain ⟨c6, c7, f6, f7⟩:=elate rX rfl rfl (fun _ => rfl)
    go_wp2_with fail
    refine hl.mono ?_
    rintro e w2 ⟨la, lb, rfl, N, rfl⟩
    have rX2:=(((RowAt.setc (w:=wx.drewN N) rX 6 (.i la)).setc 7 (.i lb)))
    obtain ⟨rR2, hB2⟩:=elate2 rR hB N (.i la) (.i lb)
    simp only [List.setIfInBounds_toArray, List.set_cons_succ, List.set_cons_zero] at rX2
    go_upto_region 21 with (fail)
    refine wp_region_lit ?_
    refine grow rX2 54 (.tmp 8) Tryz.underlying54 ?_
    refine gSt rR2 (Ab 3 (wrap64 (w % (cw + 1) - w / 250)) (o % 9) n (n % 2 == 1) (n % 5 == 0) la lb (n % 4) (n % 16) (decide (0 < n % 3))) 54 (.tmp 6) (.tmp 119) ?_
    go_wp2_with fail
    refine bR1 (W.heap.size + 1 + 1) (rR2.set _) (Tryz.underlying54) ?_
    exact ⟨⟨3, (wrap64 (w % (cw + 1) - w / 250)), ⟨(o % 9), n, n % 2 == 1, n % 5 == 0, la, lb, n % 4⟩, n % 16, decide (0 < n % 3)⟩, rfl, ⟨⟨by dsimp only; omega, by dsimp only; omega⟩, by dsimp only; omega, by dsimp only; omega⟩, below_setRow hB2 hlt _⟩
  ·go_upto_if 106 with (fail)
   obtain ⟨rX, rR, hB⟩:=ebox1 W #[.int .u8 k, .int .u8 w, .int .u8 o, .int .u8 s, .int .u8 g, .int .u8 n] (Aa cw cs cst cwa cu) (Ab 0 0 0 0 false false 0 0 0 0 false) (Ab 3 (wrap64 (w % (cw + 1) - w / 250)) z n (n % 2 == 1) (n % 5 == 0) (s % 6) (g % 4) (n % 4) (n % 16) (decide (0 < n % 3))) (Aa 0 0 1 1 3) nq
   generalize ((((((W.alloc (.cells #[.int .u8 k, .int .u8 w, .int .u8 o, .int .u8 s, .int .u8 g, .int .u8 n] 57)).alloc (.cells (Aa cw cs cst cwa cu) 23)).alloc (.cells (Ab 0 0 0 0 false false 0 0 0 0 false) 54)).drewN nq).alloc (.cells (Ab 3 (wrap64 (w % (cw + 1) - w / 250)) z n (n % 2 == 1) (n % 5 == 0) (s % 6) (g % 4) (n % 4) (n % 16) (decide (0 < n % 3))) 54)).alloc (.cells (Aa 0 0 1 1 3) 3)) = wx at rX rR hB ⊢
   have hlt : W.heap.size ≤ W.heap.size + 1 + 1:=by omega
   rcases hss with hss | hss
   ·skip
    go_upto_region 21 with (fail)
    refine wp_region_lit ?_
    refine grow rX 54 (.tmp 8) Tryz.underlying54 ?_
    refine gSt rR (Ab 3 (wrap64 (w % (cw + 1) - w / 250)) z n (n % 2 == 1) (n % 5 == 0) (s % 6) (g % 4) (n % 4) (n % 16) (decide (0 < n % 3))) 54 (.tmp 6) (.tmp 119) ?_
    go_wp2_with fail
    refine bR1 (W.heap.size + 1 + 1) (rR.set _) (Tryz.underlying54) ?_
    exact ⟨⟨3, (wrap64 (w % (cw + 1) - w / 250)), ⟨z, n, n % 2 == 1, n % 5 == 0, s % 6, g % 4, n % 4⟩, n % 16, decide (0 < n % 3)⟩, rfl, ⟨⟨by dsimp only; omega, by dsimp only; omega⟩, by dsimp only; omega, by dsimp only; omega⟩, below_setRow hB hlt _⟩
   ·have hl:=HLE.out wx hB (wrap64 (w % (cw + 1) - w / 250))
    obtain ⟨c6, c7, f6, f7⟩:=elate rX rfl rfl (fun _ => rfl)
    go_wp2_with fail
    refine hl.mono ?_
    rintro e w2 ⟨la, lb, rfl, N, rfl⟩
    have rX2:=(((RowAt.setc (w:=wx.drewN N) rX 6 (.i la)).setc 7 (.i lb)))
    obtain ⟨rR2, hB2⟩:=elate2 rR hB N (.i la) (.i lb)
    simp only [List.setIfInBounds_toArray, List.set_cons_succ, List.set_cons_zero] at rX2
    go_upto_region 21 with (fail)
    refine wp_region_lit ?_
    refine grow rX2 54 (.tmp 8) Tryz.underlying54 ?_
    refine gSt rR2 (Ab 3 (wrap64 (w % (cw + 1) - w / 250)) z n (n % 2 == 1) (n % 5 == 0) la lb (n % 4) (n % 16) (decide (0 < n % 3))) 54 (.tmp 6) (.tmp 119) ?_
    go_wp2_with fail
    refine bR1 (W.heap.size + 1 + 1) (rR2.set _) (Tryz.underlying54) ?_
    exact ⟨⟨3, (wrap64 (w % (cw + 1) - w / 250)), ⟨z, n, n % 2 == 1, n % 5 == 0, la, lb, n % 4⟩, n % 16, decide (0 < n % 3)⟩, rfl, ⟨⟨by dsimp only; omega, by dsimp only; omega⟩, by dsimp only; omega, by dsimp only; omega⟩, below_setRow hB2 hlt _⟩
 ·have ht0:=ht
  rcases hoo with hoo | hoo
  ·go_upto_if 106 with (fail)
   obtain ⟨rX, rR, hB⟩:=ebox0 W #[.int .u8 k, .int .u8 w, .int .u8 o, .int .u8 s, .int .u8 g, .int .u8 n] (Aa cw cs cst cwa cu) (Ab 0 0 0 0 false false 0 0 0 0 false) (Ab 4 (wrap64 (w % (cw + 1) - w / 250)) (o % 9) n (n % 2 == 1) (n % 5 == 0) (s % 6) (g % 4) (n % 4) (n % 16) (decide (0 < n % 3))) nq
   generalize (((((W.alloc (.cells #[.int .u8 k, .int .u8 w, .int .u8 o, .int .u8 s, .int .u8 g, .int .u8 n] 57)).alloc (.cells (Aa cw cs cst cwa cu) 23)).alloc (.cells (Ab 0 0 0 0 false false 0 0 0 0 false) 54)).drewN nq).alloc (.cells (Ab 4 (wrap64 (w % (cw + 1) - w / 250)) (o % 9) n (n % 2 == 1) (n % 5 == 0) (s % 6) (g % 4) (n % 4) (n % 16) (decide (0 < n % 3))) 54)) = wx at rX rR hB ⊢
   have hlt : W.heap.size ≤ W.heap.size + 1 + 1:=by omega
   rcases hss with hss | hss
   ·skip
    go_upto_region 21 with (fail)
    refine wp_region_lit ?_
    refine grow rX 54 (.tmp 8) Tryz.underlying54 ?_
    refine gSt rR (Ab 4 (wrap64 (w % (cw + 1) - w / 250)) (o % 9) n (n % 2 == 1) (n % 5 == 0) (s % 6) (g % 4) (n % 4) (n % 16) (decide (0 < n % 3))) 54 (.tmp 6) (.tmp 119) ?_
    go_wp2_with fail
    refine bR1 (W.heap.size + 1 + 1) (rR.set _) (Tryz.underlying54) ?_
    exact ⟨⟨4, (wrap64 (w % (cw + 1) - w / 250)), ⟨(o % 9), n, n % 2 == 1, n % 5 == 0, s % 6, g % 4, n % 4⟩, n % 16, decide (0 < n % 3)⟩, rfl, ⟨⟨by dsimp only; omega, by dsimp only; omega⟩, by dsimp only; omega, by dsimp only; omega⟩, below_setRow hB hlt _⟩
   ·have hl:=HLE.out wx hB (wrap64 (w % (cw + 1) - w / 250))
    obtain ⟨c6, c7, f6, f7⟩:=elate rX rfl rfl (fun _ => rfl)
    go_wp2_with fail
    refine hl.mono ?_
    rintro e w2 ⟨la, lb, rfl, N, rfl⟩
    have rX2:=(((RowAt.setc (w:=wx.drewN N) rX 6 (.i la)).setc 7 (.i lb)))
    obtain ⟨rR2, hB2⟩:=elate2 rR hB N (.i la) (.i lb)
    simp only [List.setIfInBounds_toArray, List.set_cons_succ, List.set_cons_zero] at rX2
    go_upto_region 21 with (fail)
    refine wp_region_lit ?_
    refine grow rX2 54 (.tmp 8) Tryz.underlying54 ?_
    refine gSt rR2 (Ab 4 (wrap64 (w % (cw + 1) - w / 250)) (o % 9) n (n % 2 == 1) (n % 5 == 0) la lb (n % 4) (n % 16) (decide (0 < n % 3))) 54 (.tmp 6) (.tmp 119) ?_
    go_wp2_with fail
    refine bR1 (W.heap.size + 1 + 1) (rR2.set _) (Tryz.underlying54) ?_
    exact ⟨⟨4, (wrap64 (w % (cw + 1) - w / 250)), ⟨(o % 9), n, n % 2 == 1, n % 5 == 0, la, lb, n % 4⟩, n % 16, decide (0 < n % 3)⟩, rfl, ⟨⟨by dsimp only; omega, by dsimp only; omega⟩, by dsimp only; omega, by dsimp only; omega⟩, below_setRow hB2 hlt _⟩
  ·go_upto_if 106 with (fail)
   obtain ⟨rX, rR, hB⟩:=ebox1 W #[.int .u8 k, .int .u8 w, .int .u8 o, .int .u8 s, .int .u8 g, .int .u8 n] (Aa cw cs cst cwa cu) (Ab 0 0 0 0 false false 0 0 0 0 false) (Ab 4 (wrap64 (w % (cw + 1) - w / 250)) z n (n % 2 == 1) (n % 5 == 0) (s % 6) (g % 4) (n % 4) (n % 16) (decide (0 < n % 3))) (Aa 0 0 1 1 3) nq
   generalize ((((((W.alloc (.cells #[.int .u8 k, .int .u8 w, .int .u8 o, .int .u8 s, .int .u8 g, .int .u8 n] 57)).alloc (.cells (Aa cw cs cst cwa cu) 23)).alloc (.cells (Ab 0 0 0 0 false false 0 0 0 0 false) 54)).drewN nq).alloc (.cells (Ab 4 (wrap64 (w % (cw + 1) - w / 250)) z n (n % 2 == 1) (n % 5 == 0) (s % 6) (g % 4) (n % 4) (n % 16) (decide (0 < n % 3))) 54)).alloc (.cells (Aa 0 0 1 1 3) 3)) = wx at rX rR hB ⊢
   have hlt : W.heap.size ≤ W.heap.size + 1 + 1:=by omega
   rcases hss with hss | hss
   ·skip
    go_upto_region 21 with (fail)
    refine wp_region_lit ?_
    refine grow rX 54 (.tmp 8) Tryz.underlying54 ?_
    refine gSt rR (Ab 4 (wrap64 (w % (cw + 1) - w / 250)) z n (n % 2 == 1) (n % 5 == 0) (s % 6) (g % 4) (n % 4) (n % 16) (decide (0 < n % 3))) 54 (.tmp 6) (.tmp 119) ?_
    go_wp2_with fail
    refine bR1 (W.heap.size + 1 + 1) (rR.set _) (Tryz.underlying54) ?_
    exact ⟨⟨4, (wrap64 (w % (cw + 1) - w / 250)), ⟨z, n, n % 2 == 1, n % 5 == 0, s % 6, g % 4, n % 4⟩, n % 16, decide (0 < n % 3)⟩, rfl, ⟨⟨by dsimp only; omega, by dsimp only; omega⟩, by dsimp only; omega, by dsimp only; omega⟩, below_setRow hB hlt _⟩
   ·have hl:=HLE.out wx hB (wrap64 (w % (cw + 1) - w / 250))
    obtain ⟨c6, c7, f6, f7⟩:=elate rX rfl rfl (fun _ => rfl)
    go_wp2_with fail
    refine hl.mono ?_
    rintro e w2 ⟨la, lb, rfl, N, rfl⟩
    have rX2:=(((RowAt.setc (w:=wx.drewN N) rX 6 (.i la)).setc 7 (.i lb)))
    obtain ⟨rR2, hB2⟩:=elate2 rR hB N (.i la) (.i lb)
    simp only [List.setIfInBounds_toArray, List.set_cons_succ, List.set_cons_zero] at rX2
    go_upto_region 21 with (fail)
    refine wp_region_lit ?_
    refine grow rX2 54 (.tmp 8) Tryz.underlying54 ?_
    refine gSt rR2 (Ab 4 (wrap64 (w % (cw + 1) - w / 250)) z n (n % 2 == 1) (n % 5 == 0) la lb (n % 4) (n % 16) (decide (0 < n % 3))) 54 (.tmp 6) (.tmp 119) ?_
    go_wp2_with fail
    refine bR1 (W.heap.size + 1 + 1) (rR2.set _) (Tryz.underlying54) ?_
    exact ⟨⟨4, (wrap64 (w % (cw + 1) - w / 250)), ⟨z, n, n % 2 == 1, n % 5 == 0, la, lb, n % 4⟩, n % 16, decide (0 < n % 3)⟩, rfl, ⟨⟨by dsimp only; omega, by dsimp only; omega⟩, by dsimp only; omega, by dsimp only; omega⟩, below_setRow hB2 hlt _⟩
 ·have ht0:=ht
  rcases hoo with hoo | hoo
  ·go_upto_if 106 with (fail)
   obtain ⟨rX, rR, hB⟩:=ebox0 W #[.int .u8 k, .int .u8 w, .int .u8 o, .int .u8 s, .int .u8 g, .int .u8 n] (Aa cw cs cst cwa cu) (Ab 0 0 0 0 false false 0 0 0 0 false) (Ab (k - 250) (wrap64 (w % (cw + 1) - w / 250)) (o % 9) n (n % 2 == 1) (n % 5 == 0) (s % 6) (g % 4) (n % 4) (n % 16) (decide (0 < n % 3))) nq
   generalize (((((W.alloc (.cells #[.int .u8 k, .int .u8 w, .int .u8 o, .int .u8 s, .int .u8 g, .int .u8 n] 57)).alloc (.cells (Aa cw cs cst cwa cu) 23)).alloc (.cells (Ab 0 0 0 0 false false 0 0 0 0 false) 54)).drewN nq).alloc (.cells (Ab (k - 250) (wrap64 (w % (cw + 1) - w / 250)) (o % 9) n (n % 2 == 1) (n % 5 == 0) (s % 6) (g % 4) (n % 4) (n % 16) (decide (0 < n % 3))) 54)) = wx at rX rR hB ⊢
   have hlt : W.heap.size ≤ W.heap.size + 1 + 1:=by omega
   rcases hss with hss | hss
   ·skip
    go_upto_region 21 with (fail)
    refine wp_region_lit ?_
    refine grow rX 54 (.tmp 8) Tryz.underlying54 ?_
    refine gSt rR (Ab (k - 250) (wrap64 (w % (cw + 1) - w / 250)) (o % 9) n (n % 2 == 1) (n % 5 == 0) (s % 6) (g % 4) (n % 4) (n % 16) (decide (0 < n % 3))) 54 (.tmp 6) (.tmp 119) ?_
    go_wp2_with fail
    refine bR1 (W.heap.size + 1 + 1) (rR.set _) (Tryz.underlying54) ?_
    exact ⟨⟨(k - 250), (wrap64 (w % (cw + 1) - w / 250)), ⟨(o % 9), n, n % 2 == 1, n % 5 == 0, s % 6, g % 4, n % 4⟩, n % 16, decide (0 < n % 3)⟩, rfl, ⟨⟨by dsimp only; omega, by dsimp only; omega⟩, by dsimp only; omega, by dsimp only; omega⟩, below_setRow hB hlt _⟩
   ·have hl:=HLE.out wx hB (wrap64 (w % (cw + 1) - w / 250))
    obtain ⟨c6, c7, f6, f7⟩:=elate rX rfl rfl (fun _ => rfl)
    go_wp2_with fail
    refine hl.mono ?_
    rintro e w2 ⟨la, lb, rfl, N, rfl⟩
    have rX2:=(((RowAt.setc (w:=wx.drewN N) rX 6 (.i la)).setc 7 (.i lb)))
    obtain ⟨rR2, hB2⟩:=elate2 rR hB N (.i la) (.i lb)
    simp only [List.setIfInBounds_toArray, List.set_cons_succ, List.set_cons_zero] at rX2
    go_upto_region 21 with (fail)
    refine wp_region_lit ?_
    refine grow rX2 54 (.tmp 8) Tryz.underlying54 ?_
    refine gSt rR2 (Ab (k - 250) (wrap64 (w % (cw + 1) - w / 250)) (o % 9) n (n % 2 == 1) (n % 5 == 0) la lb (n % 4) (n % 16) (decide (0 < n % 3))) 54 (.tmp 6) (.tmp 119) ?_
    go_wp2_with fail
    refine bR1 (W.heap.size + 1 + 1) (rR2.set _) (Tryz.underlying54) ?_
    exact ⟨⟨(k - 250), (wrap64 (w % (cw + 1) - w / 250)), ⟨(o % 9), n, n % 2 == 1, n % 5 == 0, la, lb, n % 4⟩, n % 16, decide (0 < n % 3)⟩, rfl, ⟨⟨by dsimp only; omega, by dsimp only; omega⟩, by dsimp only; omega, by dsimp only; omega⟩, below_setRow hB2 hlt _⟩
  ·go_upto_if 106 with (fail)
   obtain ⟨rX, rR, hB⟩:=ebox1 W #[.int .u8 k, .int .u8 w, .int .u8 o, .int .u8 s, .int .u8 g, .int .u8 n] (Aa cw cs cst cwa cu) (Ab 0 0 0 0 false false 0 0 0 0 false) (Ab (k - 250) (wrap64 (w % (cw + 1) - w / 250)) z n (n % 2 == 1) (n % 5 == 0) (s % 6) (g % 4) (n % 4) (n % 16) (decide (0 < n % 3))) (Aa 0 0 1 1 3) nq
   generalize ((((((W.alloc (.cells #[.int .u8 k, .int .u8 w, .int .u8 o, .int .u8 s, .int .u8 g, .int .u8 n] 57)).alloc (.cells (Aa cw cs cst cwa cu) 23)).alloc (.cells (Ab 0 0 0 0 false false 0 0 0 0 false) 54)).drewN nq).alloc (.cells (Ab (k - 250) (wrap64 (w % (cw + 1) - w / 250)) z n (n % 2 == 1) (n % 5 == 0) (s % 6) (g % 4) (n % 4) (n % 16) (decide (0 < n % 3))) 54)).alloc (.cells (Aa 0 0 1 1 3) 3)) = wx at rX rR hB ⊢
   have hlt : W.heap.size ≤ W.heap.size + 1 + 1:=by omega
   rcases hss with hss | hss
   ·skip
    go_upto_region 21 with (fail)
    refine wp_region_lit ?_
    refine grow rX 54 (.tmp 8) Tryz.underlying54 ?_
    refine gSt rR (Ab (k - 250) (wrap64 (w % (cw + 1) - w / 250)) z n (n % 2 == 1) (n % 5 == 0) (s % 6) (g % 4) (n % 4) (n % 16) (decide (0 < n % 3))) 54 (.tmp 6) (.tmp 119) ?_
    go_wp2_with fail
    refine bR1 (W.heap.size + 1 + 1) (rR.set _) (Tryz.underlying54) ?_
    exact ⟨⟨(k - 250), (wrap64 (w % (cw + 1) - w / 250)), ⟨z, n, n % 2 == 1, n % 5 == 0, s % 6, g % 4, n % 4⟩, n % 16, decide (0 < n % 3)⟩, rfl, ⟨⟨by dsimp only; omega, by dsimp only; omega⟩, by dsimp only; omega, by dsimp only; omega⟩, below_setRow hB hlt _⟩
   ·have hl:=HLE.out wx hB (wrap64 (w % (cw + 1) - w / 250))
    obtain ⟨c6, c7, f6, f7⟩:=elate rX rfl rfl (fun _ => rfl)
    go_wp2_with fail
    refine hl.mono ?_
    rintro e w2 ⟨la, lb, rfl, N, rfl⟩
    have rX2:=(((RowAt.setc (w:=wx.drewN N) rX 6 (.i la)).setc 7 (.i lb)))
    obtain ⟨rR2, hB2⟩:=elate2 rR hB N (.i la) (.i lb)
    simp only [List.setIfInBounds_toArray, List.set_cons_succ, List.set_cons_zero] at rX2
    go_upto_region 21 with (fail)
    refine wp_region_lit ?_
    refine grow rX2 54 (.tmp 8) Tryz.underlying54 ?_
    refine gSt rR2 (Ab (k - 250) (wrap64 (w % (cw + 1) - w / 250)) z n (n % 2 == 1) (n % 5 == 0) la lb (n % 4) (n % 16) (decide (0 < n % 3))) 54 (.tmp 6) (.tmp 119) ?_
    go_wp2_with fail
    refine bR1 (W.heap.size + 1 + 1) (rR2.set _) (Tryz.underlying54) ?_
    exact ⟨⟨(k - 250), (wrap64 (w % (cw + 1) - w / 250)), ⟨z, n, n % 2 == 1, n % 5 == 0, la, lb, n % 4⟩, n % 16, decide (0 < n % 3)⟩, rfl, ⟨⟨by dsimp only; omega, by dsimp only; omega⟩, by dsimp only; omega, by dsimp only; omega⟩, below_setRow hB2 hlt _⟩
end Go.Proofs.YtpmkgddjgebojaaGreatDoor.Mod
