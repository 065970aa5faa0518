/- Part 2 of the walks and plain laws that the last text joins. -/
import Derived.Test.YteadpgiffpfmnaaGreatDoorQ1
import Derived.Laws.StructEq
import Derived.Laws.Small
import Derived.Deep.WholeRow
import Derived.Laws.EntriesVeiled
import Derived.MapKept
import Derived.Carry
import Derived.Deep.DeepCutAuto
import Derived.Laws.MakeOwn
import Derived.Lib.SliceRun
import Derived.Laws.AppendOwn
import Derived.Test.YteadpgiffpfmnaaGreatDoorRows
import Derived.LaidMore
import Derived.Stop.Joined
set_option maxRecDepth 100000
set_option maxHeartbeats 16000000
set_option linter.unusedVariables false
set_option linter.unusedSimpArgs false
namespace Go.Proofs.YteadpgiffpfmnaaGreatDoor.Field
open Go.RowKit Hp
def packOk : List (Nat × Nat) → List Int → Bool
 | x :: l, v :: vs => decide (0 ≤ v) && (decide (v ≤ (mx x.2 : Int)) && packOk l vs)
 | _, _ => true
theorem packOk_step {l : List (Nat × Nat)} {xs : List Int} {k : Nat} {x : Nat × Nat} {v : Int} (hx : l[k]? = some x) (hv : xs[k]? = some v) :
  packOk (l.drop k) (xs.drop k) = (decide (0 ≤ v) && (decide (v ≤ (mx x.2 : Int)) && packOk (l.drop (k + 1)) (xs.drop (k + 1)))):=by
 obtain ⟨h1, rfl⟩:=List.getElem?_eq_some_iff.1 hx
 obtain ⟨h2, rfl⟩:=List.getElem?_eq_some_iff.1 hv
 rw [List.drop_eq_getElem_cons h1, List.drop_eq_getElem_cons h2]; rfl
def PkK (w : World) (g : Nat) (l : List (Nat × Nat)) (g2 : Nat) (o2 : Nat) (xs : List Int) (W : World) : Prop :=
 FAt W g l ∧ (∀ i x, xs[i]? = some x → W.cell? ⟨g2, o2 + i, none⟩ = some (.i x)) ∧ Below w.heap.size w W
theorem PkK.later {w : World} {g g2 o2 : Nat} {l : List (Nat × Nat)} {xs : List Int} {W W' : World} (h : PkK w g l g2 o2 xs W) (hg : g < w.heap.size) (hb : Below W.heap.size W W') : PkK w g l g2 o2 xs W':=by
 obtain ⟨h1, h2, h3⟩:=h
 exact ⟨h1.stable (hb.block g (Nat.lt_of_lt_of_le hg h3.size)), fun i x hx => bkeep hb (h2 i x hx), h3.trans (hb.mono h3.size)⟩
theorem pack_any (w : World) (g : Nat) (l : List (Nat × Nat)) (g2 o2 c2 : Nat) (xs : List Int) (hl : l.length ≤ 1000) (h : FAt w g l) (hg : g < w.heap.size) (hR : AllR l) (hD : Disj l)
  (hx : ∀ i x, xs[i]? = some x → w.cell? ⟨g2, o2 + i, none⟩ = some (.i x)) (hxl : xs.length = l.length) (hlo : ∀ x ∈ xs, -9223372036854775808 ≤ x ∧ x ≤ 9223372036854775807) :
  Calls Tryz.prog 134 #[.slice (some ⟨g, 0, none⟩) l.length l.length, .slice (some ⟨g2, o2, none⟩) l.length c2] w fun e w' =>
   ∃ z, e = .returned (.tuple #[.i z, .bool (packOk l xs)]) ∧ Below w.heap.size w w':=by
 have hap:=fun W (hk : PkK w g l g2 o2 xs W) => apart_any W g l hl hk.1 (Nat.lt_of_lt_of_le hg hk.2.2.size) hR hD
 have hK : PkK w g l g2 o2 xs w:=⟨h, hx, Below.refl _ _⟩
 have HR:=Lib.hid hR
 have HL:=Lib.hid hxl
 clear hR hD hxl h hx
 have hne : ((l.length : Int) != (l.length : Int)) = false:=by simp
 go_enter Tryz.func134, Tryz.ntmps134
 go_wp2_with fail
 refine (hap _ hK).mono ?_
 rintro e w6 ⟨rfl, hb6⟩
 have hK6:=hK.later hg hb6
 clear hK hb6 hap
 go_wp2_with fail
 go_loopw [6, 21] (fun zv iv wr => ∃ (k : Nat) (z : Int), zv = .i z ∧ iv = .i k ∧ k ≤ l.length ∧ RowKit.Hid (packOk l xs = packOk (l.drop k) (xs.drop k)) ∧ PkK w g l g2 o2 xs wr) (fun _ iv _ => l.length - (intOf iv).toNat)
 case atStart => exact ⟨0, 0, rfl, rfl, by omega, rfl, hK6⟩
 case round =>
  obtain ⟨k, z, rfl, rfl, hk, hP, hKr⟩:=hrel
  by_cases hlt : k < l.length
  ·obtain ⟨x, hx⟩ : ∃ x, l[k]? = some x:=⟨_, List.getElem?_eq_getElem hlt⟩
   obtain ⟨v, hv⟩ : ∃ v, xs[k]? = some v:=⟨_, List.getElem?_eq_getElem (by have:=HL.out; omega)⟩
   obtain ⟨hd0, hd1⟩:=hKr.1 k x hx
   have hcv:=hKr.2.1 k v hv
   obtain ⟨hv0, hv1⟩:=hlo v (List.mem_of_getElem? hv)
   have hRx:=HR.out x (List.mem_of_getElem? hx)
   have hP2:=Lib.hid (hP.out.trans (packOk_step hx hv))
   have hA:=(Below.refl wr.heap.size wr).alloc (Nat.le_refl _) (.cells #[.i x.1, .i x.2] 131)
   have hKA:=hKr.later hg hA
   have hcA:=hKA.2.1 k v hv
   have hf0 : (wr.alloc (.cells #[.i x.1, .i x.2] 131)).cell? ⟨wr.heap.size, 0, none⟩ = some (.i x.1):=by simp
   have hf1 : (wr.alloc (.cells #[.i x.1, .i x.2] 131)).cell? ⟨wr.heap.size, 1, none⟩ = some (.i x.2):=by simp
   have hmx:=mx_lt (show x.2 ≤ 62 by unfold R at hRx; omega)
   clear hx hv hP hcv
   by_cases hneg : v < 0
   ·have hP3 : packOk l xs = false:=by rw [hP2.out]; simp; omega
    clear hP2
    have HP3:=Lib.hid hP3
    clear hP3
    go_wp2_with fail
    generalize wr.alloc (.cells #[.i x.1, .i x.2] 131) = wa at *
    generalize wr.heap.size = fb at *
    have hKd : PkK w g l g2 o2 xs wa.drew:=⟨hKA.1, hKA.2.1, hKA.2.2.drew⟩
    have hng : decide (v < 0) = true:=by simpa using hneg
    go_region
    go_wp2_with fail
    go_ret2
    exact ⟨0, by rw [HP3.out]; rfl, hKd.2.2⟩
   ·go_wp2_with fail
    generalize wr.alloc (.cells #[.i x.1, .i x.2] 131) = wa at *
    generalize wr.heap.size = fb at *
    have hKd : PkK w g l g2 o2 xs wa.drew:=⟨hKA.1, hKA.2.1, hKA.2.2.drew⟩
    have hng : decide (v < 0) = false:=by simpa using hneg
    by_cases hbig : (mx x.2 : Int) < v
    ·have hbg : decide ((mx x.2 : Int) < v) = true:=by simpa using hbig
     have hP3 : packOk l xs = false:=by rw [hP2.out]; simp; omega
     clear hP2
     have HP3:=Lib.hid hP3
     clear hP3
     go_region_held3 (fun w' => w'.cell? ⟨g2, o2 + k, none⟩ = some (.i v) ∧ w'.cell? ⟨fb, 0, none⟩ = some (.i x.1) ∧ w'.cell? ⟨fb, 1, none⟩ = some (.i x.2)) (first | go_keep | exact ⟨by assumption, by assumption, by assumption⟩)
      ((first
      | (go_at_call 145; refine (max_any _ _ _ hRx).mono ?_; rintro e w7 ⟨rfl, hb7⟩; have hK7:=hKd.later hg hb7; have hcA:=bkeep hb7 hcA; have hf0:=bkeep hb7 hf0; have hf1:=bkeep hb7 hf1)))
     go_wp2_with fail
     go_ret2
     exact ⟨0, by rw [HP3.out]; rfl, hK7.2.2⟩
    ·have hbg : decide ((mx x.2 : Int) < v) = false:=by simpa using hbig
     have hP3 : packOk l xs = packOk (l.drop (k + 1)) (xs.drop (k + 1)):=by rw [hP2.out, decide_eq_true (by omega : 0 ≤ v), decide_eq_true (by omega : v ≤ (mx x.2 : Int))]; rfl
     have HP3:=Lib.hid hP3
     clear hP2 hP3
     go_region_held3 (fun w' => w'.cell? ⟨g2, o2 + k, none⟩ = some (.i v) ∧ w'.cell? ⟨fb, 0, none⟩ = some (.i x.1) ∧ w'.cell? ⟨fb, 1, none⟩ = some (.i x.2)) (first | go_keep | exact ⟨by assumption, by assumption, by assumption⟩)
      ((first
      | (go_at_call 145; refine (max_any _ _ _ hRx).mono ?_; rintro e w7 ⟨rfl, hb7⟩; have hK7:=hKd.later hg hb7; have hcB:=bkeep hb7 hcA; have hf2:=bkeep hb7 hf0; have hf3:=bkeep hb7 hf1)))
     have hKd7 : PkK w g l g2 o2 xs w7.drew:=⟨hK7.1, hK7.2.1, hK7.2.2.drew⟩
     clear hcA hf0 hf1 hb7 hKA hKd hKr hK7 hK6
     go_wp2_with fail
     go_region_held3 (fun w' => w'.cell? ⟨g2, o2 + k, none⟩ = some (.i v) ∧ w'.cell? ⟨fb, 0, none⟩ = some (.i x.1) ∧ w'.cell? ⟨fb, 1, none⟩ = some (.i x.2)) (first | go_keep | exact ⟨by assumption, by assumption, by assumption⟩)
      ((first
      | (go_at_call 147; refine (put_any _ _ _ _ _ hRx).mono ?_; rintro e w8 ⟨⟨z2, rfl⟩, hb8⟩; have hK8:=hKd7.later hg hb8; have hcC:=bkeep hb8 hcB; have hf4:=bkeep hb8 hf2; have hf5:=bkeep hb8 hf3)))
     clear hcB hf2 hf3 hcC hf4 hf5 hb8 hKd7
     go_wp2_with fail
     go_roundw
     case rel => exact ⟨k + 1, z2, by go_num, by go_num, by omega, HP3, hK8⟩
     case measure => simp [intOf]; omega
  ·have hP3 : packOk l xs = true:=by rw [hP.out, List.drop_eq_nil_of_le (by omega)]; rfl
   have HP3:=Lib.hid hP3
   clear hP hP3
   go_wp2_with fail
   go_ret2
   exact ⟨z, by rw [HP3.out]; rfl, hKr.2.2⟩
end Go.Proofs.YteadpgiffpfmnaaGreatDoor.Field
namespace Go.Proofs.YteadpgiffpfmnaaGreatDoor.Slot
open Go.RowKit Hp
structure S where
 state : Int
 own : Int
 streams : Int
 broken : Bool
 marked : Bool
 uses : Int
 gen : Int
 epoch : Int
 version : Int
 deriving DecidableEq
def S.cells (s : S) : Array Value:=(Aa s.state s.own s.streams s.broken s.marked s.uses s.gen s.epoch s.version)
abbrev S.val (s : S) : Value:=.agg s.cells
def bit (b : Bool) : Int:=if b then 1 else 0
def S.bare (s : S) : S :=
 { s with
  streams:=if s.state = 3 then s.streams else 0
  marked:=if s.state = 2 then s.marked else false
  broken:=if s.state = 2 ∨ s.state = 3 ∨ s.state = 4 then s.broken else false
  uses:=if s.state = 2 ∨ s.state = 3 ∨ s.state = 4 then s.uses else 0
  epoch:=if s.state = 6 then s.epoch else 0
  own:=if s.state = 0 ∨ s.state = 6 then 0 else s.own }
theorem bit_any (w : World) (b : Bool) : Calls Tryz.prog 135 #[.bool b] w fun e w' => e = .returned (.i (bit b)) ∧ w = w':=by
 go_enter Tryz.func135, Tryz.ntmps135
 cases b
 ·go_wp2
  go_ret
  exact ⟨rfl, rfl⟩
 ·go_wp2
  go_ret
  exact ⟨rfl, rfl⟩
theorem bare_any (w : World) (s : S) : Calls Tryz.prog 133 #[s.val] w fun e w' => e = .returned s.bare.val ∧ Below w.heap.size w w':=by
 obtain ⟨st, ow, sm, br, ma, us, ge, ep, ve⟩:=s
 go_enter Tryz.func133, Tryz.ntmps133
 simp only [S.val, S.cells]
 by_cases h0 : st = 0
 ·subst h0
  go_wp2
  refine bodyPost_ret (results_cell_row rfl _ _ (w.heap.size + 1) _ _ _ _ rfl (heap_alloc2_new _ _ _) Tryz.underlying41 rfl (by kernel_rfl)) rfl ?_
  exact ⟨by simp [S.bare, *], ((Below.refl _ _).alloc (Nat.le_refl _) _).alloc (by simp) _⟩
 by_cases h1 : st = 1
 ·subst h1
  go_wp2
  refine bodyPost_ret (results_cell_row rfl _ _ (w.heap.size + 1) _ _ _ _ rfl (heap_alloc2_new _ _ _) Tryz.underlying41 rfl (by kernel_rfl)) rfl ?_
  exact ⟨by simp [S.bare, *], ((Below.refl _ _).alloc (Nat.le_refl _) _).alloc (by simp) _⟩
 by_cases h2 : st = 2
 ·subst h2
  go_wp2
  refine bodyPost_ret (results_cell_row rfl _ _ (w.heap.size + 1) _ _ _ _ rfl (heap_alloc2_new _ _ _) Tryz.underlying41 rfl (by kernel_rfl)) rfl ?_
  exact ⟨by simp [S.bare, *], ((Below.refl _ _).alloc (Nat.le_refl _) _).alloc (by simp) _⟩
 by_cases h3 : st = 3
 ·subst h3
  go_wp2
  refine bodyPost_ret (results_cell_row rfl _ _ (w.heap.size + 1) _ _ _ _ rfl (heap_alloc2_new _ _ _) Tryz.underlying41 rfl (by kernel_rfl)) rfl ?_
  exact ⟨by simp [S.bare, *], ((Below.refl _ _).alloc (Nat.le_refl _) _).alloc (by simp) _⟩
 by_cases h4 : st = 4
 ·subst h4
  go_wp2
  refine bodyPost_ret (results_cell_row rfl _ _ (w.heap.size + 1) _ _ _ _ rfl (heap_alloc2_new _ _ _) Tryz.underlying41 rfl (by kernel_rfl)) rfl ?_
  exact ⟨by simp [S.bare, *], ((Below.refl _ _).alloc (Nat.le_refl _) _).alloc (by simp) _⟩
 by_cases h5 : st = 5
 ·subst h5
  go_wp2
  refine bodyPost_ret (results_cell_row rfl _ _ (w.heap.size + 1) _ _ _ _ rfl (heap_alloc2_new _ _ _) Tryz.underlying41 rfl (by kernel_rfl)) rfl ?_
  exact ⟨by simp [S.bare, *], ((Below.refl _ _).alloc (Nat.le_refl _) _).alloc (by simp) _⟩
 by_cases h6 : st = 6
 ·subst h6
  go_wp2
  refine bodyPost_ret (results_cell_row rfl _ _ (w.heap.size + 1) _ _ _ _ rfl (heap_alloc2_new _ _ _) Tryz.underlying41 rfl (by kernel_rfl)) rfl ?_
  exact ⟨by simp [S.bare, *], ((Below.refl _ _).alloc (Nat.le_refl _) _).alloc (by simp) _⟩
 have n2 : (st != 2) = true:=by simpa using h2
 have n3 : (st != 3) = true:=by simpa using h3
 have n4 : (st != 4) = true:=by simpa using h4
 have n6 : (st != 6) = true:=by simpa using h6
 have e0 : (st == 0) = false:=by simpa using h0
 have e6 : (st == 6) = false:=by simpa using h6
 go_wp2
 refine bodyPost_ret (results_cell_row rfl _ _ (w.heap.size + 1) _ _ _ _ rfl (heap_alloc2_new _ _ _) Tryz.underlying41 rfl (by kernel_rfl)) rfl ?_
 exact ⟨by simp [S.bare, *], ((Below.refl _ _).alloc (Nat.le_refl _) _).alloc (by simp) _⟩
theorem eq_slot (w : World) (a1 a2 a3 : Int) (a4 a5 : Bool) (a6 a7 a8 a9 b1 b2 b3 : Int) (b4 b5 : Bool) (b6 b7 b8 b9 : Int) :
  (Op.equalIn 10000 41 (.agg (Aa a1 a2 a3 a4 a5 a6 a7 a8 a9))
   (.agg (Aa b1 b2 b3 b4 b5 b6 b7 b8 b9))).run Tryz.prog w = .ok (decide ((⟨a1, a2, a3, a4, a5, a6, a7, a8, a9⟩ : S) = ⟨b1, b2, b3, b4, b5, b6, b7, b8, b9⟩)) w:=by
 have u3:=Tryz.underlying3
 have a3':=Tryz.isAgg3
 have z3:=Tryz.sizeOf3
 have u4:=Tryz.underlying4
 have a4':=Tryz.isAgg4
 have z4:=Tryz.sizeOf4
 have hS : Tryz.prog.underlying 41 = some (.struct (Tryz.prog.fieldsOf 41)):=by kernel_rfl
 have hp : ∀ w, ((typeInfo 41).run Tryz.prog w).andThen (fun i w' => Result.ok (i.hasPointers && Tryz.prog.cutTypes.any fun x => x.snd == 41) w') = .ok false w:=fun w => by rw [Tryz.typeInfo41]; kernel_rfl
 rw [show (10000 : Nat) = 9999 + 1 from rfl]
 first
  | rw [run_equalIn_agg w 9999 41 _ _ hS (by kernel_rfl)]
  | rw [run_equalIn_agg w 9999 41 _ _ hS (hp w)]
 simp only [Program.fieldsOf, Tryz.underlying41]
 go_simp
 repeat' split
 all_goals simp_all
def fields9 : List (Nat × Nat):=[(0, 3), (3, 4), (7, 8), (15, 1), (16, 1), (17, 6), (23, 12), (35, 12), (47, 15)]
theorem fields9_R : Field.AllR fields9:=by
 intro x hx
 simp only [fields9, List.mem_cons, List.not_mem_nil, or_false] at hx
 rcases hx with rfl | rfl | rfl | rfl | rfl | rfl | rfl | rfl | rfl <;> exact ⟨by decide, by decide⟩
theorem disj_of (l : List (Nat × Nat)) (h : ((List.range l.length).all fun i => (List.range l.length).all fun j => decide (j ≤ i) || (bits .and .i64 (Field.mk (l.getD i (0, 0))) (Field.mk (l.getD j (0, 0))) == 0)) = true) : Field.Disj l:=by
 intro i j x y hx hy hij
 obtain ⟨hi, rfl⟩:=List.getElem?_eq_some_iff.1 hx
 obtain ⟨hj, rfl⟩:=List.getElem?_eq_some_iff.1 hy
 have h1:=(List.all_eq_true.1 (List.all_eq_true.1 h i (List.mem_range.2 hi))) j (List.mem_range.2 hj)
 simp only [Bool.or_eq_true, decide_eq_true_eq, beq_iff_eq] at h1
 rcases h1 with h1 | h1
 ·omega
 ·simpa [List.getD_eq_getElem?_getD, hi, hj] using h1
theorem fields9_D : Field.Disj fields9:=disj_of _ (by kernel_rfl)
def S.nums (s : S) : List Int:=[s.state, s.own, s.streams, bit s.broken, bit s.marked, s.uses, s.gen, s.epoch, s.version]
def S.right (s : S) : Bool:=decide (s.state ≤ 6) && (decide (s = s.bare) && Field.packOk fields9 s.nums)
def S.wf (s : S) : Prop:=∀ x ∈ s.nums, -9223372036854775808 ≤ x ∧ x ≤ 9223372036854775807
abbrev Laid (w : World) : Prop:=Field.FAt w 0 fields9
def cs9 : List Value:=[.i 0, .i 3, .i 3, .i 4, .i 7, .i 8, .i 15, .i 1, .i 16, .i 1, .i 17, .i 6, .i 23, .i 12, .i 35, .i 12, .i 47, .i 15]
theorem range9 {w : World} (h : Laid w) : w.rangeAt 0 0 cs9:=by
 intro j v hv
 have hc : ∀ (i : Nat) (x : Nat × Nat), fields9[i]? = some x → w.cell? ⟨0, i * 2, none⟩ = some (.i x.1) ∧ w.cell? ⟨0, i * 2 + 1, none⟩ = some (.i x.2):=h
 have hj : j < 18:=(List.getElem?_eq_some_iff.1 hv).1
 rw [Nat.zero_add]
 match j, hj, hv with
 | 0, _, hv => cases hv; exact (hc 0 _ rfl).1
 | 1, _, hv => cases hv; exact (hc 0 _ rfl).2
 | 2, _, hv => cases hv; exact (hc 1 _ rfl).1
 | 3, _, hv => cases hv; exact (hc 1 _ rfl).2
 | 4, _, hv => cases hv; exact (hc 2 _ rfl).1
 | 5, _, hv => cases hv; exact (hc 2 _ rfl).2
 | 6, _, hv => cases hv; exact (hc 3 _ rfl).1
 | 7, _, hv => cases hv; exact (hc 3 _ rfl).2
 | 8, _, hv => cases hv; exact (hc 4 _ rfl).1
 | 9, _, hv => cases hv; exact (hc 4 _ rfl).2
 | 10, _, hv => cases hv; exact (hc 5 _ rfl).1
 | 11, _, hv => cases hv; exact (hc 5 _ rfl).2
 | 12, _, hv => cases hv; exact (hc 6 _ rfl).1
 | 13, _, hv => cases hv; exact (hc 6 _ rfl).2
 | 14, _, hv => cases hv; exact (hc 7 _ rfl).1
 | 15, _, hv => cases hv; exact (hc 7 _ rfl).2
 | 16, _, hv => cases hv; exact (hc 8 _ rfl).1
 | 17, _, hv => cases hv; exact (hc 8 _ rfl).2
theorem fat9 {w : World} {g : Nat} (h : w.rangeAt g 0 cs9) : Field.FAt w g fields9:=by
 have hc : ∀ (j : Nat) (v : Value), cs9[j]? = some v → w.cell? ⟨g, j, none⟩ = some v:=fun j v hv => by have:=h j v hv; rwa [Nat.zero_add] at this
 intro i x hx
 have hi : i < 9:=(List.getElem?_eq_some_iff.1 hx).1
 match i, hi, hx with
 | 0, _, hx => cases hx; exact ⟨hc 0 _ rfl, hc 1 _ rfl⟩
 | 1, _, hx => cases hx; exact ⟨hc 2 _ rfl, hc 3 _ rfl⟩
 | 2, _, hx => cases hx; exact ⟨hc 4 _ rfl, hc 5 _ rfl⟩
 | 3, _, hx => cases hx; exact ⟨hc 6 _ rfl, hc 7 _ rfl⟩
 | 4, _, hx => cases hx; exact ⟨hc 8 _ rfl, hc 9 _ rfl⟩
 | 5, _, hx => cases hx; exact ⟨hc 10 _ rfl, hc 11 _ rfl⟩
 | 6, _, hx => cases hx; exact ⟨hc 12 _ rfl, hc 13 _ rfl⟩
 | 7, _, hx => cases hx; exact ⟨hc 14 _ rfl, hc 15 _ rfl⟩
 | 8, _, hx => cases hx; exact ⟨hc 16 _ rfl, hc 17 _ rfl⟩
theorem range_new (w : World) (t : TypeId) : (w.alloc (.cells cs9.toArray t)).rangeAt w.heap.size 0 cs9:=by
 intro j v hv
 rw [cell_of_row _ _ _ _ _ _ (heap_alloc_new w _), Nat.zero_add]
 simpa using hv
theorem store9 (W : World) : (storeCells ⟨W.heap.size, 0, none⟩ cs9 0).run Tryz.prog (W.alloc (.cells (Ac 0 0 0 0 0 0 0 0 0 0 0 0 0 0 0 0 0 0) 132))
  = .ok () (W.alloc (.cells cs9.toArray 132)) :=
 run_storeCells_new W _ _ cs9.toArray (by kernel_rfl) rfl (by kernel_rfl)
theorem nums_new (w : World) (s : S) (t : TypeId) : ∀ i x, s.nums[i]? = some x → (w.alloc (.cells (Ad s.state s.own s.streams (bit s.broken) (bit s.marked) s.uses s.gen s.epoch s.version) t)).cell? ⟨w.heap.size, 0 + i, none⟩ = some (.i x):=by
 intro i x hx
 have hi : i < 9:=(List.getElem?_eq_some_iff.1 hx).1
 rw [cell_of_row _ _ _ _ _ _ (heap_alloc_new w _), Nat.zero_add]
 match i, hi, hx with
 | 0, _, hx => cases hx; rfl
 | 1, _, hx => cases hx; rfl
 | 2, _, hx => cases hx; rfl
 | 3, _, hx => cases hx; rfl
 | 4, _, hx => cases hx; rfl
 | 5, _, hx => cases hx; rfl
 | 6, _, hx => cases hx; rfl
 | 7, _, hx => cases hx; rfl
 | 8, _, hx => cases hx; rfl
theorem encode_big (w : World) (s : S) (h6 : 6 < s.state) : Calls Tryz.prog 119 #[s.val] w fun e w' => ∃ z, e = .returned (.tuple #[.i z, .bool s.right]) ∧ Below w.heap.size w w':=by
 have hs : S.right s = false:=by unfold S.right; rw [decide_eq_false (by omega)]; rfl
 have HS:=Lib.hid hs
 clear hs
 obtain ⟨st, ow, sm, br, ma, us, ge, ep, ve⟩:=s
 go_enter Tryz.func119, Tryz.ntmps119
 simp only [S.val, S.cells] at h6 ⊢
 go_wp2_with fail
 have hg : decide (6 < st) = true:=by simpa using h6
 go_region
 go_wp2_with fail
 go_ret2
 exact ⟨0, by rw [HS.out]; rfl, ((Below.refl _ _).alloc (Nat.le_refl _) _).drew⟩
theorem encode_bad (w : World) (s : S) (h6 : ¬ 6 < s.state) (hn : s ≠ s.bare) : Calls Tryz.prog 119 #[s.val] w fun e w' => ∃ z, e = .returned (.tuple #[.i z, .bool s.right]) ∧ Below w.heap.size w w':=by
 have hb:=fun w => bare_any w s
 have hs : S.right s = false:=by unfold S.right; rw [decide_eq_false hn]; simp
 have HS:=Lib.hid hs
 clear hs
 generalize s.bare = t at *
 obtain ⟨st, ow, sm, br, ma, us, ge, ep, ve⟩:=s
 obtain ⟨st', ow', sm', br', ma', us', ge', ep', ve'⟩:=t
 have hne:=decide_eq_false hn
 have hq:=fun w => eq_slot w st ow sm br ma us ge ep ve st' ow' sm' br' ma' us' ge' ep' ve'
 simp only [hne] at hq
 clear hn
 go_enter Tryz.func119, Tryz.ntmps119
 simp only [S.val, S.cells] at hb h6 ⊢
 ·skip
  have hg : decide (6 < st) = false:=by simpa using h6
  have hA:=(Below.refl w.heap.size w).alloc (Nat.le_refl _) (.cells (Aa st ow sm br ma us ge ep ve) 41)
  have hB:=hA.drew
  have c0 : (w.alloc (.cells (Aa st ow sm br ma us ge ep ve) 41)).cell? ⟨w.heap.size, 0, none⟩ = some (.i st):=by simp
  have c1 : (w.alloc (.cells (Aa st ow sm br ma us ge ep ve) 41)).cell? ⟨w.heap.size, 1, none⟩ = some (.i ow):=by simp
  have c2 : (w.alloc (.cells (Aa st ow sm br ma us ge ep ve) 41)).cell? ⟨w.heap.size, 2, none⟩ = some (.i sm):=by simp
  have c3 : (w.alloc (.cells (Aa st ow sm br ma us ge ep ve) 41)).cell? ⟨w.heap.size, 3, none⟩ = some (.bool br):=by simp
  have c4 : (w.alloc (.cells (Aa st ow sm br ma us ge ep ve) 41)).cell? ⟨w.heap.size, 4, none⟩ = some (.bool ma):=by simp
  have c5 : (w.alloc (.cells (Aa st ow sm br ma us ge ep ve) 41)).cell? ⟨w.heap.size, 5, none⟩ = some (.i us):=by simp
  have c6 : (w.alloc (.cells (Aa st ow sm br ma us ge ep ve) 41)).cell? ⟨w.heap.size, 6, none⟩ = some (.i ge):=by simp
  have c7 : (w.alloc (.cells (Aa st ow sm br ma us ge ep ve) 41)).cell? ⟨w.heap.size, 7, none⟩ = some (.i ep):=by simp
  have c8 : (w.alloc (.cells (Aa st ow sm br ma us ge ep ve) 41)).cell? ⟨w.heap.size, 8, none⟩ = some (.i ve):=by simp
  have hsz : w.heap.size < (w.alloc (.cells (Aa st ow sm br ma us ge ep ve) 41)).heap.size:=by simp
  go_wp2_with fail
  generalize w.alloc (.cells (Aa st ow sm br ma us ge ep ve) 41) = wa at *
  go_region_held3 (fun w' => w'.cell? ⟨w.heap.size, 0, none⟩ = some (.i st) ∧ w'.cell? ⟨w.heap.size, 1, none⟩ = some (.i ow) ∧ w'.cell? ⟨w.heap.size, 2, none⟩ = some (.i sm) ∧ w'.cell? ⟨w.heap.size, 3, none⟩ = some (.bool br) ∧ w'.cell? ⟨w.heap.size, 4, none⟩ = some (.bool ma) ∧ w'.cell? ⟨w.heap.size, 5, none⟩ = some (.i us) ∧ w'.cell? ⟨w.heap.size, 6, none⟩ = some (.i ge) ∧ w'.cell? ⟨w.heap.size, 7, none⟩ = some (.i ep) ∧ w'.cell? ⟨w.heap.size, 8, none⟩ = some (.i ve)) (first | go_keep | exact ⟨by assumption, by assumption, by assumption, by assumption, by assumption, by assumption, by assumption, by assumption, by assumption⟩)
   ((first
   | (go_at_call 133; refine (hb _).mono ?_; rintro e w5 ⟨rfl, hb5⟩; have hB5:=hB.trans (hb5.mono (Nat.le_of_lt hsz)); have d0:=Field.bkeep hb5 c0; have d1:=Field.bkeep hb5 c1; have d2:=Field.bkeep hb5 c2; have d3:=Field.bkeep hb5 c3; have d4:=Field.bkeep hb5 c4; have d5:=Field.bkeep hb5 c5; have d6:=Field.bkeep hb5 c6; have d7:=Field.bkeep hb5 c7; have d8:=Field.bkeep hb5 c8)))
  clear c0 c1 c2 c3 c4 c5 c6 c7 c8 d0 d1 d2 d3 d4 d5 d6 d7 d8 hb5
  go_wp2_with fail
  go_ret2
  exact ⟨0, by rw [HS.out]; rfl, hB5⟩
theorem encode_fit (w : World) (s : S) (hL : Laid w) (hw : s.wf) (h6 : ¬ 6 < s.state) (hn : s = s.bare) : Calls Tryz.prog 119 #[s.val] w fun e w' => ∃ z, e = .returned (.tuple #[.i z, .bool s.right]) ∧ Below w.heap.size w w':=by
 have hb:=fun w => bare_any w s
 have hs : S.right s = Field.packOk fields9 s.nums:=by unfold S.right; rw [decide_eq_true hn, decide_eq_true (by omega)]; rfl
 have HS:=Lib.hid hs
 have HW:=Lib.hid hw
 rw [← hn] at hb
 clear hs hn hw
 obtain ⟨st, ow, sm, br, ma, us, ge, ep, ve⟩:=s
 have hq:=fun w => eq_slot w st ow sm br ma us ge ep ve st ow sm br ma us ge ep ve
 simp only [decide_true] at hq
 go_enter Tryz.func119, Tryz.ntmps119
 simp only [S.val, S.cells] at hb h6 ⊢
 ·skip
  have hg : decide (6 < st) = false:=by simpa using h6
  have hA:=(Below.refl w.heap.size w).alloc (Nat.le_refl _) (.cells (Aa st ow sm br ma us ge ep ve) 41)
  have hB:=hA.drew
  have hLA : Laid (w.alloc (.cells (Aa st ow sm br ma us ge ep ve) 41)):=hL.stable (hA.block 0 (hL.lt (by decide)))
  have c0 : (w.alloc (.cells (Aa st ow sm br ma us ge ep ve) 41)).cell? ⟨w.heap.size, 0, none⟩ = some (.i st):=by simp
  have c1 : (w.alloc (.cells (Aa st ow sm br ma us ge ep ve) 41)).cell? ⟨w.heap.size, 1, none⟩ = some (.i ow):=by simp
  have c2 : (w.alloc (.cells (Aa st ow sm br ma us ge ep ve) 41)).cell? ⟨w.heap.size, 2, none⟩ = some (.i sm):=by simp
  have c3 : (w.alloc (.cells (Aa st ow sm br ma us ge ep ve) 41)).cell? ⟨w.heap.size, 3, none⟩ = some (.bool br):=by simp
  have c4 : (w.alloc (.cells (Aa st ow sm br ma us ge ep ve) 41)).cell? ⟨w.heap.size, 4, none⟩ = some (.bool ma):=by simp
  have c5 : (w.alloc (.cells (Aa st ow sm br ma us ge ep ve) 41)).cell? ⟨w.heap.size, 5, none⟩ = some (.i us):=by simp
  have c6 : (w.alloc (.cells (Aa st ow sm br ma us ge ep ve) 41)).cell? ⟨w.heap.size, 6, none⟩ = some (.i ge):=by simp
  have c7 : (w.alloc (.cells (Aa st ow sm br ma us ge ep ve) 41)).cell? ⟨w.heap.size, 7, none⟩ = some (.i ep):=by simp
  have c8 : (w.alloc (.cells (Aa st ow sm br ma us ge ep ve) 41)).cell? ⟨w.heap.size, 8, none⟩ = some (.i ve):=by simp
  have hsz : w.heap.size < (w.alloc (.cells (Aa st ow sm br ma us ge ep ve) 41)).heap.size:=by simp
  go_wp2_with fail
  generalize w.alloc (.cells (Aa st ow sm br ma us ge ep ve) 41) = wa at *
  go_region_held3 (fun w' => w'.cell? ⟨w.heap.size, 0, none⟩ = some (.i st) ∧ w'.cell? ⟨w.heap.size, 1, none⟩ = some (.i ow) ∧ w'.cell? ⟨w.heap.size, 2, none⟩ = some (.i sm) ∧ w'.cell? ⟨w.heap.size, 3, none⟩ = some (.bool br) ∧ w'.cell? ⟨w.heap.size, 4, none⟩ = some (.bool ma) ∧ w'.cell? ⟨w.heap.size, 5, none⟩ = some (.i us) ∧ w'.cell? ⟨w.heap.size, 6, none⟩ = some (.i ge) ∧ w'.cell? ⟨w.heap.size, 7, none⟩ = some (.i ep) ∧ w'.cell? ⟨w.heap.size, 8, none⟩ = some (.i ve)) (first | go_keep | exact ⟨by assumption, by assumption, by assumption, by assumption, by assumption, by assumption, by assumption, by assumption, by assumption⟩)
   ((first
   | (go_at_call 133; refine (hb _).mono ?_; rintro e w5 ⟨rfl, hb5⟩; have hL5:=hLA.stable (hb5.block 0 (hLA.lt (by decide))); have hB5:=hB.trans (hb5.mono (Nat.le_of_lt hsz)); have d0:=Field.bkeep hb5 c0; have d1:=Field.bkeep hb5 c1; have d2:=Field.bkeep hb5 c2; have d3:=Field.bkeep hb5 c3; have d4:=Field.bkeep hb5 c4; have d5:=Field.bkeep hb5 c5; have d6:=Field.bkeep hb5 c6; have d7:=Field.bkeep hb5 c7; have d8:=Field.bkeep hb5 c8)))
  have hr9:=range9 hL5
  have hst:=store9
  clear c0 c1 c2 c3 c4 c5 c6 c7 c8 hb5 hq hb
  go_wp2_with (first
   | (refine wpList_load_mid rfl 132 (.global 0) rfl 0 0 rfl cs9 _ hr9 Tryz.underlying132 rfl (by kernel_rfl) ?_))
  have hA2 : Below w5.heap.size w5 (w5.alloc (.cells cs9.toArray 132)):=(Below.refl _ _).alloc (Nat.le_refl _) _
  have hF : Field.FAt (w5.alloc (.cells cs9.toArray 132)) w5.heap.size fields9:=fat9 (range_new _ _)
  have hB6:=hB5.trans (hA2.mono (hB5.size))
  have hlt5 : w5.heap.size < (w5.alloc (.cells cs9.toArray 132)).heap.size:=by simp
  have c0:=Field.bkeep hA2 d0
  have c1:=Field.bkeep hA2 d1
  have c2:=Field.bkeep hA2 d2
  have c3:=Field.bkeep hA2 d3
  have c4:=Field.bkeep hA2 d4
  have c5:=Field.bkeep hA2 d5
  have c6:=Field.bkeep hA2 d6
  have c7:=Field.bkeep hA2 d7
  have c8:=Field.bkeep hA2 d8
  generalize w5.alloc (.cells cs9.toArray 132) = wb at *
  generalize w5.heap.size = gb at *
  clear d0 d1 d2 d3 d4 d5 d6 d7 d8 hA2 hr9 hst
  have hsw:=hB6.size
  have hAl : Below wb.heap.size wb (wb.drew.alloc (.cells (Ad st ow sm (bit br) (bit ma) us ge ep ve) 3)):=(Below.refl _ _).drew.alloc (by simp) _
  have k0:=Field.bkeep hAl c0
  have k1:=Field.bkeep hAl c1
  have k2:=Field.bkeep hAl c2
  have k3:=Field.bkeep hAl c3
  have k4:=Field.bkeep hAl c4
  have k5:=Field.bkeep hAl c5
  have k6:=Field.bkeep hAl c6
  have k7:=Field.bkeep hAl c7
  have k8:=Field.bkeep hAl c8
  have hpk:=Field.pack_any (wb.drew.alloc (.cells (Ad st ow sm (bit br) (bit ma) us ge ep ve) 3)) gb fields9 wb.heap.size 0 9 (S.nums ⟨st, ow, sm, br, ma, us, ge, ep, ve⟩) (by decide) (hF.stable (Below.heap_alloc _ _ _ hlt5)) (by simp; omega) fields9_R fields9_D (nums_new wb.drew ⟨st, ow, sm, br, ma, us, ge, ep, ve⟩ _) rfl HW.out
  go_region_held3 (fun w' => w'.cell? ⟨w.heap.size, 0, none⟩ = some (.i st) ∧ w'.cell? ⟨w.heap.size, 1, none⟩ = some (.i ow) ∧ w'.cell? ⟨w.heap.size, 2, none⟩ = some (.i sm) ∧ w'.cell? ⟨w.heap.size, 3, none⟩ = some (.bool br) ∧ w'.cell? ⟨w.heap.size, 4, none⟩ = some (.bool ma) ∧ w'.cell? ⟨w.heap.size, 5, none⟩ = some (.i us) ∧ w'.cell? ⟨w.heap.size, 6, none⟩ = some (.i ge) ∧ w'.cell? ⟨w.heap.size, 7, none⟩ = some (.i ep) ∧ w'.cell? ⟨w.heap.size, 8, none⟩ = some (.i ve)) (first | go_keep | exact ⟨by assumption, by assumption, by assumption, by assumption, by assumption, by assumption, by assumption, by assumption, by assumption⟩)
   ((first
   | (go_at_call 135; refine (bit_any _ br).mono ?_; rintro e w6 ⟨rfl, rfl⟩)
   | (go_at_call 135; refine (bit_any _ ma).mono ?_; rintro e w6 ⟨rfl, rfl⟩)
   | (go_at_call 134; refine hpk.mono ?_; rintro e w7 ⟨z, rfl, hb7⟩; have m0:=Field.bkeep hb7 k0; have m1:=Field.bkeep hb7 k1; have m2:=Field.bkeep hb7 k2; have m3:=Field.bkeep hb7 k3; have m4:=Field.bkeep hb7 k4; have m5:=Field.bkeep hb7 k5; have m6:=Field.bkeep hb7 k6; have m7:=Field.bkeep hb7 k7; have m8:=Field.bkeep hb7 k8)))
  have hB7:=hB6.trans ((hAl.trans (hb7.mono hAl.size)).mono hsw)
  clear k0 m0 c0 k1 m1 c1 k2 m2 c2 k3 m3 c3 k4 m4 c4 k5 m5 c5 k6 m6 c6 k7 m7 c7 k8 m8 c8 hb7 hpk
  go_wp2_with fail
  go_ret2
  exact ⟨z, by rw [HS.out]; rfl, hB7⟩
theorem encode_any (w : World) (s : S) (hL : Laid w) (hw : s.wf) : Calls Tryz.prog 119 #[s.val] w fun e w' => ∃ z, e = .returned (.tuple #[.i z, .bool s.right]) ∧ Below w.heap.size w w':=by
 by_cases h6 : 6 < s.state
 ·exact encode_big w s h6
 ·by_cases hn : s = s.bare
  ·exact encode_fit w s hL hw h6 hn
  ·exact encode_bad w s h6 hn
theorem right_any (w : World) (s : S) (hL : Laid w) (hw : s.wf) : Calls Tryz.prog 137 #[s.val] w fun e w' => e = .returned (.bool s.right) ∧ Below w.heap.size w w':=by
 have he:=encode_any (w.alloc (.cells s.cells 41)) s (hL.stable (Below.heap_alloc _ _ _ (hL.lt (by decide)))) hw
 obtain ⟨st, ow, sm, br, ma, us, ge, ep, ve⟩:=s
 simp only [S.val, S.cells] at he
 go_enter Tryz.func137, Tryz.ntmps137
 simp only [S.val, S.cells]
 go_wp2_with fail
 refine he.mono ?_
 rintro e w5 ⟨z, rfl, hb5⟩
 have hB : Below w.heap.size w w5:=((Below.refl _ _).alloc (Nat.le_refl _) _).trans (hb5.mono (by simp))
 clear he hb5
 go_wp2_with fail
 go_ret
 exact ⟨rfl, hB⟩
end Go.Proofs.YteadpgiffpfmnaaGreatDoor.Slot
namespace Go.Proofs.YteadpgiffpfmnaaGreatDoor.Life
open Go.RowKit Hp Slot RowL
abbrev cval (s : S) (own more : Int) : Value:=.agg (Ab s.state s.own s.streams s.broken s.marked s.uses s.gen s.epoch s.version own more)
theorem is_any (w : World) (s : S) (own more k : Int) : Calls Tryz.prog 177 #[cval s own more, .i k] w fun e w' => e = .returned (.bool (s.state == k)) ∧ Below w.heap.size w w':=by
 obtain ⟨st, ow, sm, br, ma, us, ge, ep, ve⟩:=s
 go_enter Tryz.func177, Tryz.ntmps177
 go_wp2
 go_ret
 exact ⟨rfl, (Below.refl _ _).alloc (Nat.le_refl _) _⟩
theorem mine_any (w : World) (s : S) (own more k : Int) : Calls Tryz.prog 179 #[cval s own more, .i k] w fun e w' => e = .returned (.bool (s.state == k && s.own == own)) ∧ Below w.heap.size w w':=by
 have hi:=fun W => is_any W s own more k
 obtain ⟨st, ow, sm, br, ma, us, ge, ep, ve⟩:=s
 simp only [cval] at hi
 go_enter Tryz.func179, Tryz.ntmps179
 go_wp2_with fail
 refine (hi _).mono ?_
 rintro e w5 ⟨rfl, hb5⟩
 have hc1 : w5.cell? ⟨w.heap.size, 1, none⟩ = some (.i ow):=Field.bkeep hb5 (by simp)
 have hc2 : w5.cell? ⟨w.heap.size, 9, none⟩ = some (.i own):=Field.bkeep hb5 (by simp)
 have hB : Below w.heap.size w w5:=((Below.refl _ _).alloc (Nat.le_refl _) _).trans (hb5.mono (by simp))
 clear hb5 hi
 by_cases h : st = k
 ·have hk : (st == k) = true:=by simpa using h
  rw [hk]
  go_wp2_with fail
  go_ret
  exact ⟨Base.ret_bool (by simp [h]), hB⟩
 ·have hk : (st == k) = false:=by simpa using h
  rw [hk]
  go_wp2_with fail
  go_ret
  exact ⟨Base.ret_bool (by simp [h]), hB⟩
theorem sound_any (w : World) (s : S) (own more : Int) : Calls Tryz.prog 180 #[cval s own more] w fun e w' => e = .returned (.bool (s.state == 2 && !s.broken)) ∧ Below w.heap.size w w':=by
 have hi:=fun W => is_any W s own more 2
 obtain ⟨st, ow, sm, br, ma, us, ge, ep, ve⟩:=s
 simp only [cval] at hi
 go_enter Tryz.func180, Tryz.ntmps180
 go_wp2_with fail
 refine (hi _).mono ?_
 rintro e w5 ⟨rfl, hb5⟩
 have hc1 : w5.cell? ⟨w.heap.size, 3, none⟩ = some (.bool br):=Field.bkeep hb5 (by simp)
 have hB : Below w.heap.size w w5:=((Below.refl _ _).alloc (Nat.le_refl _) _).trans (hb5.mono (by simp))
 clear hb5 hi
 by_cases h : st = 2
 ·have hk : (st == 2) = true:=by simpa using h
  rw [hk]
  go_wp2_with fail
  go_ret
  exact ⟨Base.ret_bool (by simp [h]), hB⟩
 ·have hk : (st == 2) = false:=by simpa using h
  rw [hk]
  go_wp2_with fail
  go_ret
  exact ⟨Base.ret_bool (by simp [h]), hB⟩
def «to» (s : S) (own k : Int) : S :=
 { s with
  state:=k
  streams:=if k = 3 then s.streams else 0
  marked:=if k = 2 then s.marked else false
  broken:=if k = 2 ∨ k = 3 ∨ k = 4 then s.broken else false
  uses:=if k = 2 ∨ k = 3 ∨ k = 4 then s.uses else 0
  epoch:=if k = 6 then s.epoch else 0
  own:=if k = 0 ∨ k = 6 then 0 else own }
theorem heap_alloc3_mid (w : World) (A B C : Obj) : (((w.alloc A).alloc B).alloc C).heap[w.heap.size + 1]? = some B:=by
 rw [Below.heap_alloc _ _ _ (by simp)]; exact heap_alloc2_new w A B
theorem to_any (w : World) (s : S) (own more k : Int) (hk : k = 0 ∨ k = 1 ∨ k = 2 ∨ k = 3 ∨ k = 4 ∨ k = 5 ∨ k = 6) : Calls Tryz.prog 176 #[cval s own more, .i k] w fun e w' => e = .returned («to» s own k).val ∧ Below w.heap.size w w':=by
 obtain ⟨st, ow, sm, br, ma, us, ge, ep, ve⟩:=s
 go_enter Tryz.func176, Tryz.ntmps176
 simp only [cval]
 rcases hk with rfl | rfl | rfl | rfl | rfl | rfl | rfl
 all_goals (
  go_wp2
  go_region
  go_wp2)
 all_goals (
  refine bodyPost_ret (results_cell_row rfl _ _ (w.heap.size + 1) _ _ _ _ rfl (heap_alloc3_mid _ _ _ _) Tryz.underlying41 rfl (by kernel_rfl)) rfl ?_
  exact ⟨by simp [«to», S.val, S.cells], ((((Below.refl _ _).alloc (Nat.le_refl _) _).alloc (by simp) _).alloc (by simp; omega) _).drew⟩)
def leased (s : S) (own : Int) : S:={ «to» s own 3 with uses:=min (s.uses + 1) 63, gen:=(s.gen + 1) % 4096 }
theorem leased_any (w : World) (s : S) (own more : Int) (hu : 0 ≤ s.uses ∧ s.uses ≤ 63) (hg : 0 ≤ s.gen ∧ s.gen ≤ 4095) : Calls Tryz.prog 178 #[cval s own more] w fun e w' => e = .returned (leased s own).val ∧ Below w.heap.size w w':=by
 have ht:=fun W => to_any W s own more 3 (by simp)
 have hl : leased s own = { «to» s own 3 with uses:=min (s.uses + 1) 63, gen:=(s.gen + 1) % 4096 }:=rfl
 have htu : («to» s own 3).uses = s.uses:=by simp [«to»]
 have htg : («to» s own 3).gen = s.gen:=rfl
 rw [← htu] at hu hl
 rw [← htg] at hg hl
 generalize «to» s own 3 = t at *
 have HL:=Lib.hid hl
 clear hl htu htg
 obtain ⟨st, ow, sm, br, ma, us, ge, ep, ve⟩:=s
 obtain ⟨st', ow', sm', br', ma', us', ge', ep', ve'⟩:=t
 simp only [cval, S.val, S.cells] at ht hu hg
 obtain ⟨hu0, hu1⟩:=hu
 obtain ⟨hg0, hg1⟩:=hg
 have hm : IntKind.i64.wrap ((ge' + 1).tmod 4096) = (ge' + 1) % 4096:=by
  rw [Int.tmod_eq_emod_of_nonneg (by omega), IntKind.wrap_i64]; omega
 go_enter Tryz.func178, Tryz.ntmps178
 go_wp2_with fail
 refine (ht _).mono ?_
 rintro e w5 ⟨rfl, hb5⟩
 have hA : Below w.heap.size w ((w.alloc (.cells (Ab st ow sm br ma us ge ep ve own more) 150)).alloc (.cells Zs 41)):=((Below.refl _ _).alloc (Nat.le_refl _) _).alloc (by simp) _
 have hB : Below w.heap.size w w5:=hA.trans (hb5.mono (by simp; omega))
 have hr : RowAt w5 (w.heap.size + 1) Zs 41:=RowAt.below (heap_alloc2_new w _ _) hb5
 have hr2:=fun o => hr.alloc o
 have q0 : ∀ o, (w5.alloc o).cell? ⟨w.heap.size + 1, 0, none⟩ = some (.i 0):=fun o => (hr.alloc o).cell 0
 have f0 : ∀ o, (w5.alloc o).frozen? ⟨w.heap.size + 1, 0, none⟩ = false:=fun o => (hr.alloc o).frozen 0
 have q1 : ∀ o, (w5.alloc o).cell? ⟨w.heap.size + 1, 1, none⟩ = some (.i 0):=fun o => (hr.alloc o).cell 1
 have f1 : ∀ o, (w5.alloc o).frozen? ⟨w.heap.size + 1, 1, none⟩ = false:=fun o => (hr.alloc o).frozen 1
 have q2 : ∀ o, (w5.alloc o).cell? ⟨w.heap.size + 1, 2, none⟩ = some (.i 0):=fun o => (hr.alloc o).cell 2
 have f2 : ∀ o, (w5.alloc o).frozen? ⟨w.heap.size + 1, 2, none⟩ = false:=fun o => (hr.alloc o).frozen 2
 have q3 : ∀ o, (w5.alloc o).cell? ⟨w.heap.size + 1, 3, none⟩ = some (.bool false):=fun o => (hr.alloc o).cell 3
 have f3 : ∀ o, (w5.alloc o).frozen? ⟨w.heap.size + 1, 3, none⟩ = false:=fun o => (hr.alloc o).frozen 3
 have q4 : ∀ o, (w5.alloc o).cell? ⟨w.heap.size + 1, 4, none⟩ = some (.bool false):=fun o => (hr.alloc o).cell 4
 have f4 : ∀ o, (w5.alloc o).frozen? ⟨w.heap.size + 1, 4, none⟩ = false:=fun o => (hr.alloc o).frozen 4
 have q5 : ∀ o, (w5.alloc o).cell? ⟨w.heap.size + 1, 5, none⟩ = some (.i 0):=fun o => (hr.alloc o).cell 5
 have f5 : ∀ o, (w5.alloc o).frozen? ⟨w.heap.size + 1, 5, none⟩ = false:=fun o => (hr.alloc o).frozen 5
 have q6 : ∀ o, (w5.alloc o).cell? ⟨w.heap.size + 1, 6, none⟩ = some (.i 0):=fun o => (hr.alloc o).cell 6
 have f6 : ∀ o, (w5.alloc o).frozen? ⟨w.heap.size + 1, 6, none⟩ = false:=fun o => (hr.alloc o).frozen 6
 have q7 : ∀ o, (w5.alloc o).cell? ⟨w.heap.size + 1, 7, none⟩ = some (.i 0):=fun o => (hr.alloc o).cell 7
 have f7 : ∀ o, (w5.alloc o).frozen? ⟨w.heap.size + 1, 7, none⟩ = false:=fun o => (hr.alloc o).frozen 7
 have q8 : ∀ o, (w5.alloc o).cell? ⟨w.heap.size + 1, 8, none⟩ = some (.i 0):=fun o => (hr.alloc o).cell 8
 have f8 : ∀ o, (w5.alloc o).frozen? ⟨w.heap.size + 1, 8, none⟩ = false:=fun o => (hr.alloc o).frozen 8
 have Hr:=Lib.hid hr
 clear hr2 hr
 have hmin : us' + 1 ≤ 63 ∨ 63 < us' + 1:=by omega
 clear hb5 hA ht
 rcases hmin with hmin | hmin
 all_goals (
  go_wp2_with fail)
 all_goals (
  refine bR1 (w.heap.size + 1) ((((((((((Hr.out.alloc _).setc 0 _).setc 1 _).setc 2 _).setc 3 _).setc 4 _).setc 5 _).setc 6 _).setc 7 _).setc 8 _) Tryz.underlying41 ?_
  refine ⟨?_, ?_⟩
  ·rw [HL.out]
   simp [S.val, S.cells]
   try omega
  ·iterate 9 refine Below.setCell ?_ (by simp) _
   exact hB.alloc hB.size _)
end Go.Proofs.YteadpgiffpfmnaaGreatDoor.Life
namespace Go.Proofs.YteadpgiffpfmnaaGreatDoor.Conf
open Go.RowKit Hp
structure Cf where
 workers : Int
 slots : Int
 streams : Int
 waiters : Int
 uses : Int
def Cf.cells (c : Cf) : Array Value:=(Ae c.workers c.slots c.streams c.waiters c.uses)
abbrev Cf.val (c : Cf) : Value:=.agg c.cells
def btw (l n m : Int) : Bool:=decide (l ≤ n ∧ n ≤ m)
def Cf.right (c : Cf) : Bool:=btw 1 c.workers 8 && (btw 1 c.slots 16 && (btw 0 c.streams 8 && (btw 0 c.waiters 8 && btw 1 c.uses 60)))
theorem between_any (w : World) (l n m : Int) : Calls Tryz.prog 89 #[.i l, .i n, .i m] w fun e w' => e = .returned (.bool (btw l n m)) ∧ w = w':=by
 go_enter Tryz.func89, Tryz.ntmps89
 by_cases h : l ≤ n
 ·go_wp2
  go_ret
  exact ⟨Base.ret_bool (by simp [btw, h]), rfl⟩
 ·go_wp2
  go_ret
  exact ⟨Base.ret_bool (by simp [btw]; omega), rfl⟩
theorem right_any (w : World) (c : Cf) : Calls Tryz.prog 54 #[c.val] w fun e w' => e = .returned (.bool c.right) ∧ Below w.heap.size w w':=by
 have hb:=fun w l n m => between_any w l n m
 have hr : RowKit.Hid (c.right = (btw 1 c.workers 8 && (btw 1 c.slots 16 && (btw 0 c.streams 8 && (btw 0 c.waiters 8 && btw 1 c.uses 60))))):=rfl
 have h1:=fun w => hb w 1 c.workers 8
 have h2:=fun w => hb w 1 c.slots 16
 have h3:=fun w => hb w 0 c.streams 8
 have h4:=fun w => hb w 0 c.waiters 8
 have h5:=fun w => hb w 1 c.uses 60
 clear hb
 generalize btw 1 c.workers 8 = b1 at *
 generalize btw 1 c.slots 16 = b2 at *
 generalize btw 0 c.streams 8 = b3 at *
 generalize btw 0 c.waiters 8 = b4 at *
 generalize btw 1 c.uses 60 = b5 at *
 generalize c.right = r at *
 obtain ⟨c1, c2, c3, c4, c5⟩:=c
 simp only [Cf.val, Cf.cells] at *
 have hB : Below w.heap.size w (w.alloc (.cells (Ae c1 c2 c3 c4 c5) 30)):=(Below.refl _ _).alloc (Nat.le_refl _) _
 go_enter Tryz.func54, Tryz.ntmps54
 go_wp2_with fail
 refine (h1 _).mono ?_
 rintro e w1 ⟨rfl, rfl⟩
 cases b1
 ·go_wp2_with fail
  go_ret
  exact ⟨Base.ret_bool (by rw [hr.out]; rfl), hB⟩
 go_wp2_with fail
 refine (h2 _).mono ?_
 rintro e w1 ⟨rfl, rfl⟩
 cases b2
 ·go_wp2_with fail
  go_ret
  exact ⟨Base.ret_bool (by rw [hr.out]; rfl), hB⟩
 go_wp2_with fail
 refine (h3 _).mono ?_
 rintro e w1 ⟨rfl, rfl⟩
 cases b3
 ·go_wp2_with fail
  go_ret
  exact ⟨Base.ret_bool (by rw [hr.out]; rfl), hB⟩
 go_wp2_with fail
 refine (h4 _).mono ?_
 rintro e w1 ⟨rfl, rfl⟩
 cases b4
 ·go_wp2_with fail
  go_ret
  exact ⟨Base.ret_bool (by rw [hr.out]; rfl), hB⟩
 go_wp2_with fail
 refine (h5 _).mono ?_
 rintro e w1 ⟨rfl, rfl⟩
 cases b5
 all_goals (
  go_wp2_with fail
  go_ret
  exact ⟨Base.ret_bool (by rw [hr.out]; rfl), hB⟩)
end Go.Proofs.YteadpgiffpfmnaaGreatDoor.Conf
namespace Go.Proofs.YteadpgiffpfmnaaGreatDoor.Find
open Go.RowKit Hp Slot
theorem alloc_set (W : World) (o o' : Obj) : ({ W.alloc o with heap:=(W.alloc o).heap.setIfInBounds W.heap.size o' } : World) = W.alloc o':=by
 simp only [World.alloc]
 congr 1
 apply Array.ext_getElem?
 intro i
 simp only [Array.getElem?_setIfInBounds, Array.getElem?_push, Array.size_push]
 by_cases h : W.heap.size = i
 ·subst h; simp
 ·have h' : ¬ i = W.heap.size:=fun e => h e.symm
  simp [h, h']
theorem run_insert_new {P : Program} (W : World) (r : Nat) (t kt et : TypeId) (es : Array MapEntry) (clock : Nat) (k : Int) (v : Value) (hu : P.underlying t = some (.map kt et)) (hk : P.underlying kt = some (.int .i64))
  (hr : r = W.heap.size) (hf : Instr.findNow (.int .i64) (.i k) es.toList 0 = some none) :
  (Instr.mapUpdate t (.map (some r)) (.i k) v).run P (W.alloc (.map es clock)) = .ok () (W.alloc (.map (es.push ⟨.i k, v, clock⟩) (clock + 1))):=by
 subst hr
 have hb : (W.alloc (.map es clock)).heap[W.heap.size]? = some (.map es clock):=World.alloc_heap_new W _
 have h1:=MapKept.run_setObj_map (P:=P) (.map (es.push ⟨.i k, v, clock⟩) (clock + 1)) hb
 rw [alloc_set] at h1
 simp [Instr.mapUpdate, run_underlying hu, MapKept.run_getObj_map hb, MapKept.run_checkKey (k:=.i k) hk rfl, MapKept.run_findKey hk hf, h1, Result.andThen]
theorem run_lookup_is {P : Program} (W : World) (r : Nat) (t kt et : TypeId) (es : Array MapEntry) (clock : Nat) (k : Int) (i : Nat) (v : Value) (hu : P.underlying t = some (.map kt et)) (hk : P.underlying kt = some (.int .i64))
  (hb : W.heap[r]? = some (.map es clock)) (hf : Instr.findNow (.int .i64) (.i k) es.toList 0 = some (some (i, v))) :
  (Instr.lookup t (.map (some r)) (.i k) true).run P W = .ok (.tuple #[v, .bool true]) W:=by
 simp [Instr.lookup, run_underlying hu, MapKept.run_getObj_map hb, MapKept.run_checkKey (k:=.i k) hk rfl, MapKept.run_findKey hk hf, Result.andThen]
def table (n : Nat) : Array MapEntry:=#[⟨.i 0, .func (.func 169) #[] #[.pointer (some ⟨n + 2, 0, none⟩), .pointer (some ⟨n, 0, none⟩)], 0⟩, ⟨.i 1, .func (.func 167) #[] #[.pointer (some ⟨n + 1, 0, none⟩)], 1⟩, ⟨.i 2, .func (.func 168) #[] #[], 2⟩, ⟨.i 3, .func (.func 170) #[] #[.pointer (some ⟨n + 2, 0, none⟩), .pointer (some ⟨n + 3, 0, none⟩)], 3⟩, ⟨.i 4, .func (.func 171) #[] #[.pointer (some ⟨n + 1, 0, none⟩), .pointer (some ⟨n, 0, none⟩)], 4⟩, ⟨.i 5, .func (.func 172) #[] #[], 5⟩, ⟨.i 6, .func (.func 166) #[] #[], 6⟩]
def asksW (w : World) (own : Int) : World :=
 ((((w.alloc (.cells #[.i own] 3)).alloc (.cells #[.func (.func 166) #[] #[]] 83)).alloc (.cells #[.func (.func 167) #[] #[.pointer (some ⟨w.heap.size + 1, 0, none⟩)]] 83)).alloc (.cells #[.func (.func 168) #[] #[]] 83)).alloc (.map (table w.heap.size) 7)
theorem asks_any (w : World) (own : Int) : Calls Tryz.prog 143 #[.i own] w fun e w' => e = .returned (.map (some (w.heap.size + 4))) ∧ w' = asksW w own:=by
 have hmk:=fun W => run_makeMap (P:=Tryz.prog) 154 W
 have h0:=run_insert_new (P:=Tryz.prog) ((((w.alloc (.cells #[.i own] 3)).alloc (.cells #[.func (.func 166) #[] #[]] 83)).alloc (.cells #[.func (.func 167) #[] #[.pointer (some ⟨w.heap.size + 1, 0, none⟩)]] 83)).alloc (.cells #[.func (.func 168) #[] #[]] 83)) (w.heap.size + 1 + 1 + 1 + 1) 154 3 83 #[] 0 0 (.func (.func 169) #[] #[.pointer (some ⟨w.heap.size + 2, 0, none⟩), .pointer (some ⟨w.heap.size, 0, none⟩)]) Tryz.underlying154 Tryz.underlying3 (by simp) rfl
 have h1:=run_insert_new (P:=Tryz.prog) ((((w.alloc (.cells #[.i own] 3)).alloc (.cells #[.func (.func 166) #[] #[]] 83)).alloc (.cells #[.func (.func 167) #[] #[.pointer (some ⟨w.heap.size + 1, 0, none⟩)]] 83)).alloc (.cells #[.func (.func 168) #[] #[]] 83)) (w.heap.size + 1 + 1 + 1 + 1) 154 3 83 #[⟨.i 0, .func (.func 169) #[] #[.pointer (some ⟨w.heap.size + 2, 0, none⟩), .pointer (some ⟨w.heap.size, 0, none⟩)], 0⟩] 1 1 (.func (.func 167) #[] #[.pointer (some ⟨w.heap.size + 1, 0, none⟩)]) Tryz.underlying154 Tryz.underlying3 (by simp) rfl
 have h2:=run_insert_new (P:=Tryz.prog) ((((w.alloc (.cells #[.i own] 3)).alloc (.cells #[.func (.func 166) #[] #[]] 83)).alloc (.cells #[.func (.func 167) #[] #[.pointer (some ⟨w.heap.size + 1, 0, none⟩)]] 83)).alloc (.cells #[.func (.func 168) #[] #[]] 83)) (w.heap.size + 1 + 1 + 1 + 1) 154 3 83 #[⟨.i 0, .func (.func 169) #[] #[.pointer (some ⟨w.heap.size + 2, 0, none⟩), .pointer (some ⟨w.heap.size, 0, none⟩)], 0⟩, ⟨.i 1, .func (.func 167) #[] #[.pointer (some ⟨w.heap.size + 1, 0, none⟩)], 1⟩] 2 2 (.func (.func 168) #[] #[]) Tryz.underlying154 Tryz.underlying3 (by simp) rfl
 have h3:=run_insert_new (P:=Tryz.prog) ((((w.alloc (.cells #[.i own] 3)).alloc (.cells #[.func (.func 166) #[] #[]] 83)).alloc (.cells #[.func (.func 167) #[] #[.pointer (some ⟨w.heap.size + 1, 0, none⟩)]] 83)).alloc (.cells #[.func (.func 168) #[] #[]] 83)) (w.heap.size + 1 + 1 + 1 + 1) 154 3 83 #[⟨.i 0, .func (.func 169) #[] #[.pointer (some ⟨w.heap.size + 2, 0, none⟩), .pointer (some ⟨w.heap.size, 0, none⟩)], 0⟩, ⟨.i 1, .func (.func 167) #[] #[.pointer (some ⟨w.heap.size + 1, 0, none⟩)], 1⟩, ⟨.i 2, .func (.func 168) #[] #[], 2⟩] 3 3 (.func (.func 170) #[] #[.pointer (some ⟨w.heap.size + 2, 0, none⟩), .pointer (some ⟨w.heap.size + 3, 0, none⟩)]) Tryz.underlying154 Tryz.underlying3 (by simp) rfl
 have h4:=run_insert_new (P:=Tryz.prog) ((((w.alloc (.cells #[.i own] 3)).alloc (.cells #[.func (.func 166) #[] #[]] 83)).alloc (.cells #[.func (.func 167) #[] #[.pointer (some ⟨w.heap.size + 1, 0, none⟩)]] 83)).alloc (.cells #[.func (.func 168) #[] #[]] 83)) (w.heap.size + 1 + 1 + 1 + 1) 154 3 83 #[⟨.i 0, .func (.func 169) #[] #[.pointer (some ⟨w.heap.size + 2, 0, none⟩), .pointer (some ⟨w.heap.size, 0, none⟩)], 0⟩, ⟨.i 1, .func (.func 167) #[] #[.pointer (some ⟨w.heap.size + 1, 0, none⟩)], 1⟩, ⟨.i 2, .func (.func 168) #[] #[], 2⟩, ⟨.i 3, .func (.func 170) #[] #[.pointer (some ⟨w.heap.size + 2, 0, none⟩), .pointer (some ⟨w.heap.size + 3, 0, none⟩)], 3⟩] 4 4 (.func (.func 171) #[] #[.pointer (some ⟨w.heap.size + 1, 0, none⟩), .pointer (some ⟨w.heap.size, 0, none⟩)]) Tryz.underlying154 Tryz.underlying3 (by simp) rfl
 have h5:=run_insert_new (P:=Tryz.prog) ((((w.alloc (.cells #[.i own] 3)).alloc (.cells #[.func (.func 166) #[] #[]] 83)).alloc (.cells #[.func (.func 167) #[] #[.pointer (some ⟨w.heap.size + 1, 0, none⟩)]] 83)).alloc (.cells #[.func (.func 168) #[] #[]] 83)) (w.heap.size + 1 + 1 + 1 + 1) 154 3 83 #[⟨.i 0, .func (.func 169) #[] #[.pointer (some ⟨w.heap.size + 2, 0, none⟩), .pointer (some ⟨w.heap.size, 0, none⟩)], 0⟩, ⟨.i 1, .func (.func 167) #[] #[.pointer (some ⟨w.heap.size + 1, 0, none⟩)], 1⟩, ⟨.i 2, .func (.func 168) #[] #[], 2⟩, ⟨.i 3, .func (.func 170) #[] #[.pointer (some ⟨w.heap.size + 2, 0, none⟩), .pointer (some ⟨w.heap.size + 3, 0, none⟩)], 3⟩, ⟨.i 4, .func (.func 171) #[] #[.pointer (some ⟨w.heap.size + 1, 0, none⟩), .pointer (some ⟨w.heap.size, 0, none⟩)], 4⟩] 5 5 (.func (.func 172) #[] #[]) Tryz.underlying154 Tryz.underlying3 (by simp) rfl
 have h6:=run_insert_new (P:=Tryz.prog) ((((w.alloc (.cells #[.i own] 3)).alloc (.cells #[.func (.func 166) #[] #[]] 83)).alloc (.cells #[.func (.func 167) #[] #[.pointer (some ⟨w.heap.size + 1, 0, none⟩)]] 83)).alloc (.cells #[.func (.func 168) #[] #[]] 83)) (w.heap.size + 1 + 1 + 1 + 1) 154 3 83 #[⟨.i 0, .func (.func 169) #[] #[.pointer (some ⟨w.heap.size + 2, 0, none⟩), .pointer (some ⟨w.heap.size, 0, none⟩)], 0⟩, ⟨.i 1, .func (.func 167) #[] #[.pointer (some ⟨w.heap.size + 1, 0, none⟩)], 1⟩, ⟨.i 2, .func (.func 168) #[] #[], 2⟩, ⟨.i 3, .func (.func 170) #[] #[.pointer (some ⟨w.heap.size + 2, 0, none⟩), .pointer (some ⟨w.heap.size + 3, 0, none⟩)], 3⟩, ⟨.i 4, .func (.func 171) #[] #[.pointer (some ⟨w.heap.size + 1, 0, none⟩), .pointer (some ⟨w.heap.size, 0, none⟩)], 4⟩, ⟨.i 5, .func (.func 172) #[] #[], 5⟩] 6 6 (.func (.func 166) #[] #[]) Tryz.underlying154 Tryz.underlying3 (by simp) rfl
 simp only [List.push_toArray, List.nil_append, List.cons_append, Nat.zero_add, Nat.reduceAdd] at hmk h0 h1 h2 h3 h4 h5 h6
 go_enter Tryz.func143, Tryz.ntmps143
 go_wp2
 go_ret
 exact ⟨rfl, rfl⟩
def sound (s : S) : Bool:=s.state == 2 && !s.broken
theorem idle_any (w : World) (s : S) : Calls Tryz.prog 166 #[s.val] w fun e w' => e = .returned (.bool (s.state == 2)) ∧ Below w.heap.size w w':=by
 obtain ⟨st, ow, sm, br, ma, us, ge, ep, ve⟩:=s
 go_enter Tryz.func166, Tryz.ntmps166
 simp only [S.val, S.cells]
 go_wp2
 go_ret
 exact ⟨rfl, (Below.refl _ _).alloc (Nat.le_refl _) _⟩
theorem empty_any (w : World) (s : S) : Calls Tryz.prog 168 #[s.val] w fun e w' => e = .returned (.bool (s.state == 0)) ∧ Below w.heap.size w w':=by
 obtain ⟨st, ow, sm, br, ma, us, ge, ep, ve⟩:=s
 go_enter Tryz.func168, Tryz.ntmps168
 simp only [S.val, S.cells]
 go_wp2
 go_ret
 exact ⟨rfl, (Below.refl _ _).alloc (Nat.le_refl _) _⟩
theorem old_any (w : World) (s : S) : Calls Tryz.prog 172 #[s.val] w fun e w' => e = .returned (.bool (s.state == 6)) ∧ Below w.heap.size w w':=by
 obtain ⟨st, ow, sm, br, ma, us, ge, ep, ve⟩:=s
 go_enter Tryz.func172, Tryz.ntmps172
 simp only [S.val, S.cells]
 go_wp2
 go_ret
 exact ⟨rfl, (Below.refl _ _).alloc (Nat.le_refl _) _⟩
theorem sound_any (w : World) (s : S) (p3 : Nat) (h3 : w.cell? ⟨p3, 0, none⟩ = some (.func (.func 166) #[] #[])) : Calls Tryz.prog 167 #[s.val, .pointer (some ⟨p3, 0, none⟩)] w fun e w' => e = .returned (.bool (sound s)) ∧ Below w.heap.size w w':=by
 have hi:=fun w => idle_any w s
 obtain ⟨st, ow, sm, br, ma, us, ge, ep, ve⟩:=s
 simp only [S.val, S.cells] at hi
 have h3' : (w.alloc (.cells (Aa st ow sm br ma us ge ep ve) 41)).cell? ⟨p3, 0, none⟩ = some (.func (.func 166) #[] #[]):=(World.cell?_alloc_lt _ _ _ (World.block_lt_of_cell? _ _ h3)).trans h3
 have Hh3:=Lib.hid h3'
 clear h3'
 generalize hq : (st == 2) = b at hi
 have HQ:=Lib.hid hq
 clear hq
 have lth3:=World.block_lt_of_cell? _ _ h3
 simp only at lth3
 go_enter Tryz.func167, Tryz.ntmps167
 simp only [S.val, S.cells]
 go_wp2_with (simp only [Hh3.out])
 refine (hi _).mono ?_
 rintro e w5 ⟨rfl, hb5⟩
 have hB : Below w.heap.size w w5:=((Below.refl _ _).alloc (Nat.le_refl _) _).trans (hb5.mono (by simp))
 have c3_5 : w5.cell? ⟨w.heap.size, 3, none⟩ = some (.bool br):=Field.bkeep hb5 (by simp)
 clear hi hb5
 cases b
 all_goals (
  go_wp2_with fail
  go_ret
  exact ⟨Base.ret_bool (by simp [sound, HQ.out]), hB⟩)
theorem own_any (w : World) (s : S) (own : Int) (p1 p3 p4 : Nat) (h1 : w.cell? ⟨p1, 0, none⟩ = some (.i own)) (h3 : w.cell? ⟨p3, 0, none⟩ = some (.func (.func 166) #[] #[])) (h4 : w.cell? ⟨p4, 0, none⟩ = some (.func (.func 167) #[] #[.pointer (some ⟨p3, 0, none⟩)])) : Calls Tryz.prog 169 #[s.val, .pointer (some ⟨p4, 0, none⟩), .pointer (some ⟨p1, 0, none⟩)] w fun e w' => e = .returned (.bool (sound s && s.own == own)) ∧ Below w.heap.size w w':=by
 have hi:=fun w h => sound_any w s p3 h
 obtain ⟨st, ow, sm, br, ma, us, ge, ep, ve⟩:=s
 simp only [S.val, S.cells] at hi
 have h1' : (w.alloc (.cells (Aa st ow sm br ma us ge ep ve) 41)).cell? ⟨p1, 0, none⟩ = some (.i own):=(World.cell?_alloc_lt _ _ _ (World.block_lt_of_cell? _ _ h1)).trans h1
 have h3' : (w.alloc (.cells (Aa st ow sm br ma us ge ep ve) 41)).cell? ⟨p3, 0, none⟩ = some (.func (.func 166) #[] #[]):=(World.cell?_alloc_lt _ _ _ (World.block_lt_of_cell? _ _ h3)).trans h3
 have h4' : (w.alloc (.cells (Aa st ow sm br ma us ge ep ve) 41)).cell? ⟨p4, 0, none⟩ = some (.func (.func 167) #[] #[.pointer (some ⟨p3, 0, none⟩)]):=(World.cell?_alloc_lt _ _ _ (World.block_lt_of_cell? _ _ h4)).trans h4
 have Hh1:=Lib.hid h1'
 have Hh3:=Lib.hid h3'
 have Hh4:=Lib.hid h4'
 clear h1' h3' h4'
 generalize hq : sound ⟨st, ow, sm, br, ma, us, ge, ep, ve⟩ = b at *
 clear hq
 have lth1:=World.block_lt_of_cell? _ _ h1
 have lth3:=World.block_lt_of_cell? _ _ h3
 have lth4:=World.block_lt_of_cell? _ _ h4
 simp only at lth1 lth3 lth4
 go_enter Tryz.func169, Tryz.ntmps169
 simp only [S.val, S.cells]
 go_wp2_with (simp only [Hh4.out])
 refine (hi _ Hh3.out).mono ?_
 rintro e w5 ⟨rfl, hb5⟩
 have hB : Below w.heap.size w w5:=((Below.refl _ _).alloc (Nat.le_refl _) _).trans (hb5.mono (by simp))
 have c1_5 : w5.cell? ⟨w.heap.size, 1, none⟩ = some (.i ow):=Field.bkeep hb5 (by simp)
 have h15 : w5.cell? ⟨p1, 0, none⟩ = some (.i own):=Field.bkeep hb5 Hh1.out
 clear hi hb5
 cases b
 all_goals (
  go_wp2_with fail
  go_ret
  exact ⟨Base.ret_bool (by simp), hB⟩)
theorem some_any (w : World) (s : S) (p3 p4 p5 : Nat) (h3 : w.cell? ⟨p3, 0, none⟩ = some (.func (.func 166) #[] #[])) (h4 : w.cell? ⟨p4, 0, none⟩ = some (.func (.func 167) #[] #[.pointer (some ⟨p3, 0, none⟩)])) (h5 : w.cell? ⟨p5, 0, none⟩ = some (.func (.func 168) #[] #[])) : Calls Tryz.prog 170 #[s.val, .pointer (some ⟨p4, 0, none⟩), .pointer (some ⟨p5, 0, none⟩)] w fun e w' => e = .returned (.bool (sound s || s.state == 0)) ∧ Below w.heap.size w w':=by
 have hi:=fun w h => sound_any w s p3 h
 have he:=fun w => empty_any w s
 obtain ⟨st, ow, sm, br, ma, us, ge, ep, ve⟩:=s
 simp only [S.val, S.cells] at hi he
 have h3' : (w.alloc (.cells (Aa st ow sm br ma us ge ep ve) 41)).cell? ⟨p3, 0, none⟩ = some (.func (.func 166) #[] #[]):=(World.cell?_alloc_lt _ _ _ (World.block_lt_of_cell? _ _ h3)).trans h3
 have h4' : (w.alloc (.cells (Aa st ow sm br ma us ge ep ve) 41)).cell? ⟨p4, 0, none⟩ = some (.func (.func 167) #[] #[.pointer (some ⟨p3, 0, none⟩)]):=(World.cell?_alloc_lt _ _ _ (World.block_lt_of_cell? _ _ h4)).trans h4
 have h5' : (w.alloc (.cells (Aa st ow sm br ma us ge ep ve) 41)).cell? ⟨p5, 0, none⟩ = some (.func (.func 168) #[] #[]):=(World.cell?_alloc_lt _ _ _ (World.block_lt_of_cell? _ _ h5)).trans h5
 have Hh3:=Lib.hid h3'
 have Hh4:=Lib.hid h4'
 have Hh5:=Lib.hid h5'
 clear h3' h4' h5'
 generalize hq : sound ⟨st, ow, sm, br, ma, us, ge, ep, ve⟩ = b at *
 clear hq
 have lth3:=World.block_lt_of_cell? _ _ h3
 have lth4:=World.block_lt_of_cell? _ _ h4
 have lth5:=World.block_lt_of_cell? _ _ h5
 simp only at lth3 lth4 lth5
 go_enter Tryz.func170, Tryz.ntmps170
 simp only [S.val, S.cells]
 go_wp2_with (simp only [Hh4.out])
 refine (hi _ Hh3.out).mono ?_
 rintro e w5 ⟨rfl, hb5⟩
 have hB : Below w.heap.size w w5:=((Below.refl _ _).alloc (Nat.le_refl _) _).trans (hb5.mono (by simp))
 have c0_5 : w5.cell? ⟨w.heap.size, 0, none⟩ = some (.i st):=Field.bkeep hb5 (by simp)
 have c1_5 : w5.cell? ⟨w.heap.size, 1, none⟩ = some (.i ow):=Field.bkeep hb5 (by simp)
 have c2_5 : w5.cell? ⟨w.heap.size, 2, none⟩ = some (.i sm):=Field.bkeep hb5 (by simp)
 have c3_5 : w5.cell? ⟨w.heap.size, 3, none⟩ = some (.bool br):=Field.bkeep hb5 (by simp)
 have c4_5 : w5.cell? ⟨w.heap.size, 4, none⟩ = some (.bool ma):=Field.bkeep hb5 (by simp)
 have c5_5 : w5.cell? ⟨w.heap.size, 5, none⟩ = some (.i us):=Field.bkeep hb5 (by simp)
 have c6_5 : w5.cell? ⟨w.heap.size, 6, none⟩ = some (.i ge):=Field.bkeep hb5 (by simp)
 have c7_5 : w5.cell? ⟨w.heap.size, 7, none⟩ = some (.i ep):=Field.bkeep hb5 (by simp)
 have c8_5 : w5.cell? ⟨w.heap.size, 8, none⟩ = some (.i ve):=Field.bkeep hb5 (by simp)
 have h55 : w5.cell? ⟨p5, 0, none⟩ = some (.func (.func 168) #[] #[]):=Field.bkeep hb5 Hh5.out
 clear hi hb5
 cases b
 ·go_wp2_with fail
  refine (he _).mono ?_
  rintro e w6 ⟨rfl, hb6⟩
  have hB6:=hB.trans (hb6.mono hB.size)
  go_wp2_with fail
  go_ret
  exact ⟨Base.ret_bool (by simp), hB6⟩
 ·go_wp2_with fail
  go_ret
  exact ⟨Base.ret_bool (by simp), hB⟩
theorem swept_any (w : World) (s : S) (own : Int) (p1 p3 : Nat) (h1 : w.cell? ⟨p1, 0, none⟩ = some (.i own)) (h3 : w.cell? ⟨p3, 0, none⟩ = some (.func (.func 166) #[] #[])) : Calls Tryz.prog 171 #[s.val, .pointer (some ⟨p3, 0, none⟩), .pointer (some ⟨p1, 0, none⟩)] w fun e w' => e = .returned (.bool (if s.state == 2 then s.broken || (own == 1 || own == 2) else s.state == 3 && own == 2)) ∧ Below w.heap.size w w':=by
 have hi:=fun w => idle_any w s
 obtain ⟨st, ow, sm, br, ma, us, ge, ep, ve⟩:=s
 simp only [S.val, S.cells] at hi
 have h1' : (w.alloc (.cells (Aa st ow sm br ma us ge ep ve) 41)).cell? ⟨p1, 0, none⟩ = some (.i own):=(World.cell?_alloc_lt _ _ _ (World.block_lt_of_cell? _ _ h1)).trans h1
 have h3' : (w.alloc (.cells (Aa st ow sm br ma us ge ep ve) 41)).cell? ⟨p3, 0, none⟩ = some (.func (.func 166) #[] #[]):=(World.cell?_alloc_lt _ _ _ (World.block_lt_of_cell? _ _ h3)).trans h3
 have Hh1:=Lib.hid h1'
 have Hh3:=Lib.hid h3'
 clear h1' h3'
 generalize hq : (st == 2) = b at *
 clear hq
 have lth1:=World.block_lt_of_cell? _ _ h1
 have lth3:=World.block_lt_of_cell? _ _ h3
 simp only at lth1 lth3
 go_enter Tryz.func171, Tryz.ntmps171
 simp only [S.val, S.cells]
 go_wp2_with (simp only [Hh3.out])
 refine (hi _).mono ?_
 rintro e w5 ⟨rfl, hb5⟩
 have hB : Below w.heap.size w w5:=((Below.refl _ _).alloc (Nat.le_refl _) _).trans (hb5.mono (by simp))
 have c0_5 : w5.cell? ⟨w.heap.size, 0, none⟩ = some (.i st):=Field.bkeep hb5 (by simp)
 have c3_5 : w5.cell? ⟨w.heap.size, 3, none⟩ = some (.bool br):=Field.bkeep hb5 (by simp)
 have h15 : w5.cell? ⟨p1, 0, none⟩ = some (.i own):=Field.bkeep hb5 Hh1.out
 clear hi hb5
 cases b
 ·by_cases h : st = 3
  ·subst h
   go_wp2_with fail
   go_ret
   exact ⟨Base.ret_bool (by simp), hB⟩
  ·have hk : (st == 3) = false:=by simpa using h
   go_wp2_with fail
   go_ret
   exact ⟨Base.ret_bool (by simp [h]), hB⟩
 ·cases br
  ·by_cases h : own = 1
   ·subst h
    go_wp2_with fail
    go_ret
    exact ⟨Base.ret_bool (by simp), hB⟩
   ·have hk : (own == 1) = false:=by simpa using h
    go_wp2_with fail
    go_ret
    exact ⟨Base.ret_bool (by simp [h]), hB⟩
  ·go_wp2_with fail
   go_ret
   exact ⟨Base.ret_bool (by simp), hB⟩
def swept (s : S) (own : Int) : Bool:=if s.state == 2 then s.broken || (own == 1 || own == 2) else s.state == 3 && own == 2
def fits (s : S) (kind own : Int) : Bool :=
 if kind = 0 then sound s && s.own == own else if kind = 1 then sound s else if kind = 2 then s.state == 0 else if kind = 3 then sound s || s.state == 0
 else if kind = 4 then swept s own else if kind = 5 then s.state == 6 else if kind = 6 then s.state == 2 else false
structure Asked (w : World) (n : Nat) (own : Int) : Prop where
 h1 : w.cell? ⟨n, 0, none⟩ = some (.i own)
 h3 : w.cell? ⟨n + 1, 0, none⟩ = some (.func (.func 166) #[] #[])
 h4 : w.cell? ⟨n + 2, 0, none⟩ = some (.func (.func 167) #[] #[.pointer (some ⟨n + 1, 0, none⟩)])
 h5 : w.cell? ⟨n + 3, 0, none⟩ = some (.func (.func 168) #[] #[])
 tab : w.heap[n + 4]? = some (.map (table n) 7)
theorem asked (w : World) (own : Int) : Asked (asksW w own) w.heap.size own:=by
 unfold asksW
 refine ⟨by go_simp, by go_simp, by go_simp, by go_simp, ?_⟩
 have h : ∀ (W : World) (o : Obj), W.heap.size = w.heap.size + 4 → (W.alloc o).heap[w.heap.size + 4]? = some o:=fun W o e => by rw [← e]; exact World.alloc_heap_new W o
 exact h _ _ (by simp)
theorem asks_below (w : World) (own : Int) : Below w.heap.size w (asksW w own):=by
 unfold asksW
 exact (((((Below.refl _ _).alloc (Nat.le_refl _) _).alloc (by simp) _).alloc (by simp; omega) _).alloc (by simp; omega) _).alloc (by simp; omega) _
theorem fits_any (w : World) (s : S) (kind own : Int) (hk : kind = 0 ∨ kind = 1 ∨ kind = 2 ∨ kind = 3 ∨ kind = 4 ∨ kind = 6) : Calls Tryz.prog 127 #[s.val, .i kind, .i own] w fun e w' =>
  e = .returned (.bool (fits s kind own)) ∧ Below w.heap.size w w':=by
 have ha:=asks_any (w.alloc (.cells s.cells 41)) own
 have hA:=asked (w.alloc (.cells s.cells 41)) own
 have hB:=((Below.refl w.heap.size w).alloc (Nat.le_refl _) (.cells s.cells 41)).trans ((asks_below (w.alloc (.cells s.cells 41)) own).mono (by simp))
 have hcc : ∀ (i : Nat) (v : Value), s.cells[i]? = some v → (asksW (w.alloc (.cells s.cells 41)) own).cell? ⟨w.heap.size, i, none⟩ = some v:=fun i v hv => ((asks_below _ own).cell (p:=⟨w.heap.size, i, none⟩) (by simp)).trans (by rw [World.cell?, World.alloc_heap_new]; exact hv)
 have c0:=hcc 0 (.i s.state) rfl
 have c1:=hcc 1 (.i s.own) rfl
 have c2:=hcc 2 (.i s.streams) rfl
 have c3:=hcc 3 (.bool s.broken) rfl
 have c4:=hcc 4 (.bool s.marked) rfl
 have c5:=hcc 5 (.i s.uses) rfl
 have c6:=hcc 6 (.i s.gen) rfl
 have c7:=hcc 7 (.i s.epoch) rfl
 have c8:=hcc 8 (.i s.version) rfl
 have hi0:=fun h1 h3 h4 => own_any (asksW (w.alloc (.cells s.cells 41)) own) s own (w.alloc (.cells s.cells 41)).heap.size ((w.alloc (.cells s.cells 41)).heap.size + 1) ((w.alloc (.cells s.cells 41)).heap.size + 2) h1 h3 h4
 have hi0':=hi0 hA.h1 hA.h3 hA.h4
 clear hi0
 have hi1:=sound_any _ s _ hA.h3
 have hi2:=empty_any (asksW (w.alloc (.cells s.cells 41)) own) s
 have hi3:=some_any _ s _ _ _ hA.h3 hA.h4 hA.h5
 have hi4':=swept_any _ s own _ _ hA.h1 hA.h3
 have hi4 : Calls Tryz.prog 171 _ _ fun e w' => e = .returned (.bool (swept s own)) ∧ Below _ _ w':=hi4'
 clear hi4'
 have hi6:=idle_any (asksW (w.alloc (.cells s.cells 41)) own) s
 have hl0:=run_lookup_is (P:=Tryz.prog) _ _ 154 3 83 _ 7 0 0 _ Tryz.underlying154 Tryz.underlying3 hA.tab (by rfl)
 have hl1:=run_lookup_is (P:=Tryz.prog) _ _ 154 3 83 _ 7 1 1 _ Tryz.underlying154 Tryz.underlying3 hA.tab (by rfl)
 have hl2:=run_lookup_is (P:=Tryz.prog) _ _ 154 3 83 _ 7 2 2 _ Tryz.underlying154 Tryz.underlying3 hA.tab (by rfl)
 have hl3:=run_lookup_is (P:=Tryz.prog) _ _ 154 3 83 _ 7 3 3 _ Tryz.underlying154 Tryz.underlying3 hA.tab (by rfl)
 have hl4:=run_lookup_is (P:=Tryz.prog) _ _ 154 3 83 _ 7 4 4 _ Tryz.underlying154 Tryz.underlying3 hA.tab (by rfl)
 have hl6:=run_lookup_is (P:=Tryz.prog) _ _ 154 3 83 _ 7 6 6 _ Tryz.underlying154 Tryz.underlying3 hA.tab (by rfl)
 have hfs : ∀ k : Int, fits s k own = (if k = 0 then sound s && s.own == own else if k = 1 then sound s else if k = 2 then s.state == 0 else if k = 3 then sound s || s.state == 0 else if k = 4 then swept s own else if k = 5 then s.state == 6 else if k = 6 then s.state == 2 else false):=fun k => rfl
 have HFS:=Lib.hid hfs
 have hsz : (w.alloc (.cells s.cells 41)).heap.size = w.heap.size + 1:=by simp
 rw [hsz] at ha hi0' hi1 hi3 hi4 hl0 hl1 hl2 hl3 hl4 hl6
 clear hA hcc hfs
 have hi0:=hi0'
 clear hi0'
 generalize hsw : swept s own = bsw at hi4
 have HSW:=Lib.hid hsw
 clear hsw
 obtain ⟨st, ow, sm, br, ma, us, ge, ep, ve⟩:=s
 simp only [S.val, S.cells, World.size_alloc] at ha hi0 hi1 hi2 hi3 hi4 hi6 hl0 hl1 hl2 hl3 hl4 hl6 hB c0 c1 c2 c3 c4 c5 c6 c7 c8
 go_enter Tryz.func127, Tryz.ntmps127
 simp only [S.val, S.cells]
 go_wp2_with fail
 refine ha.mono ?_
 rintro e wa ⟨rfl, rfl⟩
 generalize asksW (w.alloc (.cells (Aa st ow sm br ma us ge ep ve) 41)) own = wa at *
 clear ha hsz
 rcases hk with rfl | rfl | rfl | rfl | rfl | rfl
 ·clear hi1 hl1 hi2 hl2 hi3 hl3 hi4 hl4 hi6 hl6
  go_wp2_with fail
  refine hi0.mono ?_
  rintro e w6 ⟨rfl, hb6⟩
  have hB6:=hB.trans (hb6.mono hB.size)
  clear hi0 hl0 c0 c1 c2 c3 c4 c5 c6 c7 c8 hb6
  go_wp2_with fail
  go_ret
  exact ⟨Base.ret_bool (by rw [HFS.out]; simp [HSW.out]), hB6⟩
 ·clear hi0 hl0 hi2 hl2 hi3 hl3 hi4 hl4 hi6 hl6
  go_wp2_with fail
  refine hi1.mono ?_
  rintro e w6 ⟨rfl, hb6⟩
  have hB6:=hB.trans (hb6.mono hB.size)
  clear hi1 hl1 c0 c1 c2 c3 c4 c5 c6 c7 c8 hb6
  go_wp2_with fail
  go_ret
  exact ⟨Base.ret_bool (by rw [HFS.out]; simp [HSW.out]), hB6⟩
 ·clear hi0 hl0 hi1 hl1 hi3 hl3 hi4 hl4 hi6 hl6
  go_wp2_with fail
  refine hi2.mono ?_
  rintro e w6 ⟨rfl, hb6⟩
  have hB6:=hB.trans (hb6.mono hB.size)
  clear hi2 hl2 c0 c1 c2 c3 c4 c5 c6 c7 c8 hb6
  go_wp2_with fail
  go_ret
  exact ⟨Base.ret_bool (by rw [HFS.out]; simp [HSW.out]), hB6⟩
 ·clear hi0 hl0 hi1 hl1 hi2 hl2 hi4 hl4 hi6 hl6
  go_wp2_with fail
  refine hi3.mono ?_
  rintro e w6 ⟨rfl, hb6⟩
  have hB6:=hB.trans (hb6.mono hB.size)
  clear hi3 hl3 c0 c1 c2 c3 c4 c5 c6 c7 c8 hb6
  go_wp2_with fail
  go_ret
  exact ⟨Base.ret_bool (by rw [HFS.out]; simp [HSW.out]), hB6⟩
 ·clear hi0 hl0 hi1 hl1 hi2 hl2 hi3 hl3 hi6 hl6
  go_wp2_with fail
  refine hi4.mono ?_
  rintro e w6 ⟨rfl, hb6⟩
  have hB6:=hB.trans (hb6.mono hB.size)
  clear hi4 hl4 c0 c1 c2 c3 c4 c5 c6 c7 c8 hb6
  go_wp2_with fail
  go_ret
  exact ⟨Base.ret_bool (by rw [HFS.out]; simp [HSW.out]), hB6⟩
 ·clear hi0 hl0 hi1 hl1 hi2 hl2 hi3 hl3 hi4 hl4
  go_wp2_with fail
  refine hi6.mono ?_
  rintro e w6 ⟨rfl, hb6⟩
  have hB6:=hB.trans (hb6.mono hB.size)
  clear hi6 hl6 c0 c1 c2 c3 c4 c5 c6 c7 c8 hb6
  go_wp2_with fail
  go_ret
  exact ⟨Base.ret_bool (by rw [HFS.out]; simp [HSW.out]), hB6⟩
end Go.Proofs.YteadpgiffpfmnaaGreatDoor.Find
namespace Go.Proofs.YteadpgiffpfmnaaGreatDoor.Cl
open Go.RowKit Hp RowL
def WRow (W : World) (g : Nat) (l : List Int) : Prop:=RowAt W g ⟨l.map (Value.int .i64)⟩ 3
theorem WRow.get {W : World} {g : Nat} {l : List Int} (h : WRow W g l) {i : Nat} {x : Int} (hx : l[i]? = some x) : W.cell? ⟨g, i, none⟩ = some (.i x):=by
 rw [RowAt.cell h i]
 simp [hx]
theorem WRow.set {W : World} {g : Nat} {l : List Int} (h : WRow W g l) (i : Nat) (x : Int) : WRow (W.setCell ⟨g, i, none⟩ (.i x)) g (l.set i x):=by
 have h1:=RowAt.setc h i (.i x)
 unfold WRow
 have e : (⟨l.map (Value.int .i64)⟩ : Array Value).setIfInBounds i (.i x) = ⟨(l.set i x).map (Value.int .i64)⟩:=by
  rw [List.map_set]
  simp
 rw [← e]
 exact h1
structure CAt (W : World) (mb wb : Nat) (ws : List Int) (tc : Int) : Prop where
 c0 : W.cell? ⟨mb, 0, none⟩ = some (.slice (some ⟨wb, 0, none⟩) ws.length ws.length)
 c1 : W.cell? ⟨mb, 1, none⟩ = some (.i tc)
 f1 : W.frozen? ⟨mb, 1, none⟩ = false
 row : WRow W wb ws
 ne : mb ≠ wb
 len : 1 ≤ ws.length ∧ ws.length ≤ 4096
section
variable {W W' : World} {mb wb : Nat} {ws : List Int} {tc : Int}
theorem CAt.lt (h : CAt W mb wb ws tc) : mb < W.heap.size ∧ wb < W.heap.size:=⟨World.block_lt_of_cell? _ _ h.c0, RowAt.lt h.row⟩
theorem CAt.stable (h : CAt W mb wb ws tc) (h1 : W'.heap[mb]? = W.heap[mb]?) (h2 : W'.heap[wb]? = W.heap[wb]?) : CAt W' mb wb ws tc :=
 ⟨(World.cell?_of_block (w:=W) h1).trans h.c0, (World.cell?_of_block (w:=W) h1).trans h.c1, (World.frozen?_of_block (w:=W) h1).trans h.f1, h2.trans h.row, h.ne, h.len⟩
theorem CAt.below (h : CAt W mb wb ws tc) (hb : Below W.heap.size W W') : CAt W' mb wb ws tc:=h.stable (hb.block _ h.lt.1) (hb.block _ h.lt.2)
theorem CAt.chg {F : Nat → Prop} (h : CAt W mb wb ws tc) (hc : Chg F W W') (h1 : ¬ F mb) (h2 : ¬ F wb) : CAt W' mb wb ws tc:=h.stable (hc.block _ h.lt.1 h1) (hc.block _ h.lt.2 h2)
def cfp (mb wb k : Nat) : Prop:=k = mb ∨ k = wb
theorem CAt.touch (h : CAt W mb wb ws tc) (n : Int) : CAt (W.setCell ⟨mb, 1, none⟩ (.i n)) mb wb ws n:=by
 have hne:=h.ne
 refine ⟨?_, ?_, ?_, (heap_setCell_other W _ _ _ (by simpa using fun e => hne e.symm)).trans h.row, hne, h.len⟩
 ·rw [World.cell?_setCell_other _ _ _ _ (by simp)]; exact h.c0
 ·exact World.cell?_setCell_same' _ _ _ (by rw [h.c1]; rfl)
 ·rw [World.frozen?_setCell]; exact h.f1
theorem CAt.put (h : CAt W mb wb ws tc) (i : Nat) (x : Int) : CAt (W.setCell ⟨wb, i, none⟩ (.i x)) mb wb (ws.set i x) tc:=by
 have hne:=h.ne
 refine ⟨?_, ?_, ?_, h.row.set i x, hne, by simpa using h.len⟩
 ·rw [World.cell?_setCell_far _ _ _ _ (fun e => hne e.symm), List.length_set]; exact h.c0
 ·rw [World.cell?_setCell_far _ _ _ _ (fun e => hne e.symm)]; exact h.c1
 ·rw [World.frozen?_setCell]; exact h.f1
theorem CAt.frozen (h : CAt W mb wb ws tc) (i : Nat) : W.frozen? ⟨wb, i, none⟩ = false:=RowAt.frozen h.row i
end
theorem load1_any (W : World) (p : Addr) (x : Int) (h : W.cell? p = some (.i x)) : Calls Tryz.prog 113 #[.pointer (some p)] W fun e W' => e = .returned (.i x) ∧ W = W':=by
 go_enter Tryz.func113, Tryz.ntmps113
 go_wp2_with fail
 go_ret
 exact ⟨rfl, rfl⟩
theorem store1_any (W : World) (p q : Addr) (x y : Int) (h : W.cell? p = some (.i x)) (hf : W.frozen? p = false) (hq : W.cell? q = some (.i y)) : Calls Tryz.prog 58 #[.pointer (some p), .pointer (some q)] W fun e W' => e = .returned (.bool true) ∧ W.setCell p (.i y) = W':=by
 go_enter Tryz.func58, Tryz.ntmps58
 go_wp2_with fail
 go_ret
 exact ⟨rfl, rfl⟩
theorem cas1_eq (W : World) (p q r : Addr) (x z : Int) (h : W.cell? p = some (.i x)) (hf : W.frozen? p = false) (hq : W.cell? q = some (.i x)) (hr : W.cell? r = some (.i z)) :
  Calls Tryz.prog 123 #[.pointer (some p), .pointer (some q), .pointer (some r)] W fun e W' => e = .returned (.bool true) ∧ ∃ n, (W.drewN n).setCell p (.i z) = W':=by
 go_enter Tryz.func123, Tryz.ntmps123
 go_wp2_with fail
 go_quiet (fail)
 go_wp2_with fail
 go_ret
 exact ⟨rfl, nq, rfl⟩
theorem cas1_ne (W : World) (p q r : Addr) (x y z : Int) (h : W.cell? p = some (.i x)) (hf : W.frozen? p = false) (hq : W.cell? q = some (.i y)) (hr : W.cell? r = some (.i z)) (hne : x ≠ y) :
  Calls Tryz.prog 123 #[.pointer (some p), .pointer (some q), .pointer (some r)] W fun e W' => e = .returned (.bool false) ∧ ∃ n, W.drewN n = W':=by
 have e2 : (x != y) = true:=by simpa using hne
 go_enter Tryz.func123, Tryz.ntmps123
 go_wp2_with fail
 go_quiet (fail)
 go_wp2_with fail
 go_ret
 exact ⟨rfl, nq, rfl⟩
section
variable {W : World} {mb wb : Nat} {ws : List Int} {tc : Int}
def CPost (W : World) (mb wb : Nat) (ans : Value) (ws' : List Int) (tc' : Int) (e : Ending) (W' : World) : Prop:=e = .returned ans ∧ CAt W' mb wb ws' tc' ∧ Chg (cfp mb wb) W W'
theorem load_any (h : CAt W mb wb ws tc) (ht : 0 ≤ tc ∧ tc ≤ 4000000000000000000) (i : Nat) (x : Int) (hx : ws[i]? = some x) : Calls Tryz.prog 90 #[.pointer (some ⟨mb, 0, none⟩), .i i] W (CPost W mb wb (.i x) ws (tc + 1)):=by
 have hw : Calls Tryz.prog 112 #[.pointer (some ⟨mb, 0, none⟩), .i i, .func (.func 113) #[] #[]] W (CPost W mb wb (.i x) ws (tc + 1)):=by
  have hi : i < ws.length:=(List.getElem?_eq_some_iff.1 hx).1
  have n0 : (0 : Int) ≤ (i : Int):=by omega
  have n1 : (i : Int) < (ws.length : Int):=by omega
  have n2 : (i : Int) ≤ (ws.length : Int) - 1:=by omega
  have n3 : ¬ (i : Int) < 0:=by omega
  have n4 : ¬ (ws.length : Int) ≤ (i : Int):=by omega
  have hwr : IntKind.i64.wrap (tc + 1) = tc + 1:=by rw [IntKind.wrap_i64]; omega
  have c0:=h.c0
  have c1:=h.c1
  have f1:=h.f1
  have h2:=h.touch (tc + 1)
  have hC : Chg (cfp mb wb) W (W.setCell ⟨mb, 1, none⟩ (.i (tc + 1))):=(Chg.refl _ W).setCell _ _ (fun _ => .inl rfl)
  have hcell:=h2.row.get hx
  go_enter Tryz.func112, Tryz.ntmps112
  go_upto_region 5 with (fail)
  generalize W.setCell ⟨mb, 1, none⟩ (.i (tc + 1)) = W2 at *
  have d0:=h2.c0
  clear c0 c1 f1
  go_wp2_with fail
  refine (load1_any W2 _ x hcell).mono ?_
  rintro e w3 ⟨rfl, rfl⟩
  go_wp2_with fail
  go_ret
  exact ⟨rfl, h2, hC⟩
 go_enter Tryz.func90, Tryz.ntmps90
 go_wp2_with fail
 refine hw.mono ?_
 rintro e w3 ⟨rfl, h2, hC⟩
 go_wp2_with fail
 go_ret
 exact ⟨rfl, h2, hC⟩
end
theorem bdrewN {B : Nat} {a w : World} (h : Below B a w) (n : Nat) : Below B a (w.drewN n):=⟨h.os, h.tape, h.output, h.size, h.block⟩
theorem add1_any (W : World) (p q : Addr) (x d : Int) (h : W.cell? p = some (.i x)) (hf : W.frozen? p = false) (hq : W.cell? q = some (.i d)) (hpq : p ≠ q) : Calls Tryz.prog 184 #[.pointer (some p), .pointer (some q)] W fun e W' => e = .returned (.i x) ∧ (W.setCell p (.i (wrap64 (x + d)))).drew = W':=by
 go_enter Tryz.func184, Tryz.ntmps184
 go_wp2_with fail
 go_region
 go_wp2_with fail
 go_ret
 exact ⟨rfl, rfl⟩
section
variable {W : World} {mb wb : Nat} {ws : List Int} {tc : Int}
theorem store_any (h : CAt W mb wb ws tc) (ht : 0 ≤ tc ∧ tc ≤ 4000000000000000000) (i : Nat) (x : Int) (hx : ws[i]? = some x) (v : Int) : Calls Tryz.prog 36 #[.pointer (some ⟨mb, 0, none⟩), .i i, .i v] W (CPost W mb wb (.bool true) (ws.set i v) (tc + 1)):=by
 have hB : Below W.heap.size W (W.alloc (.cells #[.i v] 3)):=(Below.refl _ _).alloc (Nat.le_refl _) _
 have b0 : (W.alloc (.cells #[.i v] 3)).cell? ⟨W.heap.size, 0, none⟩ = some (.i v):=by simp
 have hs0 : W.heap.size ≤ (W.alloc (.cells #[.i v] 3)).heap.size:=hB.size
 have hlt:=h.lt
 have h1:=h.below hB
 have hw : ∀ W1, CAt W1 mb wb ws tc → Below W.heap.size W W1 → W1.cell? ⟨W.heap.size, 0, none⟩ = some (.i v) → Calls Tryz.prog 57 #[.pointer (some ⟨mb, 0, none⟩), .i i, .func (.func 58) #[] #[.pointer (some ⟨W.heap.size, 0, none⟩)]] W1 (CPost W1 mb wb (.bool true) (ws.set i v) (tc + 1)):=by
  intro W1 h hB1 q0
  have hi : i < ws.length:=(List.getElem?_eq_some_iff.1 hx).1
  have n0 : (0 : Int) ≤ (i : Int):=by omega
  have n1 : (i : Int) < (ws.length : Int):=by omega
  have n2 : (i : Int) ≤ (ws.length : Int) - 1:=by omega
  have n3 : ¬ (i : Int) < 0:=by omega
  have n4 : ¬ (ws.length : Int) ≤ (i : Int):=by omega
  have hwr : IntKind.i64.wrap (tc + 1) = tc + 1:=by rw [IntKind.wrap_i64]; omega
  have c0:=h.c0
  have c1:=h.c1
  have f1:=h.f1
  have h2:=h.touch (tc + 1)
  have hC : Chg (cfp mb wb) W1 (W1.setCell ⟨mb, 1, none⟩ (.i (tc + 1))):=(Chg.refl _ W1).setCell _ _ (fun _ => .inl rfl)
  have hcell:=h2.row.get hx
  have hfz:=h2.frozen i
  have r0 : (W1.setCell ⟨mb, 1, none⟩ (.i (tc + 1))).cell? ⟨W.heap.size, 0, none⟩ = some (.i v):=(World.cell?_setCell_far _ _ _ _ (by simp; omega)).trans q0
  go_enter Tryz.func57, Tryz.ntmps57
  go_upto_region 5 with (fail)
  generalize W1.setCell ⟨mb, 1, none⟩ (.i (tc + 1)) = W2 at *
  have d0:=h2.c0
  clear c0 c1 f1
  go_wp2_with fail
  refine (store1_any W2 _ _ x v hcell hfz r0).mono ?_
  rintro e w3 ⟨rfl, rfl⟩
  go_wp2_with fail
  go_ret
  exact ⟨rfl, h2.put i v, hC.setCell _ _ (fun _ => .inr rfl)⟩
 have hg:=hw _ h1 hB b0
 clear hw
 go_enter Tryz.func36, Tryz.ntmps36
 go_wp2_with fail
 refine hg.mono ?_
 rintro e w3 ⟨rfl, h2, hC⟩
 go_wp2_with fail
 go_ret
 exact ⟨rfl, h2, (Chg.ofBelow (F:=cfp mb wb) hB).trans hC (fun _ _ h => h)⟩
theorem cas_eq (h : CAt W mb wb ws tc) (ht : 0 ≤ tc ∧ tc ≤ 4000000000000000000) (i : Nat) (x : Int) (hx : ws[i]? = some x) (z : Int) : Calls Tryz.prog 105 #[.pointer (some ⟨mb, 0, none⟩), .i i, .i x, .i z] W (CPost W mb wb (.bool true) (ws.set i z) (tc + 1)):=by
 have hB : Below W.heap.size W ((W.alloc (.cells #[.i x] 3)).alloc (.cells #[.i z] 3)):=((Below.refl _ _).alloc (Nat.le_refl _) _).alloc (by simp) _
 have b0 : ((W.alloc (.cells #[.i x] 3)).alloc (.cells #[.i z] 3)).cell? ⟨W.heap.size, 0, none⟩ = some (.i x):=by simp
 have b1 : ((W.alloc (.cells #[.i x] 3)).alloc (.cells #[.i z] 3)).cell? ⟨W.heap.size + 1, 0, none⟩ = some (.i z):=by simp
 have hs0 : W.heap.size ≤ ((W.alloc (.cells #[.i x] 3)).alloc (.cells #[.i z] 3)).heap.size:=hB.size
 have hlt:=h.lt
 have h1:=h.below hB
 have hw : ∀ W1, CAt W1 mb wb ws tc → Below W.heap.size W W1 → W1.cell? ⟨W.heap.size, 0, none⟩ = some (.i x) → W1.cell? ⟨W.heap.size + 1, 0, none⟩ = some (.i z) → Calls Tryz.prog 57 #[.pointer (some ⟨mb, 0, none⟩), .i i, .func (.func 123) #[] #[.pointer (some ⟨W.heap.size, 0, none⟩), .pointer (some ⟨W.heap.size + 1, 0, none⟩)]] W1 (CPost W1 mb wb (.bool true) (ws.set i z) (tc + 1)):=by
  intro W1 h hB1 q0 q1
  have hi : i < ws.length:=(List.getElem?_eq_some_iff.1 hx).1
  have n0 : (0 : Int) ≤ (i : Int):=by omega
  have n1 : (i : Int) < (ws.length : Int):=by omega
  have n2 : (i : Int) ≤ (ws.length : Int) - 1:=by omega
  have n3 : ¬ (i : Int) < 0:=by omega
  have n4 : ¬ (ws.length : Int) ≤ (i : Int):=by omega
  have hwr : IntKind.i64.wrap (tc + 1) = tc + 1:=by rw [IntKind.wrap_i64]; omega
  have c0:=h.c0
  have c1:=h.c1
  have f1:=h.f1
  have h2:=h.touch (tc + 1)
  have hC : Chg (cfp mb wb) W1 (W1.setCell ⟨mb, 1, none⟩ (.i (tc + 1))):=(Chg.refl _ W1).setCell _ _ (fun _ => .inl rfl)
  have hcell:=h2.row.get hx
  have hfz:=h2.frozen i
  have r0 : (W1.setCell ⟨mb, 1, none⟩ (.i (tc + 1))).cell? ⟨W.heap.size, 0, none⟩ = some (.i x):=(World.cell?_setCell_far _ _ _ _ (by simp; omega)).trans q0
  have r1 : (W1.setCell ⟨mb, 1, none⟩ (.i (tc + 1))).cell? ⟨W.heap.size + 1, 0, none⟩ = some (.i z):=(World.cell?_setCell_far _ _ _ _ (by simp; omega)).trans q1
  go_enter Tryz.func57, Tryz.ntmps57
  go_upto_region 5 with (fail)
  generalize W1.setCell ⟨mb, 1, none⟩ (.i (tc + 1)) = W2 at *
  have d0:=h2.c0
  clear c0 c1 f1
  go_wp2_with fail
  refine (cas1_eq W2 _ _ _ x z hcell hfz r0 r1).mono ?_
  rintro e w3 ⟨rfl, n, rfl⟩
  go_wp2_with fail
  go_ret
  exact ⟨rfl, (h2.below (bdrewN (Below.refl _ _) n)).put i z, (hC.trans (Chg.ofBelow (F:=cfp mb wb) (bdrewN (Below.refl _ _) n)) (fun _ _ h => h)).setCell _ _ (fun _ => .inr rfl)⟩
 have hg:=hw _ h1 hB b0 b1
 clear hw
 go_enter Tryz.func105, Tryz.ntmps105
 go_wp2_with fail
 refine hg.mono ?_
 rintro e w3 ⟨rfl, h2, hC⟩
 go_wp2_with fail
 go_ret
 exact ⟨rfl, h2, (Chg.ofBelow (F:=cfp mb wb) hB).trans hC (fun _ _ h => h)⟩
theorem cas_ne (h : CAt W mb wb ws tc) (ht : 0 ≤ tc ∧ tc ≤ 4000000000000000000) (i : Nat) (x : Int) (hx : ws[i]? = some x) (y z : Int) (hne : x ≠ y) : Calls Tryz.prog 105 #[.pointer (some ⟨mb, 0, none⟩), .i i, .i y, .i z] W (CPost W mb wb (.bool false) (ws) (tc + 1)):=by
 have hB : Below W.heap.size W ((W.alloc (.cells #[.i y] 3)).alloc (.cells #[.i z] 3)):=((Below.refl _ _).alloc (Nat.le_refl _) _).alloc (by simp) _
 have b0 : ((W.alloc (.cells #[.i y] 3)).alloc (.cells #[.i z] 3)).cell? ⟨W.heap.size, 0, none⟩ = some (.i y):=by simp
 have b1 : ((W.alloc (.cells #[.i y] 3)).alloc (.cells #[.i z] 3)).cell? ⟨W.heap.size + 1, 0, none⟩ = some (.i z):=by simp
 have hs0 : W.heap.size ≤ ((W.alloc (.cells #[.i y] 3)).alloc (.cells #[.i z] 3)).heap.size:=hB.size
 have hlt:=h.lt
 have h1:=h.below hB
 have hw : ∀ W1, CAt W1 mb wb ws tc → Below W.heap.size W W1 → W1.cell? ⟨W.heap.size, 0, none⟩ = some (.i y) → W1.cell? ⟨W.heap.size + 1, 0, none⟩ = some (.i z) → Calls Tryz.prog 57 #[.pointer (some ⟨mb, 0, none⟩), .i i, .func (.func 123) #[] #[.pointer (some ⟨W.heap.size, 0, none⟩), .pointer (some ⟨W.heap.size + 1, 0, none⟩)]] W1 (CPost W1 mb wb (.bool false) (ws) (tc + 1)):=by
  intro W1 h hB1 q0 q1
  have hi : i < ws.length:=(List.getElem?_eq_some_iff.1 hx).1
  have n0 : (0 : Int) ≤ (i : Int):=by omega
  have n1 : (i : Int) < (ws.length : Int):=by omega
  have n2 : (i : Int) ≤ (ws.length : Int) - 1:=by omega
  have n3 : ¬ (i : Int) < 0:=by omega
  have n4 : ¬ (ws.length : Int) ≤ (i : Int):=by omega
  have hwr : IntKind.i64.wrap (tc + 1) = tc + 1:=by rw [IntKind.wrap_i64]; omega
  have c0:=h.c0
  have c1:=h.c1
  have f1:=h.f1
  have h2:=h.touch (tc + 1)
  have hC : Chg (cfp mb wb) W1 (W1.setCell ⟨mb, 1, none⟩ (.i (tc + 1))):=(Chg.refl _ W1).setCell _ _ (fun _ => .inl rfl)
  have hcell:=h2.row.get hx
  have hfz:=h2.frozen i
  have r0 : (W1.setCell ⟨mb, 1, none⟩ (.i (tc + 1))).cell? ⟨W.heap.size, 0, none⟩ = some (.i y):=(World.cell?_setCell_far _ _ _ _ (by simp; omega)).trans q0
  have r1 : (W1.setCell ⟨mb, 1, none⟩ (.i (tc + 1))).cell? ⟨W.heap.size + 1, 0, none⟩ = some (.i z):=(World.cell?_setCell_far _ _ _ _ (by simp; omega)).trans q1
  go_enter Tryz.func57, Tryz.ntmps57
  go_upto_region 5 with (fail)
  generalize W1.setCell ⟨mb, 1, none⟩ (.i (tc + 1)) = W2 at *
  have d0:=h2.c0
  clear c0 c1 f1
  go_wp2_with fail
  refine (cas1_ne W2 _ _ _ x y z hcell hfz r0 r1 hne).mono ?_
  rintro e w3 ⟨rfl, n, rfl⟩
  go_wp2_with fail
  go_ret
  exact ⟨rfl, h2.below (bdrewN (Below.refl _ _) n), hC.trans (Chg.ofBelow (F:=cfp mb wb) (bdrewN (Below.refl _ _) n)) (fun _ _ h => h)⟩
 have hg:=hw _ h1 hB b0 b1
 clear hw
 go_enter Tryz.func105, Tryz.ntmps105
 go_wp2_with fail
 refine hg.mono ?_
 rintro e w3 ⟨rfl, h2, hC⟩
 go_wp2_with fail
 go_ret
 exact ⟨rfl, h2, (Chg.ofBelow (F:=cfp mb wb) hB).trans hC (fun _ _ h => h)⟩
theorem add_any (h : CAt W mb wb ws tc) (ht : 0 ≤ tc ∧ tc ≤ 4000000000000000000) (i : Nat) (x : Int) (hx : ws[i]? = some x) (d : Int) : Calls Tryz.prog 182 #[.pointer (some ⟨mb, 0, none⟩), .i i, .i d] W (CPost W mb wb (.i x) (ws.set i (wrap64 (x + d))) (tc + 1)):=by
 have hB : Below W.heap.size W (W.alloc (.cells #[.i d] 3)):=(Below.refl _ _).alloc (Nat.le_refl _) _
 have b0 : (W.alloc (.cells #[.i d] 3)).cell? ⟨W.heap.size, 0, none⟩ = some (.i d):=by simp
 have hs0 : W.heap.size ≤ (W.alloc (.cells #[.i d] 3)).heap.size:=hB.size
 have hlt:=h.lt
 have h1:=h.below hB
 have hw : ∀ W1, CAt W1 mb wb ws tc → Below W.heap.size W W1 → W1.cell? ⟨W.heap.size, 0, none⟩ = some (.i d) → Calls Tryz.prog 112 #[.pointer (some ⟨mb, 0, none⟩), .i i, .func (.func 184) #[] #[.pointer (some ⟨W.heap.size, 0, none⟩)]] W1 (CPost W1 mb wb (.i x) (ws.set i (wrap64 (x + d))) (tc + 1)):=by
  intro W1 h hB1 q0
  have hi : i < ws.length:=(List.getElem?_eq_some_iff.1 hx).1
  have n0 : (0 : Int) ≤ (i : Int):=by omega
  have n1 : (i : Int) < (ws.length : Int):=by omega
  have n2 : (i : Int) ≤ (ws.length : Int) - 1:=by omega
  have n3 : ¬ (i : Int) < 0:=by omega
  have n4 : ¬ (ws.length : Int) ≤ (i : Int):=by omega
  have hwr : IntKind.i64.wrap (tc + 1) = tc + 1:=by rw [IntKind.wrap_i64]; omega
  have c0:=h.c0
  have c1:=h.c1
  have f1:=h.f1
  have h2:=h.touch (tc + 1)
  have hC : Chg (cfp mb wb) W1 (W1.setCell ⟨mb, 1, none⟩ (.i (tc + 1))):=(Chg.refl _ W1).setCell _ _ (fun _ => .inl rfl)
  have hcell:=h2.row.get hx
  have hfz:=h2.frozen i
  have r0 : (W1.setCell ⟨mb, 1, none⟩ (.i (tc + 1))).cell? ⟨W.heap.size, 0, none⟩ = some (.i d):=(World.cell?_setCell_far _ _ _ _ (by simp; omega)).trans q0
  go_enter Tryz.func112, Tryz.ntmps112
  go_upto_region 5 with (fail)
  generalize W1.setCell ⟨mb, 1, none⟩ (.i (tc + 1)) = W2 at *
  have d0:=h2.c0
  clear c0 c1 f1
  go_wp2_with fail
  refine (add1_any W2 _ _ x d hcell hfz r0 (by simp <;> omega)).mono ?_
  rintro e w3 ⟨rfl, rfl⟩
  go_wp2_with fail
  go_ret
  exact ⟨rfl, (h2.put i _).below (Below.refl _ _).drew, (hC.setCell _ _ (fun _ => .inr rfl)).drew⟩
 have hg:=hw _ h1 hB b0
 clear hw
 go_enter Tryz.func182, Tryz.ntmps182
 go_wp2_with fail
 refine hg.mono ?_
 rintro e w3 ⟨rfl, h2, hC⟩
 go_wp2_with fail
 go_ret
 exact ⟨rfl, h2, (Chg.ofBelow (F:=cfp mb wb) hB).trans hC (fun _ _ h => h)⟩
theorem many_any (h : CAt W mb wb ws tc) : Calls Tryz.prog 42 #[.pointer (some ⟨mb, 0, none⟩)] W fun e W' => e = .returned (.i ws.length) ∧ W = W':=by
 have c0:=h.c0
 go_enter Tryz.func42, Tryz.ntmps42
 go_wp2_with fail
 go_ret
 exact ⟨rfl, rfl⟩
theorem touched_any (h : CAt W mb wb ws tc) : Calls Tryz.prog 28 #[.pointer (some ⟨mb, 0, none⟩)] W fun e W' => e = .returned (.i tc) ∧ W = W':=by
 have c1:=h.c1
 go_enter Tryz.func28, Tryz.ntmps28
 go_wp2_with fail
 go_ret
 exact ⟨rfl, rfl⟩
end
end Go.Proofs.YteadpgiffpfmnaaGreatDoor.Cl
namespace Go.Proofs.YteadpgiffpfmnaaGreatDoor.Field
open Go.RowKit Hp
def pw (l : List (Nat × Nat)) (xs : List Int) : Nat → Int
 | 0 => 0
 | k + 1 => pw l xs k + xs.getD k 0 * 2 ^ (l.getD k (0, 0)).1
theorem mx_pow (b : Nat) : (mx b : Int) < 2 ^ b:=by
 have h : 0 < 2 ^ b:=Nat.two_pow_pos b
 have h2 : ((2 ^ b - 1 : Nat) : Int) = (2 : Int) ^ b - 1:=by rw [Int.natCast_sub (by omega)]; simp
 rw [mx_cast, h2]
 omega
theorem pack_val (w : World) (g : Nat) (l : List (Nat × Nat)) (g2 o2 c2 : Nat) (xs : List Int) (hl : l.length ≤ 1000) (h : FAt w g l) (hg : g < w.heap.size) (hR : AllR l) (hD : Disj l)
  (hx : ∀ i x, xs[i]? = some x → w.cell? ⟨g2, o2 + i, none⟩ = some (.i x)) (hxl : xs.length = l.length) (hin : ∀ (k : Nat) (x : Nat × Nat) (v : Int), l[k]? = some x → xs[k]? = some v → 0 ≤ v ∧ v ≤ (mx x.2 : Int)) (hAsc : ∀ (k : Nat) (x : Nat × Nat), l[k]? = some x → 0 ≤ pw l xs k ∧ pw l xs k < 2 ^ x.1) :
  Calls Tryz.prog 134 #[.slice (some ⟨g, 0, none⟩) l.length l.length, .slice (some ⟨g2, o2, none⟩) l.length c2] w fun e w' =>
   e = .returned (.tuple #[.i (pw l xs l.length), .bool true]) ∧ Below w.heap.size w w':=by
 have HIN:=Lib.hid hin
 have HAS:=Lib.hid hAsc
 clear hin hAsc
 have hap:=fun W (hk : PkK w g l g2 o2 xs W) => apart_any W g l hl hk.1 (Nat.lt_of_lt_of_le hg hk.2.2.size) hR hD
 have hK : PkK w g l g2 o2 xs w:=⟨h, hx, Below.refl _ _⟩
 have HR:=Lib.hid hR
 have HL:=Lib.hid hxl
 clear hR hD hxl h hx
 have hne : ((l.length : Int) != (l.length : Int)) = false:=by simp
 go_enter Tryz.func134, Tryz.ntmps134
 go_wp2_with fail
 refine (hap _ hK).mono ?_
 rintro e w6 ⟨rfl, hb6⟩
 have hK6:=hK.later hg hb6
 clear hK hb6 hap
 go_wp2_with fail
 go_loopw [6, 21] (fun zv iv wr => ∃ (k : Nat) (z : Int), zv = .i z ∧ iv = .i k ∧ k ≤ l.length ∧ RowKit.Hid (z = pw l xs k) ∧ PkK w g l g2 o2 xs wr) (fun _ iv _ => l.length - (intOf iv).toNat)
 case atStart => exact ⟨0, 0, rfl, rfl, by omega, Lib.hid rfl, hK6⟩
 case round =>
  obtain ⟨k, z, rfl, rfl, hk, hP, hKr⟩:=hrel
  by_cases hlt : k < l.length
  ·obtain ⟨x, hx⟩ : ∃ x, l[k]? = some x:=⟨_, List.getElem?_eq_getElem hlt⟩
   obtain ⟨v, hv⟩ : ∃ v, xs[k]? = some v:=⟨_, List.getElem?_eq_getElem (by have:=HL.out; omega)⟩
   obtain ⟨hd0, hd1⟩:=hKr.1 k x hx
   have hcv:=hKr.2.1 k v hv
   obtain ⟨q0, q1⟩:=HIN.out k x v hx hv
   obtain ⟨z0, z1⟩:=HAS.out k x hx
   rw [← hP.out] at z0 z1
   have hRx:=HR.out x (List.mem_of_getElem? hx)
   have hP2:=Lib.hid (show z + v * 2 ^ x.1 = pw l xs (k + 1) by rw [pw, ← hP.out, List.getD_eq_getElem?_getD, hv, List.getD_eq_getElem?_getD, hx]; rfl)
   have hx1:=mx_pow x.2
   have v1 : v < 2 ^ x.2:=by omega
   have HPV:=Lib.hid (fun W => put_val W z x.1 x.2 v hRx z0 z1 q0 v1)
   have hA:=(Below.refl wr.heap.size wr).alloc (Nat.le_refl _) (.cells #[.i x.1, .i x.2] 131)
   have hKA:=hKr.later hg hA
   have hcA:=hKA.2.1 k v hv
   have hf0 : (wr.alloc (.cells #[.i x.1, .i x.2] 131)).cell? ⟨wr.heap.size, 0, none⟩ = some (.i x.1):=by simp
   have hf1 : (wr.alloc (.cells #[.i x.1, .i x.2] 131)).cell? ⟨wr.heap.size, 1, none⟩ = some (.i x.2):=by simp
   have hmx:=mx_lt (show x.2 ≤ 62 by unfold R at hRx; omega)
   clear hx hv hP hcv
   have hneg : ¬ v < 0:=by omega
   have hbig : ¬ (mx x.2 : Int) < v:=by omega
   clear z0 z1 q0 q1 v1 hx1
   ·go_wp2_with fail
    generalize wr.alloc (.cells #[.i x.1, .i x.2] 131) = wa at *
    generalize wr.heap.size = fb at *
    have hKd : PkK w g l g2 o2 xs wa.drew:=⟨hKA.1, hKA.2.1, hKA.2.2.drew⟩
    have hng : decide (v < 0) = false:=by simpa using hneg
    ·have hbg : decide ((mx x.2 : Int) < v) = false:=by simpa using hbig
     go_region_held3 (fun w' => w'.cell? ⟨g2, o2 + k, none⟩ = some (.i v) ∧ w'.cell? ⟨fb, 0, none⟩ = some (.i x.1) ∧ w'.cell? ⟨fb, 1, none⟩ = some (.i x.2)) (first | go_keep | exact ⟨by assumption, by assumption, by assumption⟩)
      ((first
      | (go_at_call 145; refine (max_any _ _ _ hRx).mono ?_; rintro e w7 ⟨rfl, hb7⟩; have hK7:=hKd.later hg hb7; have hcB:=bkeep hb7 hcA; have hf2:=bkeep hb7 hf0; have hf3:=bkeep hb7 hf1)))
     have hKd7 : PkK w g l g2 o2 xs w7.drew:=⟨hK7.1, hK7.2.1, hK7.2.2.drew⟩
     clear hcA hf0 hf1 hb7 hKA hKd hKr hK7 hK6
     go_wp2_with fail
     go_region_held3 (fun w' => w'.cell? ⟨g2, o2 + k, none⟩ = some (.i v) ∧ w'.cell? ⟨fb, 0, none⟩ = some (.i x.1) ∧ w'.cell? ⟨fb, 1, none⟩ = some (.i x.2)) (first | go_keep | exact ⟨by assumption, by assumption, by assumption⟩)
      ((first
      | (go_at_call 147; refine (HPV.out _).mono ?_; rintro e w8 ⟨rfl, hb8⟩; have hK8:=hKd7.later hg hb8; have hcC:=bkeep hb8 hcB; have hf4:=bkeep hb8 hf2; have hf5:=bkeep hb8 hf3)))
     clear hcB hf2 hf3 hcC hf4 hf5 hb8 hKd7
     go_wp2_with fail
     go_roundw
     case rel => exact ⟨k + 1, _, rfl, by go_num, by omega, hP2, hK8⟩
     case measure => simp [intOf]; omega
  ·have e : k = l.length:=by omega
   subst e
   go_wp2_with fail
   go_ret2
   exact ⟨by rw [← hP.out]; rfl, hKr.2.2⟩
theorem int_info : (Tryz.prog.info? 3).map (fun i => (i.zero, i.size, i.bytes)) = some (some (.i 0), 1, 8):=by kernel_rfl
theorem info_parts {P : Program} {t : TypeId} {z : Option Value} {sz b : Nat} (h : (P.info? t).map (fun i => (i.zero, i.size, i.bytes)) = some (z, sz, b)) :
  ∃ i, P.info? t = some i ∧ i.zero = z ∧ i.size = sz ∧ i.bytes = b:=by
 cases hh : P.info? t with
 | none => rw [hh] at h; cases h
 | some i => rw [hh] at h; simp at h; exact ⟨i, rfl, h⟩
def part (n : Int) (p : Nat × Nat) : Int:=n / 2 ^ p.1 % 2 ^ p.2
def PtK (w : World) (g : Nat) (l : List (Nat × Nat)) (n : Int) (v : Value) (k : Nat) (W : World) : Prop :=
 FAt W g l ∧ g < w.heap.size ∧ OwnS W v k 1 (((l.take k).map (part n)).map (Value.int .i64)) ∧ (∀ j, Fp v j → w.heap.size ≤ j) ∧ Below w.heap.size w W
theorem PtK.later {w W W' : World} {g : Nat} {l : List (Nat × Nat)} {n : Int} {v : Value} {k : Nat} (h : PtK w g l n v k W) (hb : Below W.heap.size W W') : PtK w g l n v k W' :=
 have hs:=h.2.2.2.2.size
 ⟨h.1.stable (hb.block _ (Nat.lt_of_lt_of_le h.2.1 hs)), h.2.1, h.2.2.1.stable hb.size (fun j hj => hb.block _ (h.2.2.1.lt hj)), h.2.2.2.1, h.2.2.2.2.trans (hb.mono hs)⟩
theorem parts_val (w : World) (n : Int) (g : Nat) (l : List (Nat × Nat)) (hl : l.length ≤ 1000) (h : FAt w g l) (hg : g < w.heap.size) (hR : AllR l) :
  Calls Tryz.prog 118 #[.i n, .slice (some ⟨g, 0, none⟩) l.length l.length] w fun e w' =>
   ∃ v, e = .returned v ∧ OwnS w' v l.length 1 ((l.map (part n)).map (Value.int .i64)) ∧ (∀ j, Fp v j → w.heap.size ≤ j) ∧ Below w.heap.size w w':=by
 have hK : PtK w g l n (.slice none 0 0) 0 w:=⟨h, hg, ownS_nil _ _, fun j hj => (fp_nil _ hj).elim, Below.refl _ _⟩
 have HR:=Lib.hid hR
 clear hR h
 go_enter Tryz.func118, Tryz.ntmps118
 go_wp2_with fail
 go_loopw [5, 10] (fun vv iv wr => ∃ (k : Nat) (a : Option Addr) (c : Nat), vv = .slice a k c ∧ iv = .i k ∧ k ≤ l.length ∧ PtK w g l n (.slice a k c) k wr) (fun _ iv _ => l.length - (intOf iv).toNat)
 case atStart => exact ⟨0, none, 0, rfl, rfl, by omega, hK⟩
 case round =>
  obtain ⟨k, va, vc, rfl, rfl, hk, hKr⟩:=hrel
  by_cases hlt : k < l.length
  ·obtain ⟨x, hx⟩ : ∃ x, l[k]? = some x:=⟨_, List.getElem?_eq_getElem hlt⟩
   obtain ⟨hd0, hd1⟩:=hKr.1 k x hx
   have hRx:=HR.out x (List.mem_of_getElem? hx)
   have htk : (l.take (k + 1)).map (part n) = (l.take k).map (part n) ++ [part n x]:=by rw [List.take_add_one, hx]; simp
   have HTK:=Lib.hid htk
   have HGV:=Lib.hid (fun W => get_val W n x.1 x.2 hRx)
   have hA:=(Below.refl wr.heap.size wr).alloc (Nat.le_refl _) (.cells #[.i x.1, .i x.2] 131)
   have hKA:=hKr.later hA
   have hf0 : (wr.alloc (.cells #[.i x.1, .i x.2] 131)).cell? ⟨wr.heap.size, 0, none⟩ = some (.i x.1):=by simp
   have hf1 : (wr.alloc (.cells #[.i x.1, .i x.2] 131)).cell? ⟨wr.heap.size, 1, none⟩ = some (.i x.2):=by simp
   clear hx htk
   go_wp2_with fail
   generalize wr.alloc (.cells #[.i x.1, .i x.2] 131) = wa at *
   generalize wr.heap.size = fb at *
   refine (right_any _ _ _ hRx).mono ?_
   rintro e w7 ⟨rfl, hb7⟩
   have hK7:=hKA.later hb7
   have e0:=bkeep hb7 hf0
   have e1:=bkeep hb7 hf1
   clear hd0 hd1 hA hf0 hf1 hb7 hKA hKr hK
   go_wp2_with fail
   refine (HGV.out _).mono ?_
   rintro e w8 ⟨rfl, hb8⟩
   have hK8:=hK7.later hb8
   clear e0 e1 hb8 hK7
   obtain ⟨i0', hi, hz0, hz1, hz2⟩:=info_parts int_info
   have hown : OwnS (w8.alloc (.cells #[.i (part n x)] 3)) (.slice va k vc) k 1 (((l.take k).map (part n)).map (Value.int .i64)):=OwnS.alloc hK8.2.2.1 _
   have HK8:=Lib.hid hK8
   clear hK8
   go_wp2_with (at_builtin; refine Hp.wpList_append _ rfl _ _ 31 rfl 3 i0' (.i 0) 1 8 Tryz.underlying31 hi hz0 hz1 hz2 rfl (by decide) _ _ _ rfl hown ⟨w8.heap.size, 0, none⟩ 1 1 [.i (part n x)] rfl rfl (one_new _ _ _) ?c2 ?c3 ?c4 ?_)
   case c2 => simp [Value.oneCell']
   case c3 => unfold maxLen; omega
   case c4 => omega
   intro la' lc' w5 hown' hfp hch
   have hC5 : Chg (fun k => w.heap.size ≤ k) w8 w5:=Chg.trans ((Chg.refl _ _).alloc _) hch (fun i hi hk => HK8.out.2.2.2.1 i hk)
   have hs8:=HK8.out.2.2.2.2.size
   have hB5 : Below w.heap.size w8 w5:=hC5.below hs8 (fun k hk => hk)
   have hK5 : PtK w g l n (.slice la' (k + 1) lc') (k + 1) w5:=by
    refine ⟨HK8.out.1.stable (hC5.block _ (Nat.lt_of_lt_of_le hg hs8) (by omega)), hg, ?_, ?_, HK8.out.2.2.2.2.trans hB5⟩
    ·rw [HTK.out]; simpa [List.map_take] using hown'
    ·intro j hj
     rcases hfp j hj with h' | h'
     ·exact HK8.out.2.2.2.1 j h'
     ·first | omega | (simp at h'; omega)
   clear hown hown' hfp hch hC5 hB5
   go_wp2_with fail
   go_roundw
   case rel => exact ⟨k + 1, _, _, rfl, by go_num, by omega, hK5⟩
   case measure => simp [intOf]; omega
  ·have e : k = l.length:=by omega
   subst e
   have hT : l.take l.length = l:=List.take_length
   go_wp2_with fail
   go_ret
   exact ⟨_, rfl, by have q:=hKr.2.2.1; rw [hT] at q; exact q, hKr.2.2.2.1, hKr.2.2.2.2⟩
end Go.Proofs.YteadpgiffpfmnaaGreatDoor.Field
namespace Go.Proofs.YteadpgiffpfmnaaGreatDoor.Cl
open Go.RowKit Hp RowL Conf
theorem slot_any (w : World) (c : Cf) (i : Nat) (hw : 0 ≤ c.workers ∧ c.workers ≤ 8) (hi : (i : Int) < c.slots ∧ c.slots ≤ 100) : Calls Tryz.prog 108 #[c.val, .i i] w fun e w' => e = .returned (.i (3 + 2 * c.workers + i)) ∧ Below w.heap.size w w':=by
 obtain ⟨cw, cs, cst, cwa, cu⟩:=c
 dsimp only at hw hi
 go_enter Tryz.func108, Tryz.ntmps108
 simp only [Cf.val, Cf.cells]
 have n0 : ¬ ((i : Int) < 0):=by omega
 have n1 : ¬ (cs ≤ (i : Int)):=by omega
 have n2 : decide (cs ≤ (i : Int)) = false:=by simpa using n1
 have e2 : wrap64 (3 + 2 * cw + i) = 3 + 2 * cw + i:=by unfold wrap64; omega
 go_wp2_with fail
 go_ret
 exact ⟨by first | rfl | (simp <;> omega), (Below.refl _ _).alloc (Nat.le_refl _) _⟩
theorem cells_any (w : World) (c : Cf) (hw : 0 ≤ c.workers ∧ c.workers ≤ 8) (hi : 0 ≤ c.slots ∧ c.slots ≤ 100) : Calls Tryz.prog 56 #[c.val] w fun e w' => e = .returned (.i (3 + 2 * c.workers + c.slots)) ∧ Below w.heap.size w w':=by
 obtain ⟨cw, cs, cst, cwa, cu⟩:=c
 dsimp only at hw hi
 go_enter Tryz.func56, Tryz.ntmps56
 simp only [Cf.val, Cf.cells]
 go_wp2_with fail
 go_ret
 exact ⟨by first | rfl | (simp <;> omega), (Below.refl _ _).alloc (Nat.le_refl _) _⟩
theorem made_ints (n : Nat) : madeCells #[.i 0] n = ⟨(List.replicate n (0 : Int)).map (Value.int .i64)⟩:=by
 apply Array.ext'
 rw [toList_madeCells_one]
 simp
theorem made_rep (n : Nat) : madeCells #[.i 0] n = Array.replicate n (.i 0):=by
 apply Array.ext'
 rw [toList_madeCells_one]
 simp
theorem new_any (w : World) (n : Nat) (hn : 1 ≤ n ∧ n ≤ 4096) : Calls Tryz.prog 55 #[.i n] w fun e w' =>
  e = .returned (.tuple #[.pointer (some ⟨w.heap.size + 1, 0, none⟩), .i 0]) ∧ CAt w' (w.heap.size + 1) w.heap.size (List.replicate n 0) 0 ∧ Below w.heap.size w w':=by
 obtain ⟨i0, hi, hz0, hz1, hz2⟩:=Field.info_parts Field.int_info
 have hmk : (Instr.makeSlice 31 (.i n) (.i n)).run Tryz.prog w = .ok (.slice (some ⟨w.heap.size, 0, none⟩) n n) (w.alloc (.cells (Array.replicate n (.i 0)) 3)):=by
  have h:=run_makeSlice (P:=Tryz.prog) (w:=w) 31 3 i0 (.i 0) Tryz.underlying31 hi hz0 .i64 .i64 n n (by omega) (by omega) (by rw [hz1]; simp; omega) (by rw [hz2]; omega) (by omega)
  rw [hz1] at h
  simp only [Int.toNat_natCast, Nat.mul_one] at h
  rw [h, ← made_rep]
  rfl
 have hA : WRow (w.alloc (.cells (Array.replicate n (.i 0)) 3)) w.heap.size (List.replicate n 0):=by
  unfold WRow
  rw [← made_ints, made_rep]
  exact RowAt.new w _ _
 have n0 : ¬ ((n : Int) < 1):=by omega
 have n1 : ¬ (4096 < (n : Int)):=by omega
 clear hi hz0 hz1 hz2
 go_enter Tryz.func55, Tryz.ntmps55
 go_wp2_with fail
 go_ret2
 refine ⟨rfl, ⟨by simp, by simp, by simp, ?_, by omega, by simpa using hn⟩, ((Below.refl _ _).alloc (Nat.le_refl _) _).alloc (by simp) _⟩
 exact (Below.heap_alloc _ _ _ (by simp)).trans hA
theorem clone_words (w : World) (g : Nat) (l : List Int) (h0 : 0 < l.length) (hl : l.length ≤ 4096) (h : WRow w g l) :
  Calls Tryz.prog 37 #[.slice (some ⟨g, 0, none⟩) l.length l.length] w fun e w' => ∃ a c, e = .returned (.slice a l.length c) ∧ OwnS w' (.slice a l.length c) l.length 1 (l.map (Value.int .i64)) ∧ (∀ k, Fp (.slice a l.length c) k → w.heap.size ≤ k) ∧ Below w.heap.size w w':=by
 have q22 : ∀ (w : World) (a : Option Addr) (n c n' c' : Nat), (binOp .eql 31 (.slice a n c) (.slice none n' c')).run Tryz.prog w = .ok (.bool a.isNone) w:=fun w a n c n' c' => Lib.run_eql_slice_nil w _ _ a n c n' c' Tryz.underlying31
 have hc : ∀ j u, (l.map (Value.int .i64))[j]? = some u → w.cell? ⟨g, 0 + j, none⟩ = some u:=by
  intro j u hu
  rw [Nat.zero_add, RowAt.cell h j]
  simpa using hu
 have HC:=Lib.hid hc
 obtain ⟨i0, hi, hz0, hz1, hz2⟩:=Field.info_parts Field.int_info
 clear hc
 go_enter Tryz.func37, Tryz.ntmps37
 go_wp2_with (at_builtin; refine wpList_append_own _ rfl _ _ 31 rfl w.heap.size 3 i0 (.i 0) 1 8 Tryz.underlying31 hi hz0 hz1 hz2 rfl (by decide) _ _ _ rfl (World.ownsRow_made w #[] 0 (Nat.le_refl _) (Nat.zero_le _) (by simp)) ⟨g, 0, none⟩ l.length l.length (l.map (Value.int .i64)) rfl ?qc1 ?qc2 ?qc3 ?qc4 ?qc5 ?qc6 ?_)
 case qc1 => simp
 case qc2 =>
  intro j u hj
  rw [Addr.add_lit]
  exact Lib.cell?_alloc_some _ (HC.out j u hj)
 case qc3 => simp [Value.oneCell']
 case qc4 => unfold maxLen; omega
 case qc5 => omega
 case qc6 => simp
 intro v' w1 hown hgrow hnil
 have h3:=ownS_of_row hown
 try simp only [Nat.zero_add, List.nil_append] at h3
 obtain ⟨a', c', rfl⟩:=h3.form
 have hlt:=hown.lt
 have HLT:=Lib.hid hlt
 have H3:=Lib.hid h3
 have HGR:=Lib.hid hgrow
 clear hown hgrow hnil q22 hi hz0 hz1 hz2 hlt h3
 go_wp2
 go_ret
 refine ⟨a', c', rfl, H3.out, ?_, ?_⟩
 ·intro k hk
  obtain ⟨aa, n1, c1, hv, he⟩:=hk
  cases hv
  subst he
  exact (HLT.out _ rfl).1
 ·exact ((Below.refl _ w).alloc (Nat.le_refl _) _).grown HGR.out (by simp) (by intro k hk; simp [Value.ownBlock] at hk; omega)
theorem words_any {W : World} {mb wb : Nat} {ws : List Int} {tc : Int} (h : CAt W mb wb ws tc) : Calls Tryz.prog 13 #[.pointer (some ⟨mb, 0, none⟩)] W fun e W' => ∃ a c, e = .returned (.slice a ws.length c) ∧ OwnS W' (.slice a ws.length c) ws.length 1 (ws.map (Value.int .i64)) ∧ (∀ k, Fp (.slice a ws.length c) k → W.heap.size ≤ k) ∧ Below W.heap.size W W':=by
 have c0:=h.c0
 have hcl:=clone_words W wb ws (by have:=h.len; omega) h.len.2 h.row
 go_enter Tryz.func13, Tryz.ntmps13
 go_wp2_with fail
 refine hcl.mono ?_
 rintro e w2 ⟨a, c, rfl, h1, h2, h3⟩
 clear hcl
 go_wp2_with fail
 go_ret
 exact ⟨a, c, rfl, h1, h2, h3⟩
theorem ref_slot_any (w : World) (c : Cf) (i : Nat) (hw : 0 ≤ c.workers ∧ c.workers ≤ 8) (hi : (i : Int) < c.slots ∧ c.slots ≤ 100) : Calls Tryz.prog 20 #[c.val, .i i] w fun e w' => e = .returned (.i (3 + 2 * c.workers + i)) ∧ Below w.heap.size w w':=by
 obtain ⟨cw, cs, cst, cwa, cu⟩:=c
 dsimp only at hw hi
 go_enter Tryz.func20, Tryz.ntmps20
 simp only [Cf.val, Cf.cells]
 have n0 : ¬ ((i : Int) < 0):=by omega
 have n1 : ¬ (cs ≤ (i : Int)):=by omega
 have n2 : decide (cs ≤ (i : Int)) = false:=by simpa using n1
 have e2 : wrap64 (3 + cw + cw + i) = 3 + cw + cw + i:=by unfold wrap64; omega
 go_wp2_with fail
 go_ret
 exact ⟨by (try simp) <;> omega, (Below.refl _ _).alloc (Nat.le_refl _) _⟩
theorem ref_cells_any (w : World) (c : Cf) (hw : 0 ≤ c.workers ∧ c.workers ≤ 8) (hs : 1 ≤ c.slots ∧ c.slots ≤ 100) : Calls Tryz.prog 38 #[c.val] w fun e w' => e = .returned (.i (3 + 2 * c.workers + c.slots)) ∧ Below w.heap.size w w':=by
 obtain ⟨n, hn⟩ : ∃ n : Nat, c.slots - 1 = (n : Int):=⟨(c.slots - 1).toNat, by omega⟩
 have hsl:=fun W => ref_slot_any W c n hw ⟨by omega, hs.2⟩
 have e0 : wrap64 (c.slots - 1) = (n : Int):=by unfold wrap64; omega
 have e1 : wrap64 (3 + 2 * c.workers + (n : Int) + 1) = 3 + 2 * c.workers + c.slots:=by unfold wrap64; omega
 obtain ⟨cw, cs, cst, cwa, cu⟩:=c
 dsimp only at hw hs e0 e1 hn
 simp only [Cf.val, Cf.cells] at hsl
 go_enter Tryz.func38, Tryz.ntmps38
 simp only [Cf.val, Cf.cells]
 have hA : Below w.heap.size w (w.alloc (.cells (Ae cw cs cst cwa cu) 30)):=(Below.refl _ _).alloc (Nat.le_refl _) _
 have e2 : cs - 1 = (n : Int):=hn
 go_wp2_with fail
 try rw [hn]
 refine (hsl _).mono ?_
 rintro e w5 ⟨rfl, hb5⟩
 have hB:=hA.trans (hb5.mono hA.size)
 clear hsl hb5
 go_wp2_with fail
 go_ret
 exact ⟨by (try simp) <;> omega, hB⟩
end Go.Proofs.YteadpgiffpfmnaaGreatDoor.Cl
namespace Go.Proofs.YteadpgiffpfmnaaGreatDoor.RowL
open Go.RowKit Hp
section
variable {P : Program} {ops : Array Oper} {Q : Exit → Act → World → Prop} {md : Region.Mode} {S : World → Prop}
theorem rRow {fuel : Nat} {listed : Array Bool} {a : Act} {w : World} {g : Nat} {t : TypeId} {cs : Array Value} {d' : TypeDesc} (i d : Nat) (hg : RowAt w g cs t) (T : TypeId) (x : Operand) (hu : P.underlying T = some d') (hS : S w)
  (h : wpAnyH P md ops Q S fuel (listed.setIfInBounds i true) (a.put (some d) (.agg cs)) w)
  (hr : Region.ready md ops listed = [i]:=by kernel_rfl) (ho : (ops[i]?).map (fun o => (o.dst, o.op)) = some (some d, .load T x):=by kernel_rfl)
  (hx : a.eval x = .pointer (some ⟨g, 0, none⟩):=by kernel_rfl) (hd : (match d' with | .struct _ | .array _ _ => true | _ => false) = true:=by rfl) (hi : (P.info? T).map (·.size) = some cs.size:=by kernel_rfl)
  (hw : (ops[i]?).map (fun o => Region.wanted o (yielded ops a.tmps)) = some true:=by kernel_rfl) : wpAnyH P md ops Q S (fuel + 1) listed a w:=by
 refine ready1 hr ?_
 cases h1 : ops[i]? with
 | none => rw [h1] at ho; cases ho
 | some o =>
  rw [h1] at ho
  simp only [Option.map_some, Option.some.injEq, Prod.mk.injEq] at ho
  refine step_run (w':=w) (some d) (.agg cs) (by rw [h1]; simp [ho.1]) hw ?_ hS (fun _ => h)
  rw [h1]
  simp only [Option.map_some]
  exact congrArg some (run_load_row (P:=P) (S:=fun w' => w' = w) (a:=a) T x g t cs d' hx hu hd hi (fun w' e => by rw [e]; exact hg) o ho.2 w rfl)
theorem rK {fuel : Nat} {listed : Array Bool} {a : Act} {w : World} (i d : Nat) (v : Value) (hS : S w) (h : wpAnyH P md ops Q S fuel (listed.setIfInBounds i true) (a.put (some d) v) w)
  (hrun : ((ops[i]?).map fun o => (execOp a.eval o).run P w) = some (.ok (.value v) w)) (hr : Region.ready md ops listed = [i]:=by kernel_rfl) (ho : (ops[i]?).map (fun o => o.dst) = some (some d):=by kernel_rfl)
  (hw : (ops[i]?).map (fun o => Region.wanted o (yielded ops a.tmps)) = some true:=by kernel_rfl) : wpAnyH P md ops Q S (fuel + 1) listed a w :=
 ready1 hr (step_run (some d) v ho hw hrun hS (fun _ => h))
theorem rSt {fuel : Nat} {listed : Array Bool} {a : Act} {w : World} {g : Nat} {t : TypeId} {Z : Array Value} (i : Nat) (hg : RowAt w g Z t) (cs : Array Value) (T : TypeId) (x y : Operand)
  (hS : S (w.setRow g cs)) (h : wpAnyH P md ops Q S fuel (listed.setIfInBounds i true) a (w.setRow g cs))
  (hr : Region.ready md ops listed = [i]:=by kernel_rfl) (ho : (ops[i]?).map (fun o => (o.dst, o.op, o.guard)) = some (none, Op.store T x y, none):=by kernel_rfl)
  (hx : a.eval x = .pointer (some ⟨g, 0, none⟩):=by kernel_rfl) (hy : a.eval y = .agg cs:=by kernel_rfl)
  (hsz : Z.size = cs.size:=by kernel_rfl) (hi : (P.info? T).map (·.size) = some cs.size:=by kernel_rfl) (h1 : cs.all (·.oneCell') = true:=by kernel_rfl) : wpAnyH P md ops Q S (fuel + 1) listed a w :=
 ready_store_row hr T x y ho g t Z cs hx hy hg hsz hi h1 hS (fun _ => h)
end
theorem gcall {P : Program} {ops : Array Oper} {Q : Exit → Act → World → Prop} {rest : List Oper} {o : Oper} {a : Act} {w : World} (F : Nat) (args : Array Operand) (ats : Array TypeId) (vals : Array Value) (hE : ∀ args w, (callFunc F args).run P w = .ok (.enter F args) w)
  (h : Calls P F vals w fun e w' => ∃ v, e = .returned v ∧ wpList P ops Q rest (a.put o.dst v) w')
  (ho : o.op = Op.call { callee:=Callee.value (Operand.func F), args:=args, argTypes:=ats }:=by kernel_rfl) (hg : o.guard = none:=by kernel_rfl) (hv : args.map a.eval = vals:=by kernel_rfl) : wpList P ops Q (o :: rest) a w :=
 wpList_plain hg fun K hK => by
  have hx : (execOp a.eval o).run P w = .ok (.enter F vals) w:=by
   unfold execOp
   simp only [ho, resolve]
   simp [go_sem, hv, hE, Act.eval, invoke, Deferred.ofValue]
  unfold Oper.wp
  rw [hx, Oper.upon_enter]
  refine h.mono ?_
  rintro e w' ⟨v, rfl, hk⟩
  exact hK _ _ hk
theorem bSetRow {w w' : World} (h : Below w.heap.size w w') {g : Nat} (hg : w.heap.size ≤ g) (cs : Array Value) : Below w.heap.size w (w'.setRow g cs) :=
 (chg_setRow (F:=fun k => w.heap.size ≤ k) (Chg.ofBelow h) g cs (fun _ => hg)).below (Nat.le_refl _) (fun _ e => e)
theorem results_row3 {P : Program} {fn : Func} {p u v : Tmp} {ty : TypeId} (h : fn.results = #[.cell p ty, .tmp u, .tmp v]) (tmps : Array Value) (w : World) (g : Nat) (t : TypeId) (cs : Array Value) (d : TypeDesc)
  (hp : tmps.getD p undef = .pointer (some ⟨g, 0, none⟩)) (hg : RowAt w g cs t)
  (hu : P.underlying ty = some d) (hd : (match d with | .struct _ | .array _ _ => true | _ => false) = true) (hi : (P.info? ty).map (·.size) = some cs.size) :
  (results fn tmps).run P w = .ok (.tuple #[.agg cs, tmps.getD u undef, tmps.getD v undef]) w:=by
 have hp' : tmps[p]?.getD undef = .pointer (some ⟨g, 0, none⟩):=by simpa using hp
 simp only [results, h]
 simp [Result.andThen, hp', asAddr, run_loadVar_row w g t ty cs (0, 0) d hg hu hd hi]
section
variable {P : Program} {fn : Func} {R : Ending → World → Prop} {a : Act} {w : World} {p q r : Tmp} {ty t : TypeId} {cs : Array Value} {d : TypeDesc}
theorem bR3 (g : Nat) (hg : RowAt w g cs t) (hu : P.underlying ty = some d) (hR : R (.returned (.tuple #[.agg cs, a.tmps.getD q undef, a.tmps.getD r undef])) w) (h : fn.results = #[.cell p ty, .tmp q, .tmp r]:=by rfl) (hp : a.tmps.getD p undef = .pointer (some ⟨g, 0, none⟩):=by rfl)
  (hd : (match d with | .struct _ | .array _ _ => true | _ => false) = true:=by rfl) (hi : (P.info? ty).map (·.size) = some cs.size:=by kernel_rfl) (hde : a.defers = []:=by rfl) : bodyPost P fn R .ret a w :=
 bodyPost_ret (results_row3 h _ _ g t cs d hp hg hu hd hi) hde hR
end
section
variable {P : Program} {ops : Array Oper} {Q : Exit → Act → World → Prop} {md : Region.Mode} {S : World → Prop}
theorem rKt {i fuel : Nat} {listed : Array Bool} {a : Act} {w : World} (F : Nat) (k : Nat) (args : Array Operand) (ats : Array TypeId) (d : Option Tmp) (gd : Option (Nat × Bool)) (vals : Array Value) (hE : ∀ args w, (callFunc F args).run P w = .ok (.enter F args) w)
  (hT : a.eval (.tmp k) = .func (.func F) #[] #[])
  (h : Calls P F vals w fun e w' => ∃ v, e = .returned v ∧ S w' ∧ (S w' → wpAnyH P md ops Q S fuel (listed.setIfInBounds i true) (a.put d v) w'))
  (hr : Region.ready md ops listed = [i]:=by kernel_rfl)
  (ho : (ops[i]?).map (fun o => (o.dst, o.op, o.guard)) = some (d, Op.call { callee:=Callee.value (.tmp k), args:=args, argTypes:=ats }, gd):=by kernel_rfl)
  (hw : (ops[i]?).map (fun o => Region.wanted o (yielded ops a.tmps)) = some true:=by kernel_rfl)
  (hv : args.map a.eval = vals:=by kernel_rfl) : wpAnyH P md ops Q S (fuel + 1) listed a w:=by
 obtain ⟨o, h1o, h2o, h3o, h4o⟩:=op_of ho
 refine wpAnyH_ready hr (by simp) (AllReadyH.cons h1o (fun K hK => ?_) AllReadyH.nil)
 rw [h1o] at hw
 rw [if_pos (by simpa using hw)]
 have hx : (execOp a.eval o).run P w = .ok (.enter F vals) w:=by
  unfold execOp
  simp only [h3o, resolve]
  have hT2 : a.tmps[k]?.getD undef = .func (.func F) #[] #[]:=by simpa [Act.eval] using hT
  simp [go_sem, hT2, hv, hE, Act.eval, invoke, Deferred.ofValue]
 unfold Oper.wp
 rw [hx, Oper.upon_enter]
 refine h.mono ?_
 rintro e w' ⟨v, rfl, hS, hk⟩
 dsimp only
 rw [h2o]
 exact hK.out _ _ hS hk
end
end Go.Proofs.YteadpgiffpfmnaaGreatDoor.RowL
namespace Go.Proofs.YteadpgiffpfmnaaGreatDoor.Mod
open Go.RowKit Hp Slot Go.ChangeShapes Go.WideShapes
def lst : List (String × DataW Unit):=[("coachhouse/slot.fields", Rows.laid_coachhouse_slot_fields)]
theorem gF : Tryz.prog.globalNamed "coachhouse/slot.fields" = some 0:=by kernel_rfl
theorem tF : (Tryz.prog.globals[0]?).map (·.type) = some 132:=by kernel_rfl
theorem c9 : Tryz.prog.cellsOf 132 = 18:=by kernel_rfl
theorem c2 : Tryz.prog.cellsOf 131 = 2:=by kernel_rfl
theorem door_met (os : Os) (args : Array Value) : laidMetH Tryz.prog lst ((World.doorLaid Tryz.prog 23 os).forCall (fun _ _ => 0) ⟨#[], args, []⟩).memory :=
 laidMetH_of_parts3 (fuel:=8) (laidMet_of_run' 8 (by kernel_rfl) (by kernel_rfl)) (by kernel_rfl) (by kernel_rfl)
theorem field_of {H : Type} {enc : TypeId × Value → H} {w : World} {base : Nat} {spare : Nat → Bool} {held : Bool} {n : Nat} {a b : Value} {x : DataW H × List MemPlace} {u v : Int} (h : DataW.trod enc Tryz.prog w base spare held n 131 [a, b] = some x) (hx : x.1 = .agg [.lit (Lit.int .i64 u), .lit (Lit.int .i64 v)]) : a = .i u ∧ b = .i v:=by
 obtain ⟨xs, m, _, hy, _, hlen, hg⟩:=DataW.trod_struct Tryz.underlying131 h
 have h0:=hg 0 _ rfl
 have h1:=hg 1 _ rfl
 have ci : Tryz.prog.cellsOf 3 = 1:=by kernel_rfl
 match xs, hlen with
 | [y0, y1], _ =>
  simp only [ci, List.drop_zero, List.getElem?_cons_zero, List.getElem?_cons_succ] at h0 h1
  obtain ⟨k0, e0, f0, -⟩:=DataW.trod_int Tryz.underlying3 (show DataW.trod enc Tryz.prog w base spare held m 3 [a] = some y0 from h0)
  obtain ⟨k1, e1, f1, -⟩:=DataW.trod_int Tryz.underlying3 (show DataW.trod enc Tryz.prog w base spare held m 3 [b] = some y1 from h1)
  rw [hy] at hx
  subst f0 f1
  simp at hx
  cases e0
  cases e1
  rw [hx.1, hx.2]
  exact ⟨rfl, rfl⟩
theorem of_laid {W : World} (h : laidMetH Tryz.prog lst W) : Laid W:=by
 rw [MakeChecks.laidMetH_plain _ _ _ (by kernel_rfl)] at h
 obtain ⟨ps, ⟨g0, t0, cs0, f0, p0, q0, hg0, ht0, hv0, hd0, _, _⟩, _, _⟩:=h
 obtain rfl:=Option.some.inj (gF.symm.trans hg0)
 obtain rfl:=Option.some.inj (tF.symm.trans ht0)
 obtain ⟨xs, m1, rfl, hx1, hlen, hn3, hel⟩:=DataW.trod_array Tryz.underlying132 hd0
 have hcell:=fun j => World.var?_cell hg0 hv0 j
 have hdat : (Rows.laid_coachhouse_slot_fields : DataW Unit) = .agg (fields9.map fun x => .agg [.lit (Lit.int .i64 (x.1 : Nat)), .lit (Lit.int .i64 (x.2 : Nat))]):=rfl
 rw [c9] at hlen
 rw [c2] at hel
 rw [hdat] at hx1
 simp only [Prod.mk.injEq, DataW.agg.injEq] at hx1
 obtain ⟨L⟩:=cs0
 intro i x hx
 have hi : i < 9:=(List.getElem?_eq_some_iff.1 hx).1
 have h1:=hel i hi
 have hL : L.length = 18:=hlen
 have hxi : xs[i]? = some (xs[i]'(by omega)):=List.getElem?_eq_getElem (by omega)
 have hda : (xs[i]'(by omega)).1 = .agg [.lit (Lit.int .i64 (x.1 : Nat)), .lit (Lit.int .i64 (x.2 : Nat))]:=by
  have h2 : (fields9.map fun x => (DataW.agg [.lit (Lit.int .i64 (x.1 : Nat)), .lit (Lit.int .i64 (x.2 : Nat))] : DataW Unit))[i]? = (xs.map (·.1))[i]?:=by rw [hx1.1]
  rw [List.getElem?_map, List.getElem?_map, hx, hxi] at h2
  simpa using h2.symm
 have hpair : List.take 2 (List.drop (i * 2) L) = [L[i * 2]'(by omega), L[i * 2 + 1]'(by omega)]:=by
  rw [List.drop_eq_getElem_cons (by omega), List.drop_eq_getElem_cons (by omega)]
  rfl
 have h3 : List.take 2 (List.drop (i * 2) (⟨L⟩ : Array Value).toList) = List.take 2 (List.drop (i * 2) L):=rfl
 rw [h3, hpair, hxi] at h1
 obtain ⟨r1, r2⟩:=field_of h1 hda
 refine ⟨(hcell (i * 2)).trans ?_, (hcell (i * 2 + 1)).trans ?_⟩
 ·rw [List.getElem?_toArray, List.getElem?_eq_getElem (by omega), r1]
 ·rw [List.getElem?_toArray, List.getElem?_eq_getElem (by omega), r2]
end Go.Proofs.YteadpgiffpfmnaaGreatDoor.Mod
