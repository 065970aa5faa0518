/- Part 5 of the walks and plain laws that the last text joins. -/
import Derived.Test.YtpmkgddjgebojaaGreatDoorD1
import Derived.Test.YtpmkgddjgebojaaGreatDoorRows
import Derived.LaidMore
import Derived.Stop.Joined
set_option maxRecDepth 100000
set_option maxHeartbeats 16000000
set_option linter.unusedVariables false
set_option linter.unusedSimpArgs false
namespace Go.Proofs.YtpmkgddjgebojaaGreatDoor.RingBool
open Go.RowKit Hp
abbrev El:=Bool
abbrev val (x : El) : Value:=.bool x
def fp (rb : Nat) (v : Value) (k : Nat) : Prop:=k = rb ∨ Fp v k
structure At (w : World) (rb : Nat) (v : Value) (l : List El) (room : Int) : Prop where
 c0 : w.cell? ⟨rb, 0, none⟩ = some v
 c1 : w.cell? ⟨rb, 1, none⟩ = some (.i room)
 f0 : w.frozen? ⟨rb, 0, none⟩ = false
 own : OwnS w v l.length 1 (l.map val)
 sep : ¬ Fp v rb
 r0 : 0 ≤ room
 r1 : room ≤ 1000000
 fits : (l.length : Int) ≤ room
theorem At.lt {w : World} {rb : Nat} {v : Value} {l : List El} {room : Int} (h : At w rb v l room) {k : Nat} (hk : fp rb v k) : k < w.heap.size:=by
 rcases hk with rfl | hk
 ·exact World.block_lt_of_cell? _ _ h.c0
 ·exact h.own.lt hk
theorem At.stable {w w' : World} {rb : Nat} {v : Value} {l : List El} {room : Int} (h : At w rb v l room) (hs : w.heap.size ≤ w'.heap.size) (hb : ∀ k, fp rb v k → w'.heap[k]? = w.heap[k]?) : At w' rb v l room :=
 ⟨(World.cell?_of_block (w:=w) (hb rb (.inl rfl))).trans h.c0, (World.cell?_of_block (w:=w) (hb rb (.inl rfl))).trans h.c1, (World.frozen?_of_block (w:=w) (hb rb (.inl rfl))).trans h.f0,
  h.own.stable hs fun k hk => hb k (.inr hk), h.sep, h.r0, h.r1, h.fits⟩
theorem At.chg {F : Nat → Prop} {w w' : World} {rb : Nat} {v : Value} {l : List El} {room : Int} (h : At w rb v l room) (hc : Chg F w w') (hf : ∀ k, fp rb v k → ¬ F k) : At w' rb v l room :=
 h.stable hc.size fun k hk => hc.block k (h.lt hk) (hf k hk)
theorem At.drew {w : World} {rb : Nat} {v : Value} {l : List El} {room : Int} (h : At w rb v l room) : At w.drew rb v l room:=h.stable (Nat.le_refl _) fun _ _ => rfl
def Post (w : World) (rb : Nat) (v : Value) (ans : Value) (l' : List El) (room : Int) (e : Ending) (w' : World) : Prop :=
 e = .returned ans ∧ ∃ v', At w' rb v' l' room ∧ (∀ k, Fp v' k → Fp v k ∨ w.heap.size ≤ k) ∧ Chg (fp rb v) w w'
def PostP (w : World) (rb : Nat) (v : Value) (ans : Value) (l' : List El) (room : Int) (e : Ending) (w' : World) : Prop :=
 e = .returned ans ∧ ∃ v', At w' rb v' l' room ∧ (∀ k, Fp v' k → Fp v k) ∧ Chg (fp rb v) w w'
def clamp (n : Int) : Int:=min (max n 0) 1000000
theorem clamp_bd (n : Int) : 0 ≤ clamp n ∧ clamp n ≤ 1000000:=by unfold clamp; omega
theorem new_any (w : World) (n : Int) : Calls Tryz.prog 65 #[.i n] w fun e w' =>
  e = .returned (.pointer (some ⟨w.heap.size, 0, none⟩)) ∧ w' = w.alloc (.cells #[.slice none 0 0, .i (clamp n)] 133):=by
 go_enter Tryz.func65, Tryz.ntmps65
 go_wp2
 all_goals go_ret
 all_goals (refine ⟨rfl, congrArg (fun k => w.alloc (.cells #[.slice none 0 0, .i k] 133)) ?_⟩; unfold clamp; omega)
theorem at_new (w : World) (n : Int) : At (w.alloc (.cells #[.slice none 0 0, .i (clamp n)] 133)) w.heap.size (.slice none 0 0) [] (clamp n):=by
 obtain ⟨h0, h1⟩:=clamp_bd n
 exact ⟨by simp, by simp, by simp, ownS_nil _ _, fp_nil _, h0, h1, by simpa using h0⟩
theorem info : (Tryz.prog.info? 4).map (fun i => (i.zero, i.size, i.bytes)) = some (some (.bool false), 1, 1):=by kernel_rfl
theorem push_no (w : World) (rb : Nat) (v : Value) (l : List El) (room : Int) (x : El) (h : At w rb v l room) (hf : room ≤ l.length) :
  Calls Tryz.prog 93 #[.pointer (some ⟨rb, 0, none⟩), val x] w (Post w rb v (.bool false) l room):=by
 obtain ⟨a, c, rfl⟩:=h.own.form
 have h0:=h.c0
 have h1:=h.c1
 have hl:=h.own.len
 go_enter Tryz.func93, Tryz.ntmps93
 go_wp2
 go_region
 go_wp2
 go_ret
 exact ⟨rfl, _, h.drew, fun k hk => .inl hk, (Chg.refl _ _).drew⟩
theorem push_yes (w : World) (rb : Nat) (v : Value) (l : List El) (room : Int) (x : El) (h : At w rb v l room) (hf : l.length < room) :
  Calls Tryz.prog 93 #[.pointer (some ⟨rb, 0, none⟩), val x] w (Post w rb v (.bool true) (l ++ [x]) room):=by
 obtain ⟨a, c, rfl⟩:=h.own.form
 have h0:=h.c0
 have h1:=h.c1
 have hl:=h.own.len
 have h2:=h.f0
 have h3:=h.r1
 have hlt : rb < w.heap.size:=World.block_lt_of_cell? _ _ h.c0
 have hown : OwnS (w.drew.alloc (.cells #[val x] 4)) (.slice a l.length c) l.length 1 (l.map val):=h.own.drew.alloc _
 obtain ⟨i0, hi, hz0, hz1, hz2⟩:=info_parts info
 go_enter Tryz.func93, Tryz.ntmps93
 go_wp2
 go_region
 go_wp2_with (at_builtin; refine wpList_append _ rfl _ _ 86 rfl 4 i0 (.bool false) 1 1 Tryz.underlying86 hi hz0 hz1 hz2 rfl (by decide) _ _ _ rfl hown ⟨w.heap.size, 0, none⟩ 1 1 [val x] rfl rfl ?c1 ?c2 ?c3 ?c4 ?_)
 case c1 => exact one_new _ _ _
 case c2 => simp [Value.oneCell']
 case c3 => unfold maxLen; omega
 case c4 => omega
 intro a' c' w' hown' hfp hch
 have hch' : Chg (Fp (.slice a l.length c)) w w':=Chg.trans ((Chg.refl _ w).drew.alloc _) hch (fun k _ hk => hk)
 have e0 : w'.cell? ⟨rb, 0, none⟩ = some (.slice a l.length c):=(hch'.cell hlt h.sep).trans h.c0
 have e1 : w'.cell? ⟨rb, 1, none⟩ = some (.i room):=(hch'.cell hlt h.sep).trans h.c1
 have e2 : w'.frozen? ⟨rb, 0, none⟩ = false:=(hch'.frozen hlt h.sep).trans h.f0
 have hw1 : Chg (fp rb (.slice a l.length c)) w w':=hch'.mono fun k _ hk => .inr hk
 have hsz:=hw1.size
 have hrb : ¬ Fp (.slice a' (l.length + 1) c') rb:=fun hk => by
  rcases hfp rb hk with h' | h'
  ·exact h.sep h'
  ·first | omega | (simp at h'; omega)
 clear h0 h1 h2
 go_wp2
 go_ret
 refine ⟨rfl, _, ⟨World.cell?_setCell_same _ _ _ e0, ?_, by simp [e2], ?_, hrb, h.r0, h.r1, by simp; omega⟩, fun k hk => ?_, hw1.setCell _ _ (fun _ => .inl rfl)⟩
 ·rw [World.cell?_setCell_other _ _ _ _ (by simp)]; exact e1
 ·have:=hown'.chg (F:=fun k => k = rb) ((Chg.refl _ _).setCell ⟨rb, 0, none⟩ (.slice a' (l.length + 1) c') (fun _ => rfl)) (fun k hk e => hrb (e ▸ hk))
  simpa using this
 ·rcases hfp k hk with h' | h'
  ·exact .inl h'
  ·exact .inr (by first | omega | (simp at h'; omega))
theorem pop_none (w : World) (rb : Nat) (v : Value) (room : Int) (h : At w rb v [] room) :
  Calls Tryz.prog 104 #[.pointer (some ⟨rb, 0, none⟩)] w fun e w' => e = .returned (.tuple #[(.bool false), .bool false]) ∧ w = w':=by
 obtain ⟨a, c, rfl⟩:=h.own.form
 have h0:=h.c0
 go_enter Tryz.func104, Tryz.ntmps104
 go_wp2
 go_ret2
 exact ⟨rfl, rfl⟩
theorem own_tail {w : World} {g off c : Nat} {x : El} {r : List El} (z : Value) (h : OwnS w (.slice (some ⟨g, off, none⟩) (r.length + 1) c) (r.length + 1) 1 ((x :: r).map val)) (h2 : c ≠ 1) (hz : w.cell? ⟨g, off, none⟩ = some (val x)) :
  OwnS (w.setCell ⟨g, off, none⟩ z) (.slice (some ⟨g, off + 1, none⟩) r.length (c - 1)) r.length 1 (r.map val):=by
 obtain ⟨hl, h | ⟨g', off', c', e, h1, h3, h4, h5, h6, h7⟩⟩:=h
 ·cases h.1
 ·cases e
  refine ⟨by simp, .inr ⟨g, off + 1, c - 1, rfl, by omega, by omega, h4.setCell _ _, fun j hj => ?_, fun j hj => ?_, fun j u hu => ?_⟩⟩
  ·rw [World.cell?_setCell_other _ _ _ _ (by simp), show off + 1 + j = off + (j + 1) by omega]; exact h5 _ (by omega)
  ·rw [World.frozen?_setCell, show off + 1 + j = off + (j + 1) by omega]; exact h6 _ (by omega)
  ·rw [World.cell?_setCell_other _ _ _ _ (by simp), show off + 1 + j = off + (j + 1) by omega]; exact h7 _ _ (by simpa using hu)
theorem pop_somep (w : World) (rb : Nat) (v : Value) (x : El) (r : List El) (room : Int) (h : At w rb v (x :: r) room) :
  Calls Tryz.prog 104 #[.pointer (some ⟨rb, 0, none⟩)] w (PostP w rb v (.tuple #[val x, .bool true]) r room):=by
 have h0:=h.c0
 have h1:=h.c1
 have h2:=h.f0
 have h3:=h.r1
 have h4:=h.sep
 have h5:=h.own
 have h6:=h.fits
 have hlt : rb < w.heap.size:=World.block_lt_of_cell? _ _ h.c0
 obtain ⟨g, off, c, rfl, hc1, hc2, hg, hcell, hfrz, hval⟩:=h.own.some (by simp)
 simp only [List.length_cons] at hc1 h5 h6
 have hx : w.cell? ⟨g, off, none⟩ = some (val x):=hval 0 _ (by simp)
 have hfx : w.frozen? ⟨g, off, none⟩ = false:=hfrz 0 (by omega)
 rw [fp_some] at h4
 simp only at h4
 have hne : ¬ ((⟨g, off, none⟩ : Addr) = ⟨rb, 0, none⟩):=fun e => h4 (by cases e; rfl)
 have hne' : ¬ ((⟨g, off, none⟩ : Addr) = ⟨rb, 1, none⟩):=fun e => h4 (by cases e; rfl)
 have hrb : (w.setCell ⟨g, off, none⟩ (.bool false)).cell? ⟨rb, 0, none⟩ = some (.slice (some ⟨g, off, none⟩) (r.length + 1) c):=by
  rw [World.cell?_setCell_other _ _ _ _ hne]; exact h0
 have hrb1 : (w.setCell ⟨g, off, none⟩ (.bool false)).cell? ⟨rb, 1, none⟩ = some (.i room):=by
  rw [World.cell?_setCell_other _ _ _ _ hne']; exact h1
 have hx' : (w.setCell ⟨g, off, none⟩ (.bool false)).cell? ⟨g, off, none⟩ = some (.bool false):=World.cell?_setCell_same _ _ _ hx
 have hch : Chg (fp rb (.slice (some ⟨g, off, none⟩) (r.length + 1) c)) w (w.setCell ⟨g, off, none⟩ (.bool false)):=(Chg.refl _ _).setCell _ _ (fun _ => .inr ((fp_some _ _ _ _).2 rfl))
 by_cases hcap : c = 1
 ·subst hcap
  obtain rfl : r = []:=List.eq_nil_of_length_eq_zero (by omega)
  simp only [List.length_nil, Nat.zero_add] at *
  have hrb2:=World.cell?_setCell_same (w.setCell ⟨g, off, none⟩ (.bool false)) ⟨rb, 0, none⟩ (.slice (some ⟨g, off, none⟩) 0 0) hrb
  go_enter Tryz.func104, Tryz.ntmps104
  go_wp2
  go_ret2
  refine ⟨rfl, _, ⟨World.cell?_setCell_same _ _ _ hrb2, ?_, by simp [h2], ownS_nil _ _, fp_nil _, h.r0, h.r1, by have:=h.r0; simpa using this⟩, fun k hk => (fp_nil _ hk).elim,
   (hch.setCell _ _ (fun _ => .inl rfl)).setCell _ _ (fun _ => .inl rfl)⟩
  rw [World.cell?_setCell_other _ _ _ _ (by simp), World.cell?_setCell_other _ _ _ _ (by simp)]; exact hrb1
 ·have hrb2:=World.cell?_setCell_same (w.setCell ⟨g, off, none⟩ (.bool false)) ⟨rb, 0, none⟩ (.slice (some ⟨g, off + 1, none⟩) r.length (c - 1)) hrb
  cases r with
  | nil =>
   simp only [List.length_nil, Nat.zero_add] at *
   go_enter Tryz.func104, Tryz.ntmps104
   go_wp2
   go_ret2
   refine ⟨rfl, _, ⟨World.cell?_setCell_same _ _ _ hrb2, ?_, by simp [h2], ownS_nil _ _, fp_nil _, h.r0, h.r1, by have:=h.r0; simpa using this⟩, fun k hk => (fp_nil _ hk).elim,
    (hch.setCell _ _ (fun _ => .inl rfl)).setCell _ _ (fun _ => .inl rfl)⟩
   rw [World.cell?_setCell_other _ _ _ _ (by simp), World.cell?_setCell_other _ _ _ _ (by simp)]; exact hrb1
  | cons y r =>
   have hot:=own_tail (.bool false) h5 hcap hx
   simp only [List.length_cons] at *
   go_enter Tryz.func104, Tryz.ntmps104
   go_wp2
   go_ret2
   refine ⟨rfl, _, ⟨hrb2, ?_, by simp [h2], ?_, ?_, h.r0, h.r1, by simp; omega⟩, fun k hk => ?_, hch.setCell _ _ (fun _ => .inl rfl)⟩
   ·rw [World.cell?_setCell_other _ _ _ _ (by simp)]; exact hrb1
   ·have:=hot.chg (F:=fun k => k = rb) ((Chg.refl _ _).setCell ⟨rb, 0, none⟩ (.slice (some ⟨g, off + 1, none⟩) (r.length + 1) (c - 1)) (fun _ => rfl)) (fun k hk e => by rw [fp_some] at hk; simp at hk; omega)
    simpa using this
   ·rw [fp_some]; simpa using h4
   ·rw [fp_some] at hk; exact (fp_some _ _ _ _).2 hk
end Go.Proofs.YtpmkgddjgebojaaGreatDoor.RingBool
namespace Go.Proofs.YtpmkgddjgebojaaGreatDoor.World11
open Go.RowKit Hp
def wfp (wb rb : Nat) (v : Value) (k : Nat) : Prop:=k = wb ∨ RingBool.fp rb v k
structure WAt (w : World) (wb rb : Nat) (v : Value) (l : List Bool) (g b : Int) : Prop where
 c0 : w.cell? ⟨wb, 0, none⟩ = some (.pointer (some ⟨rb, 0, none⟩))
 c1 : w.cell? ⟨wb, 1, none⟩ = some (.i g)
 c2 : w.cell? ⟨wb, 2, none⟩ = some (.i b)
 f1 : w.frozen? ⟨wb, 1, none⟩ = false
 f2 : w.frozen? ⟨wb, 2, none⟩ = false
 ring : RingBool.At w rb v l 1000
 sep : ¬ RingBool.fp rb v wb
theorem WAt.lt {w : World} {wb rb : Nat} {v : Value} {l : List Bool} {g b : Int} (h : WAt w wb rb v l g b) {k : Nat} (hk : wfp wb rb v k) : k < w.heap.size:=by
 rcases hk with rfl | hk
 ·exact World.block_lt_of_cell? _ _ h.c0
 ·exact h.ring.lt hk
theorem WAt.stable {w w' : World} {wb rb : Nat} {v : Value} {l : List Bool} {g b : Int} (h : WAt w wb rb v l g b) (hs : w.heap.size ≤ w'.heap.size) (hb : ∀ k, wfp wb rb v k → w'.heap[k]? = w.heap[k]?) : WAt w' wb rb v l g b :=
 ⟨(World.cell?_of_block (w:=w) (hb wb (.inl rfl))).trans h.c0, (World.cell?_of_block (w:=w) (hb wb (.inl rfl))).trans h.c1, (World.cell?_of_block (w:=w) (hb wb (.inl rfl))).trans h.c2,
  (World.frozen?_of_block (w:=w) (hb wb (.inl rfl))).trans h.f1, (World.frozen?_of_block (w:=w) (hb wb (.inl rfl))).trans h.f2, h.ring.stable hs fun k hk => hb k (.inr hk), h.sep⟩
theorem WAt.chg {F : Nat → Prop} {w w' : World} {wb rb : Nat} {v : Value} {l : List Bool} {g b : Int} (h : WAt w wb rb v l g b) (hc : Chg F w w') (hf : ∀ k, wfp wb rb v k → ¬ F k) : WAt w' wb rb v l g b :=
 h.stable hc.size fun k hk => hc.block k (h.lt hk) (hf k hk)
theorem WAt.below {w w' : World} {wb rb : Nat} {v : Value} {l : List Bool} {g b : Int} (h : WAt w wb rb v l g b) (hc : Below w.heap.size w w') : WAt w' wb rb v l g b :=
 h.stable hc.size fun k hk => hc.block k (h.lt hk)
def Post (w : World) (wb rb : Nat) (v : Value) (ans : Value) (l' : List Bool) (g' b' : Int) (e : Ending) (w' : World) : Prop :=
 e = .returned ans ∧ ∃ v', WAt w' wb rb v' l' g' b' ∧ (∀ k, Fp v' k → Fp v k ∨ w.heap.size ≤ k) ∧ Chg (wfp wb rb v) w w'
theorem WAt.step {w w' : World} {wb rb : Nat} {v ans : Value} {l l' : List Bool} {g b : Int} {e : Ending} (h : WAt w wb rb v l g b) (hp : RingBool.Post w rb v ans l' 1000 e w') : Post w wb rb v ans l' g b e w':=by
 obtain ⟨rfl, v', h1, h2, h3⟩:=hp
 have hlt:=World.block_lt_of_cell? _ _ h.c0
 have hb:=h3.block wb hlt h.sep
 refine ⟨rfl, v', ⟨(World.cell?_of_block (w:=w) hb).trans h.c0, (World.cell?_of_block (w:=w) hb).trans h.c1, (World.cell?_of_block (w:=w) hb).trans h.c2, (World.frozen?_of_block (w:=w) hb).trans h.f1, (World.frozen?_of_block (w:=w) hb).trans h.f2, h1, fun hk => ?_⟩, h2, h3.mono fun k _ hk => .inr hk⟩
 rcases hk with e | hk
 ·exact h.sep (.inl e)
 ·rcases h2 _ hk with h' | h'
  ·exact h.sep (.inr h')
  ·simp at hlt; omega
theorem WAt.good {w : World} {wb rb : Nat} {v : Value} {l : List Bool} {g b : Int} (h : WAt w wb rb v l g b) (g' : Int) : WAt (w.setCell ⟨wb, 1, none⟩ (.i g')) wb rb v l g' b:=by
 refine ⟨by rw [World.cell?_setCell_other _ _ _ _ (by simp)]; exact h.c0, World.cell?_setCell_same _ _ _ h.c1, by rw [World.cell?_setCell_other _ _ _ _ (by simp)]; exact h.c2, by simp [h.f1], by simp [h.f2],
  h.ring.chg (F:=fun k => k = wb) ((Chg.refl _ _).setCell _ _ (fun _ => rfl)) (fun k hk e => h.sep (e ▸ hk)), h.sep⟩
theorem WAt.bad {w : World} {wb rb : Nat} {v : Value} {l : List Bool} {g b : Int} (h : WAt w wb rb v l g b) (b' : Int) : WAt (w.setCell ⟨wb, 2, none⟩ (.i b')) wb rb v l g b':=by
 refine ⟨by rw [World.cell?_setCell_other _ _ _ _ (by simp)]; exact h.c0, by rw [World.cell?_setCell_other _ _ _ _ (by simp)]; exact h.c1, World.cell?_setCell_same _ _ _ h.c2, by simp [h.f1], by simp [h.f2],
  h.ring.chg (F:=fun k => k = wb) ((Chg.refl _ _).setCell _ _ (fun _ => rfl)) (fun k hk e => h.sep (e ▸ hk)), h.sep⟩
theorem feed_no (w : World) (wb rb : Nat) (v : Value) (l : List Bool) (g b : Int) (x : Bool) (h : WAt w wb rb v l g b) (hf : 1000 ≤ l.length) :
  Calls Tryz.prog 62 #[.pointer (some ⟨wb, 0, none⟩), .bool x] w (Post w wb rb v (.bool false) l g b):=by
 have h0:=h.c0
 have hp:=RingBool.push_no w rb v l 1000 x h.ring (by omega)
 go_enter Tryz.func62, Tryz.ntmps62
 go_wp2_with fail
 refine hp.mono ?_
 intro e w' hp'
 obtain ⟨rfl, hq⟩:=h.step hp'
 go_wp2_with fail
 go_ret
 exact ⟨rfl, hq⟩
theorem feed_yes (w : World) (wb rb : Nat) (v : Value) (l : List Bool) (g b : Int) (x : Bool) (h : WAt w wb rb v l g b) (hf : l.length < 1000) :
  Calls Tryz.prog 62 #[.pointer (some ⟨wb, 0, none⟩), .bool x] w (Post w wb rb v (.bool true) (l ++ [x]) g b):=by
 have h0:=h.c0
 have hp:=RingBool.push_yes w rb v l 1000 x h.ring (by omega)
 go_enter Tryz.func62, Tryz.ntmps62
 go_wp2_with fail
 refine hp.mono ?_
 intro e w' hp'
 obtain ⟨rfl, hq⟩:=h.step hp'
 go_wp2_with fail
 go_ret
 exact ⟨rfl, hq⟩
theorem new_any (w : World) : Calls Tryz.prog 36 #[] w fun e w' =>
  e = .returned (.pointer (some ⟨w.heap.size + 1, 0, none⟩)) ∧ WAt w' (w.heap.size + 1) w.heap.size (.slice none 0 0) [] 0 0 ∧ Below w.heap.size w w':=by
 go_enter Tryz.func36, Tryz.ntmps36
 go_wp2_with fail
 refine (RingBool.new_any _ _).mono ?_
 rintro e w' ⟨rfl, rfl⟩
 have hA:=RingBool.at_new w 1000
 generalize hw1 : w.alloc (.cells #[.slice none 0 0, .i (RingBool.clamp 1000)] 133) = w1 at *
 have hs1 : w1.heap.size = w.heap.size + 1:=by rw [← hw1]; simp
 have hb1 : Below w.heap.size w w1:=by rw [← hw1]; exact (Below.refl _ _).alloc (Nat.le_refl _) _
 have Hs:=Lib.hid hs1
 clear hw1 hs1
 go_wp2_with fail
 go_ret
 have hs1:=Hs.out
 have hC : RingBool.clamp 1000 = 1000:=by decide
 rw [hC] at hA
 refine ⟨by rw [hs1]; rfl, ?_, hb1.alloc (by omega) _⟩
 rw [← hs1]
 exact ⟨by simp, by simp, by simp, by simp, by simp, hA.chg (F:=fun _ => False) ((Chg.refl _ _).alloc _) (fun _ _ h => h), fun hk => by
  rcases hk with hk | hk
  ·omega
  ·exact (fp_nil _ hk).elim⟩
end Go.Proofs.YtpmkgddjgebojaaGreatDoor.World11
namespace Go.Proofs.YtpmkgddjgebojaaGreatDoor.RowL
open Go.RowKit Hp
section
variable {P : Program} {ops : Array Oper} {Q : Exit → Act → World → Prop} {md : Region.Mode} {S : World → Prop}
theorem ready_open {i : Nat} {listed : Array Bool} (h : i ∈ Region.ready md ops listed) : listed.getD i true = false:=(mem_ready.1 h).1
end
theorem wp_normal {P : Program} {c : Code} {a : Act} {w : World} {Q : Exit → Act → World → Prop} (h : c.wp P (fun e a' w' => e = Exit.normal ∧ Q Exit.normal a' w') a w) : c.wp P Q a w :=
 Code.wp_mono (fun e a' w' hh => by obtain ⟨rfl, h2⟩:=hh; exact h2) h
section
variable {P : Program} {ops : Array Oper} {Q : Exit → Act → World → Prop} {md : Region.Mode} {S : World → Prop}
theorem wpAnyH_inv2 (Inv Fin : Nat → Array Bool → Act → World → Prop) (hfin : ∀ f l a w, Fin f l a w → wpAnyH P md ops Q S f l a w)
  (hne : ∀ f l a w, Inv f l a w → (Region.ready md ops l).isEmpty = false)
  (hstep : ∀ f l a w, Inv f l a w → ∀ i ∈ Region.ready md ops l, ∃ f', f = f' + 1 ∧ wpOp P ops Q i (fun a' w' => S w' ∧ (Inv f' (l.setIfInBounds i true) a' w' ∨ Fin f' (l.setIfInBounds i true) a' w')) a w) :
  ∀ f l a w, Inv f l a w → wpAnyH P md ops Q S f l a w:=by
 intro f
 induction f with
 | zero =>
  intro l a w h
  have h1:=hne _ _ _ _ h
  cases hx : Region.ready md ops l with
  | nil => rw [hx] at h1; cases h1
  | cons i r => obtain ⟨f', hf, _⟩:=hstep _ _ _ _ h i (by rw [hx]; simp); omega
 | succ f ih =>
  intro l a w h
  refine ⟨fun hr => ?_, fun i hi => ?_⟩
  ·have h1:=hne _ _ _ _ h
   rw [hr] at h1; cases h1
  ·obtain ⟨f', hf, hw⟩:=hstep _ _ _ _ h i hi
   obtain rfl : f = f':=by omega
   exact wpOp_mono (fun a' w' h' => ⟨h'.1, h'.2.elim (ih _ _ _) (hfin _ _ _ _)⟩) hw
theorem wpOp_run {i : Nat} {a : Act} {w w' : World} {K : Act → World → Prop} (d : Option Tmp) (v : Value) (ho : (ops[i]?).map (fun o => o.dst) = some d)
  (hw : (ops[i]?).map (fun o => Region.wanted o (yielded ops a.tmps)) = some true) (hr : ((ops[i]?).map fun o => (execOp a.eval o).run P w) = some (.ok (.value v) w'))
  (h : K (a.put d v) w') : wpOp P ops Q i K a w:=by
 cases h1 : ops[i]? with
 | none => rw [h1] at ho; cases ho
 | some o =>
  rw [h1] at ho hw hr
  simp only [Option.map_some, Option.some.injEq] at ho hw hr
  subst ho
  refine wpOp_step h1 fun K' hK => ?_
  rw [if_pos hw]
  unfold Oper.wp
  rw [hr]
  exact hK _ _ h
theorem wpOp_call {i : Nat} {a : Act} {w : World} {K : Act → World → Prop} (F : Nat) (args : Array Operand) (ats : Array TypeId) (d : Option Tmp) (gd : Option (Nat × Bool))
  (ho : (ops[i]?).map (fun o => (o.dst, o.op, o.guard)) = some (d, Op.call { callee:=Callee.value (Operand.func F), args:=args, argTypes:=ats }, gd))
  (hw : (ops[i]?).map (fun o => Region.wanted o (yielded ops a.tmps)) = some true)
  (vals : Array Value) (hv : args.map a.eval = vals) (hE : ∀ args w, (callFunc F args).run P w = .ok (.enter F args) w)
  (h : Calls P F vals w fun e w' => ∃ v, e = .returned v ∧ K (a.put d v) w') : wpOp P ops Q i K a w:=by
 obtain ⟨o, h1o, h2o, h3o, h4o⟩:=op_of ho
 rw [h1o] at hw
 refine wpOp_step h1o fun K' hK => ?_
 rw [if_pos (by simpa using hw)]
 have hx : (execOp a.eval o).run P w = .ok (.enter F vals) w:=by
  unfold execOp
  simp only [h3o, resolve]
  simp [go_sem, hv, hE, Act.eval, invoke, Deferred.ofValue]
 unfold Oper.wp
 rw [hx, Oper.upon_enter]
 refine h.mono ?_
 rintro e w' ⟨v, rfl, hk⟩
 dsimp only
 rw [h2o]
 exact hK _ _ hk
end
end Go.Proofs.YtpmkgddjgebojaaGreatDoor.RowL
namespace Go.Proofs.YtpmkgddjgebojaaGreatDoor.Ref11
open Go.RowKit Hp
abbrev fp (rb : Nat) (v : Value) (k : Nat) : Prop:=RingBool.fp rb v k
abbrev val (x : Bool) : Value:=.bool x
structure RAt (w : World) (rb : Nat) (v : Value) (l : List Bool) (g b : Int) : Prop where
 c0 : w.cell? ⟨rb, 0, none⟩ = some v
 c1 : w.cell? ⟨rb, 1, none⟩ = some (.i g)
 c2 : w.cell? ⟨rb, 2, none⟩ = some (.i b)
 f0 : w.frozen? ⟨rb, 0, none⟩ = false
 f1 : w.frozen? ⟨rb, 1, none⟩ = false
 f2 : w.frozen? ⟨rb, 2, none⟩ = false
 own : OwnS w v l.length 1 (l.map val)
 sep : ¬ Fp v rb
def RPost (w : World) (rb : Nat) (v : Value) (ans : Value) (l' : List Bool) (g' b' : Int) (e : Ending) (w' : World) : Prop :=
 e = .returned ans ∧ ∃ v', RAt w' rb v' l' g' b' ∧ (∀ k, Fp v' k → Fp v k ∨ w.heap.size ≤ k) ∧ Chg (fp rb v) w w'
section
variable {w w' : World} {rb : Nat} {v : Value} {l : List Bool} {g b : Int}
theorem RAt.lt (h : RAt w rb v l g b) {k : Nat} (hk : fp rb v k) : k < w.heap.size:=by
 rcases hk with rfl | hk
 ·exact World.block_lt_of_cell? _ _ h.c0
 ·exact h.own.lt hk
theorem RAt.stable (h : RAt w rb v l g b) (hs : w.heap.size ≤ w'.heap.size) (hb : ∀ k, fp rb v k → w'.heap[k]? = w.heap[k]?) : RAt w' rb v l g b :=
 have hc : ∀ i : Nat, w'.cell? ⟨rb, i, none⟩ = w.cell? ⟨rb, i, none⟩:=fun i => World.cell?_of_block (w:=w) (hb rb (.inl rfl))
 have hf : ∀ i : Nat, w'.frozen? ⟨rb, i, none⟩ = w.frozen? ⟨rb, i, none⟩:=fun i => World.frozen?_of_block (w:=w) (hb rb (.inl rfl))
 ⟨(hc 0).trans h.c0, (hc 1).trans h.c1, (hc 2).trans h.c2, (hf 0).trans h.f0, (hf 1).trans h.f1, (hf 2).trans h.f2, h.own.stable hs fun k hk => hb k (.inr hk), h.sep⟩
theorem RAt.chg {F : Nat → Prop} (h : RAt w rb v l g b) (hc : Chg F w w') (hf : ∀ k, fp rb v k → ¬ F k) : RAt w' rb v l g b :=
 h.stable hc.size fun k hk => hc.block k (h.lt hk) (hf k hk)
theorem RAt.drew (h : RAt w rb v l g b) : RAt w.drew rb v l g b:=h.stable (Nat.le_refl _) fun _ _ => rfl
theorem own_set {n : Nat} {xs : List Value} (h : OwnS w v n 1 xs) (hs : ¬ Fp v rb) (i : Nat) (u : Value) : OwnS (w.setCell ⟨rb, i, none⟩ u) v n 1 xs :=
 h.chg (F:=fun k => k = rb) ((Chg.refl _ _).setCell _ _ (fun _ => rfl)) (fun k hk e => hs (e ▸ hk))
theorem RAt.good (h : RAt w rb v l g b) (g' : Int) : RAt (w.setCell ⟨rb, 1, none⟩ (.i g')) rb v l g' b :=
 ⟨by rw [World.cell?_setCell_other _ _ _ _ (by simp)]; exact h.c0, World.cell?_setCell_same _ _ _ h.c1, by rw [World.cell?_setCell_other _ _ _ _ (by simp)]; exact h.c2, by simp [h.f0], by simp [h.f1], by simp [h.f2], own_set h.own h.sep _ _, h.sep⟩
theorem RAt.bad (h : RAt w rb v l g b) (b' : Int) : RAt (w.setCell ⟨rb, 2, none⟩ (.i b')) rb v l g b' :=
 ⟨by rw [World.cell?_setCell_other _ _ _ _ (by simp)]; exact h.c0, by rw [World.cell?_setCell_other _ _ _ _ (by simp)]; exact h.c1, World.cell?_setCell_same _ _ _ h.c2, by simp [h.f0], by simp [h.f1], by simp [h.f2], own_set h.own h.sep _ _, h.sep⟩
theorem RAt.line (h : RAt w rb v l g b) {v' : Value} {l' : List Bool} (ho : OwnS w v' l'.length 1 (l'.map val)) (hs : ¬ Fp v' rb) : RAt (w.setCell ⟨rb, 0, none⟩ v') rb v' l' g b :=
 ⟨World.cell?_setCell_same _ _ _ h.c0, by rw [World.cell?_setCell_other _ _ _ _ (by simp)]; exact h.c1, by rw [World.cell?_setCell_other _ _ _ _ (by simp)]; exact h.c2, by simp [h.f0], by simp [h.f1], by simp [h.f2], own_set ho hs _ _, hs⟩
end
theorem own_rest {w : World} {g off c : Nat} {x : Bool} {r : List Bool} (h : OwnS w (.slice (some ⟨g, off, none⟩) (r.length + 1) c) (r.length + 1) 1 ((x :: r).map val)) (h2 : c ≠ 1) :
  OwnS w (.slice (some ⟨g, off + 1, none⟩) r.length (c - 1)) r.length 1 (r.map val):=by
 obtain ⟨hl, h | ⟨g', off', c', e, h1, h3, h4, h5, h6, h7⟩⟩:=h
 ·cases h.1
 ·cases e
  refine ⟨by simp, .inr ⟨g, off + 1, c - 1, rfl, by omega, by omega, h4, fun j hj => ?_, fun j hj => ?_, fun j u hu => ?_⟩⟩
  ·rw [show off + 1 + j = off + (j + 1) by omega]; exact h5 _ (by omega)
  ·rw [show off + 1 + j = off + (j + 1) by omega]; exact h6 _ (by omega)
  ·rw [show off + 1 + j = off + (j + 1) by omega]; exact h7 _ _ (by simpa using hu)
theorem own_zero {w : World} {g off : Nat} {x : Bool} (h : OwnS w (.slice (some ⟨g, off, none⟩) 1 1) 1 1 [val x]) : OwnS w (.slice (some ⟨g, off, none⟩) 0 0) 0 1 []:=by
 obtain ⟨hl, h | ⟨g', off', c', e, h1, h3, h4, h5, h6, h7⟩⟩:=h
 ·cases h.1
 ·cases e
  exact ⟨by simp, .inr ⟨g, off, 0, rfl, by omega, by omega, h4, fun j hj => by omega, fun j hj => by omega, fun j u hu => by simp at hu⟩⟩
theorem feed_yes (w : World) (rb : Nat) (v : Value) (l : List Bool) (g b : Int) (x : Bool) (h : RAt w rb v l g b) (hf : l.length < 1000) :
  Calls Tryz.prog 25 #[.pointer (some ⟨rb, 0, none⟩), val x] w (RPost w rb v (.bool true) (l ++ [x]) g b):=by
 obtain ⟨a, c, rfl⟩:=h.own.form
 have h0:=h.c0
 have h2:=h.f0
 have hl:=h.own.len
 have hlt : rb < w.heap.size:=World.block_lt_of_cell? _ _ h.c0
 have hown : OwnS (w.alloc (.cells #[val x] 4)) (.slice a l.length c) l.length 1 (l.map val):=h.own.alloc _
 obtain ⟨i0, hi, hz0, hz1, hz2⟩:=info_parts RingBool.info
 have hf' : ¬ ((1000 : Int) ≤ (l.length : Int)):=by omega
 have Hf:=Lib.hid hf
 clear hf
 go_enter Tryz.func25, Tryz.ntmps25
 go_wp2_with (at_builtin; refine wpList_append _ rfl _ _ 86 rfl 4 i0 (.bool false) 1 1 Tryz.underlying86 hi hz0 hz1 hz2 rfl (by decide) _ _ _ rfl hown ⟨w.heap.size, 0, none⟩ 1 1 [val x] rfl rfl ?c1 ?c2 ?c3 ?c4 ?_)
 all_goals try (case c1 => exact one_new _ _ _)
 case c2 => simp [Value.oneCell']
 case c3 => unfold maxLen; omega
 case c4 => omega
 intro a' c' w' hown' hfp hch
 have hch' : Chg (Fp (.slice a l.length c)) w w':=Chg.trans ((Chg.refl _ w).alloc _) hch (fun k _ hk => hk)
 have e0 : w'.cell? ⟨rb, 0, none⟩ = some (.slice a l.length c):=(hch'.cell hlt h.sep).trans h.c0
 have e1 : w'.cell? ⟨rb, 1, none⟩ = some (.i g):=(hch'.cell hlt h.sep).trans h.c1
 have e2 : w'.cell? ⟨rb, 2, none⟩ = some (.i b):=(hch'.cell hlt h.sep).trans h.c2
 have f0 : w'.frozen? ⟨rb, 0, none⟩ = false:=(hch'.frozen hlt h.sep).trans h.f0
 have f1 : w'.frozen? ⟨rb, 1, none⟩ = false:=(hch'.frozen hlt h.sep).trans h.f1
 have f2 : w'.frozen? ⟨rb, 2, none⟩ = false:=(hch'.frozen hlt h.sep).trans h.f2
 have hw1 : Chg (fp rb (.slice a l.length c)) w w':=hch'.mono fun k _ hk => .inr hk
 have hrb : ¬ Fp (.slice a' (l.length + 1) c') rb:=fun hk => by
  rcases hfp rb hk with h' | h'
  ·exact h.sep h'
  ·first | omega | (simp at h'; omega)
 clear h0 h2
 go_wp2
 go_ret
 refine ⟨rfl, _, ⟨World.cell?_setCell_same _ _ _ e0, ?_, ?_, by simp [f0], by simp [f1], by simp [f2], ?_, hrb⟩, fun k hk => ?_, hw1.setCell _ _ (fun _ => .inl rfl)⟩
 ·rw [World.cell?_setCell_other _ _ _ _ (by simp)]; exact e1
 ·rw [World.cell?_setCell_other _ _ _ _ (by simp)]; exact e2
 ·have:=own_set (rb:=rb) hown' hrb 0 (.slice a' (l.length + 1) c')
  simpa using this
 ·rcases hfp k hk with h' | h'
  ·exact .inl h'
  ·exact .inr (by first | omega | (simp at h'; omega))
end Go.Proofs.YtpmkgddjgebojaaGreatDoor.Ref11
namespace Go.Proofs.YtpmkgddjgebojaaGreatDoor.Ref01
open Go.RowKit Hp
theorem ints_any (w : World) (v1 v2 : Value) (l1 l2 : List Int) (h1 : SliceAt w v1 (l1.map (Value.int .i64))) (h2 : SliceAt w v2 (l2.map (Value.int .i64))) :
  Calls Tryz.prog 30 #[v1, v2] w fun e w' => e = .returned (.bool (decide (l1 = l2))) ∧ ∃ n, w' = w.drewN n:=by
 obtain ⟨a1, c1, rfl, m1, q1⟩:=h1
 obtain ⟨a2, c2, rfl, m2, q2⟩:=h2
 simp only [List.length_map] at m1 m2 ⊢
 unfold maxLen at m1 m2
 by_cases hl : l1.length = l2.length
 ·have hl' : ((l1.length : Int) != (l2.length : Int)) = false:=by simp [hl]
  have Hl:=Lib.hid hl
  clear hl
  go_enter Tryz.func30, Tryz.ntmps30
  go_wp2
  go_loopw [5] (fun i wr => ∃ k : Nat, k ≤ l1.length ∧ i = .i k ∧ l1.take k = l2.take k ∧ ∃ n, wr = w.drewN n) (fun i _ => l1.length - (intOf i).toNat)
  case atStart => exact ⟨0, by omega, rfl, by simp, 0, rfl⟩
  case round =>
   obtain ⟨k, hk, rfl, ht, n, rfl⟩:=hrel
   by_cases hlt : k < l1.length
   ·have hlt2 : k < l2.length:=by have:=Hl.out; omega
    obtain ⟨x, hx⟩ : ∃ x, l1[k]? = some x:=⟨_, List.getElem?_eq_getElem hlt⟩
    obtain ⟨y, hy⟩ : ∃ y, l2[k]? = some y:=⟨_, List.getElem?_eq_getElem hlt2⟩
    rcases q1 with q1 | ⟨g1, o1, rfl, q1⟩
    ·simp at q1; subst q1; simp at hlt
    rcases q2 with q2 | ⟨g2, o2, rfl, q2⟩
    ·simp at q2; subst q2; simp at hlt2
    have e1 : w.cell? ⟨g1, o1 + k, none⟩ = some (.i x):=q1 k _ (by simp [hx])
    have e2 : w.cell? ⟨g2, o2 + k, none⟩ = some (.i y):=q2 k _ (by simp [hy])
    have Ht:=Lib.hid ht
    have Hx:=Lib.hid hx
    have Hy:=Lib.hid hy
    clear ht hx hy q1 q2
    by_cases hxy : x = y
    ·subst hxy
     have hne : (x != x) = false:=by simp
     go_wp2
     go_region
     go_wp2
     go_roundw
     case rel => exact ⟨k + 1, by omega, by go_num, by rw [List.take_add_one, List.take_add_one, Ht.out, Hx.out, Hy.out], n + 1, rfl⟩
     case measure => simp [intOf]; omega
    ·have hne : (x != y) = true:=by simp [hxy]
     have Hxy:=Lib.hid hxy
     clear hxy
     go_wp2
     go_region
     go_wp2
     go_ret
     refine ⟨Base.ret_bool ?_, n + 1, rfl⟩
     symm
     rw [decide_eq_false_iff_not]
     intro h
     have h3:=Hx.out
     rw [h, Hy.out] at h3
     exact Hxy.out (by simpa using h3.symm)
   ·go_wp2
    go_ret
    refine ⟨Base.ret_bool ?_, n, rfl⟩
    symm
    rw [decide_eq_true_eq]
    rwa [List.take_of_length_le (by omega), List.take_of_length_le (by have:=Hl.out; omega)] at ht
 ·have hl' : ((l1.length : Int) != (l2.length : Int)) = true:=by simp; omega
  go_enter Tryz.func30, Tryz.ntmps30
  go_wp2
  go_ret
  refine ⟨Base.ret_bool ?_, 0, rfl⟩
  symm
  rw [decide_eq_false_iff_not]
  intro h; exact hl (by rw [h])
end Go.Proofs.YtpmkgddjgebojaaGreatDoor.Ref01
namespace Go.Proofs.YtpmkgddjgebojaaGreatDoor.Mod
open Go.RowKit Hp Slot Go.ChangeShapes Go.WideShapes
def lst : List (String × DataW Unit):=[("coachhouse/slot.fields", Rows.laid_coachhouse_slot_fields)]
theorem gF : Tryz.prog.globalNamed "coachhouse/slot.fields" = some 0:=by kernel_rfl
theorem tF : (Tryz.prog.globals[0]?).map (·.type) = some 157:=by kernel_rfl
theorem c9 : Tryz.prog.cellsOf 157 = 18:=by kernel_rfl
theorem c2 : Tryz.prog.cellsOf 156 = 2:=by kernel_rfl
theorem door_met (os : Os) (args : Array Value) : laidMetH Tryz.prog lst ((World.doorLaid Tryz.prog 23 os).forCall (fun _ _ => 0) ⟨#[], args, []⟩).memory :=
 laidMetH_of_parts3 (fuel:=8) (laidMet_of_run' 8 (by kernel_rfl) (by kernel_rfl)) (by kernel_rfl) (by kernel_rfl)
theorem field_of {H : Type} {enc : TypeId × Value → H} {w : World} {base : Nat} {spare : Nat → Bool} {held : Bool} {n : Nat} {a b : Value} {x : DataW H × List MemPlace} {u v : Int} (h : DataW.trod enc Tryz.prog w base spare held n 156 [a, b] = some x) (hx : x.1 = .agg [.lit (Lit.int .i64 u), .lit (Lit.int .i64 v)]) : a = .i u ∧ b = .i v:=by
 obtain ⟨xs, m, _, hy, _, hlen, hg⟩:=DataW.trod_struct Tryz.underlying156 h
 have h0:=hg 0 _ rfl
 have h1:=hg 1 _ rfl
 have ci : Tryz.prog.cellsOf 3 = 1:=by kernel_rfl
 match xs, hlen with
 | [y0, y1], _ =>
  simp only [ci, List.drop_zero, List.getElem?_cons_zero, List.getElem?_cons_succ] at h0 h1
  obtain ⟨k0, e0, f0, -⟩:=DataW.trod_int Tryz.underlying3 (show DataW.trod enc Tryz.prog w base spare held m 3 [a] = some y0 from h0)
  obtain ⟨k1, e1, f1, -⟩:=DataW.trod_int Tryz.underlying3 (show DataW.trod enc Tryz.prog w base spare held m 3 [b] = some y1 from h1)
  rw [hy] at hx
  subst f0 f1
  simp at hx
  cases e0
  cases e1
  rw [hx.1, hx.2]
  exact ⟨rfl, rfl⟩
theorem of_laid {W : World} (h : laidMetH Tryz.prog lst W) : Laid W:=by
 rw [MakeChecks.laidMetH_plain _ _ _ (by kernel_rfl)] at h
 obtain ⟨ps, ⟨g0, t0, cs0, f0, p0, q0, hg0, ht0, hv0, hd0, _, _⟩, _, _⟩:=h
 obtain rfl:=Option.some.inj (gF.symm.trans hg0)
 obtain rfl:=Option.some.inj (tF.symm.trans ht0)
 obtain ⟨xs, m1, rfl, hx1, hlen, hn3, hel⟩:=DataW.trod_array Tryz.underlying157 hd0
 have hcell:=fun j => World.var?_cell hg0 hv0 j
 have hdat : (Rows.laid_coachhouse_slot_fields : DataW Unit) = .agg (fields9.map fun x => .agg [.lit (Lit.int .i64 (x.1 : Nat)), .lit (Lit.int .i64 (x.2 : Nat))]):=rfl
 rw [c9] at hlen
 rw [c2] at hel
 rw [hdat] at hx1
 simp only [Prod.mk.injEq, DataW.agg.injEq] at hx1
 obtain ⟨L⟩:=cs0
 intro i x hx
 have hi : i < 9:=(List.getElem?_eq_some_iff.1 hx).1
 have h1:=hel i hi
 have hL : L.length = 18:=hlen
 have hxi : xs[i]? = some (xs[i]'(by omega)):=List.getElem?_eq_getElem (by omega)
 have hda : (xs[i]'(by omega)).1 = .agg [.lit (Lit.int .i64 (x.1 : Nat)), .lit (Lit.int .i64 (x.2 : Nat))]:=by
  have h2 : (fields9.map fun x => (DataW.agg [.lit (Lit.int .i64 (x.1 : Nat)), .lit (Lit.int .i64 (x.2 : Nat))] : DataW Unit))[i]? = (xs.map (·.1))[i]?:=by rw [hx1.1]
  rw [List.getElem?_map, List.getElem?_map, hx, hxi] at h2
  simpa using h2.symm
 have hpair : List.take 2 (List.drop (i * 2) L) = [L[i * 2]'(by omega), L[i * 2 + 1]'(by omega)]:=by
  rw [List.drop_eq_getElem_cons (by omega), List.drop_eq_getElem_cons (by omega)]
  rfl
 have h3 : List.take 2 (List.drop (i * 2) (⟨L⟩ : Array Value).toList) = List.take 2 (List.drop (i * 2) L):=rfl
 rw [h3, hpair, hxi] at h1
 obtain ⟨r1, r2⟩:=field_of h1 hda
 refine ⟨(hcell (i * 2)).trans ?_, (hcell (i * 2 + 1)).trans ?_⟩
 ·rw [List.getElem?_toArray, List.getElem?_eq_getElem (by omega), r1]
 ·rw [List.getElem?_toArray, List.getElem?_eq_getElem (by omega), r2]
end Go.Proofs.YtpmkgddjgebojaaGreatDoor.Mod
