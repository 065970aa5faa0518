/- Part 13 of the walks and plain laws that the last text joins. -/
import Derived.Test.YtefpoidnklflnaaGreatDoorP11
set_option maxRecDepth 100000
set_option maxHeartbeats 16000000
set_option linter.unusedVariables false
set_option linter.unusedSimpArgs false
namespace Go.Proofs.YtefpoidnklflnaaGreatDoor.Cl
open Go.RowKit Hp Slot RowL Life
theorem m_dial {W : World} {tb mb wb : Nat} {lo ro : Option Nat} {t : Tk.Tk} {ws : List Int} {tc : Int} (h : TkAt W tb mb wb lo ro t ws tc) (hok : Tk.TkOk t ws) (ht : 0 ≤ tc ∧ tc ≤ 4000000000000000000) (hk : t.st = 9) (good : Bool) : Calls Tryz.prog 67 #[.pointer (some ⟨tb, 0, none⟩), .pointer (some ⟨mb, 0, none⟩), .bool good] W (SPost W tb mb wb lo ro t ws tc good):=by
 unfold SPost
 have hc : Small t.cf:=⟨hok.c.w, hok.c.s⟩
 have hlen:=len_sc hok hok.i
 rw [Tk.st_9 hk]
 cases good
 ·have : True:=trivial
  try rw [if_neg (by simp : ¬ (false = true))]
  have hsw:=fun w (h : TkAt w tb mb wb lo ro t ws tc) => tswap_any h hc ht t.i hok.i hlen t.word 2 (by simp [DoneT])
  have hst:=Tk.swap_take t t.i t.word 2 ws
  have e0 : (if (false : Bool) = true then 1 else 2) = 2:=rfl
  try rw [e0]
  generalize t.swap t.i t.word 2 ws = q at *
  obtain ⟨b, t', ws', n⟩:=q
  dsimp only at *
  have hi : t'.i = t.i:=by rcases hst with ⟨x, g, e, -⟩ | ⟨e, -⟩ <;> rw [e]
  have c8 : W.cell? ⟨tb, 8, none⟩ = some (.i t.i):=h.cell 8
  have c9 : W.cell? ⟨tb, 9, none⟩ = some (.i t.word):=h.cell 9
  have H:=Lib.hid h
  have HI:=Lib.hid hi
  clear h hst hi
  cases b
  ·rw [if_neg (by simp)]
   dsimp only
   go_enter Tryz.func67, Tryz.ntmps67
   go_upto_region 3 with (fail)
   refine wp_region_held_drew (S:=fun w' => w'.cell? ⟨tb, 8, none⟩ = some (.i t.i)) (by kernel_rfl) (by exact c8) (fun hHeld => ?_)
   refine tKg 0 8 hHeld ?_
   try simp only [Act.put, sA, sZ, sS]
   refine tKg 1 9 hHeld ?_
   try simp only [Act.put, sA, sZ, sS]
   refine tKg 2 10 hHeld ?_
   try simp only [Act.put, sA, sZ, sS]
   refine tKg 3 11 hHeld ?_
   try simp only [Act.put, sA, sZ, sS]
   refine tKg 4 12 hHeld ?_
   try simp only [Act.put, sA, sZ, sS]
   refine tKg 5 13 hHeld ?_
   try simp only [Act.put, sA, sZ, sS]
   refine tKg 6 14 hHeld ?_
   try simp only [Act.put, sA, sZ, sS]
   refine tKg 7 15 hHeld ?_
   try simp only [Act.put, sA, sZ, sS]
   refine tKg 8 16 hHeld ?_
   try simp only [Act.put, sA, sZ, sS]
   refine tKg 10 18 hHeld ?_
   try simp only [Act.put, sA, sZ, sS]
   refine rK 9 17 (.i t.word) hHeld ?_ (by go_simp; try with_reducible rfl)
   try simp only [Act.put, sA, sZ, sS]
   refine rKc (i:=11) 95 #[.tmp 8, .tmp 9, .tmp 13, .tmp 17, .tmp 18] #[34, 32, 3, 3, 3] (some 19) none #[.pointer (some ⟨tb, 0, none⟩), .pointer (some ⟨mb, 0, none⟩), .i t.i, .i t.word, .i 2] (enters_of Tryz.func95 (by kernel_rfl) rfl) ?_
   refine (hsw _ (H.out.below (Below.refl _ _).drew)).mono ?_
   rintro e w5 ⟨rfl, lo5, ro5, h5, r5⟩
   have d8 : w5.cell? ⟨tb, 8, none⟩ = some (.i t.i):=(h5.cell 8).trans (by show some (Value.int .i64 (t'.i : Int)) = _; rw [HI.out])
   refine ⟨_, rfl, d8, fun hHeld => ?_⟩
   try simp only [Act.put, sA, sZ, sS]
   have q5:=((TR.refl (W:=W) (tb:=tb) (mb:=mb) (wb:=wb) (lo:=lo) (ro:=ro)).below (Below.refl _ _).drew).trans r5
   refine tKg 12 20 hHeld ?_
   try simp only [Act.put, sA, sZ, sS]
   refine sKp 13 (some 21) hHeld ?_
   try simp only [Act.put, sA, sZ, sS]
   refine tKg 14 22 hHeld ?_
   try simp only [Act.put, sA, sZ, sS]
   refine wpAnyH_done (by kernel_rfl) ?_ _
   have hcl:=tend_any h5 6
   have Q5:=Lib.hid q5
   clear h5 q5 r5 hsw c8 c9 d8 hHeld
   go_wp2_with fail
   refine hcl.mono ?_
   rintro e w6 ⟨rfl, lo6, ro6, h6, r6⟩
   have H6:=Lib.hid h6
   have Q6:=Lib.hid (Q5.out.trans r6)
   clear hcl h6 r6
   go_wp2_with fail
   first | go_end0 | refine bodyPost_ret (results_none rfl _ _ _) rfl ?_
   exact ⟨rfl, lo6, ro6, H6.out, Q6.out⟩
  ·rw [if_neg (by simp)]
   dsimp only
   go_enter Tryz.func67, Tryz.ntmps67
   go_upto_region 3 with (fail)
   refine wp_region_held_drew (S:=fun w' => w'.cell? ⟨tb, 8, none⟩ = some (.i t.i)) (by kernel_rfl) (by exact c8) (fun hHeld => ?_)
   refine tKg 0 8 hHeld ?_
   try simp only [Act.put, sA, sZ, sS]
   refine tKg 1 9 hHeld ?_
   try simp only [Act.put, sA, sZ, sS]
   refine tKg 2 10 hHeld ?_
   try simp only [Act.put, sA, sZ, sS]
   refine tKg 3 11 hHeld ?_
   try simp only [Act.put, sA, sZ, sS]
   refine tKg 4 12 hHeld ?_
   try simp only [Act.put, sA, sZ, sS]
   refine tKg 5 13 hHeld ?_
   try simp only [Act.put, sA, sZ, sS]
   refine tKg 6 14 hHeld ?_
   try simp only [Act.put, sA, sZ, sS]
   refine tKg 7 15 hHeld ?_
   try simp only [Act.put, sA, sZ, sS]
   refine tKg 8 16 hHeld ?_
   try simp only [Act.put, sA, sZ, sS]
   refine tKg 10 18 hHeld ?_
   try simp only [Act.put, sA, sZ, sS]
   refine rK 9 17 (.i t.word) hHeld ?_ (by go_simp; try with_reducible rfl)
   try simp only [Act.put, sA, sZ, sS]
   refine rKc (i:=11) 95 #[.tmp 8, .tmp 9, .tmp 13, .tmp 17, .tmp 18] #[34, 32, 3, 3, 3] (some 19) none #[.pointer (some ⟨tb, 0, none⟩), .pointer (some ⟨mb, 0, none⟩), .i t.i, .i t.word, .i 2] (enters_of Tryz.func95 (by kernel_rfl) rfl) ?_
   refine (hsw _ (H.out.below (Below.refl _ _).drew)).mono ?_
   rintro e w5 ⟨rfl, lo5, ro5, h5, r5⟩
   have d8 : w5.cell? ⟨tb, 8, none⟩ = some (.i t.i):=(h5.cell 8).trans (by show some (Value.int .i64 (t'.i : Int)) = _; rw [HI.out])
   refine ⟨_, rfl, d8, fun hHeld => ?_⟩
   try simp only [Act.put, sA, sZ, sS]
   have q5:=((TR.refl (W:=W) (tb:=tb) (mb:=mb) (wb:=wb) (lo:=lo) (ro:=ro)).below (Below.refl _ _).drew).trans r5
   refine tKg 12 20 hHeld ?_
   try simp only [Act.put, sA, sZ, sS]
   refine tKg 13 21 hHeld ?_
   try simp only [Act.put, sA, sZ, sS]
   refine tKg 14 22 hHeld ?_
   try simp only [Act.put, sA, sZ, sS]
   refine wpAnyH_done (by kernel_rfl) ?_ _
   have hcl:=tend_any h5 6
   have Q5:=Lib.hid q5
   clear h5 q5 r5 hsw c8 c9 d8 hHeld
   go_wp2_with fail
   refine hcl.mono ?_
   rintro e w6 ⟨rfl, lo6, ro6, h6, r6⟩
   have H6:=Lib.hid h6
   have Q6:=Lib.hid (Q5.out.trans r6)
   clear hcl h6 r6
   go_wp2_with fail
   first | go_end0 | refine bodyPost_ret (results_none rfl _ _ _) rfl ?_
   exact ⟨rfl, lo6, ro6, H6.out, Q6.out⟩
 ·have : True:=trivial
  try rw [if_pos (rfl : true = true)]
  have hsw:=fun w (h : TkAt w tb mb wb lo ro t ws tc) => tswap_any h hc ht t.i hok.i hlen t.word 1 (by simp [DoneT])
  have hst:=Tk.swap_take t t.i t.word 1 ws
  have e0 : (if (true : Bool) = true then 1 else 2) = 1:=rfl
  try rw [e0]
  generalize t.swap t.i t.word 1 ws = q at *
  obtain ⟨b, t', ws', n⟩:=q
  dsimp only at *
  have hi : t'.i = t.i:=by rcases hst with ⟨x, g, e, -⟩ | ⟨e, -⟩ <;> rw [e]
  have c8 : W.cell? ⟨tb, 8, none⟩ = some (.i t.i):=h.cell 8
  have c9 : W.cell? ⟨tb, 9, none⟩ = some (.i t.word):=h.cell 9
  have H:=Lib.hid h
  have HI:=Lib.hid hi
  clear h hst hi
  cases b
  ·rw [if_neg (by simp)]
   dsimp only
   go_enter Tryz.func67, Tryz.ntmps67
   go_upto_region 3 with (fail)
   refine wp_region_held_drew (S:=fun w' => w'.cell? ⟨tb, 8, none⟩ = some (.i t.i)) (by kernel_rfl) (by exact c8) (fun hHeld => ?_)
   refine tKg 0 8 hHeld ?_
   try simp only [Act.put, sA, sZ, sS]
   refine tKg 1 9 hHeld ?_
   try simp only [Act.put, sA, sZ, sS]
   refine tKg 2 10 hHeld ?_
   try simp only [Act.put, sA, sZ, sS]
   refine tKg 3 11 hHeld ?_
   try simp only [Act.put, sA, sZ, sS]
   refine tKg 4 12 hHeld ?_
   try simp only [Act.put, sA, sZ, sS]
   refine tKg 5 13 hHeld ?_
   try simp only [Act.put, sA, sZ, sS]
   refine tKg 6 14 hHeld ?_
   try simp only [Act.put, sA, sZ, sS]
   refine tKg 7 15 hHeld ?_
   try simp only [Act.put, sA, sZ, sS]
   refine tKg 8 16 hHeld ?_
   try simp only [Act.put, sA, sZ, sS]
   refine tKg 10 18 hHeld ?_
   try simp only [Act.put, sA, sZ, sS]
   refine rK 9 17 (.i t.word) hHeld ?_ (by go_simp; try with_reducible rfl)
   try simp only [Act.put, sA, sZ, sS]
   refine rKc (i:=11) 95 #[.tmp 8, .tmp 9, .tmp 13, .tmp 17, .tmp 18] #[34, 32, 3, 3, 3] (some 19) none #[.pointer (some ⟨tb, 0, none⟩), .pointer (some ⟨mb, 0, none⟩), .i t.i, .i t.word, .i 1] (enters_of Tryz.func95 (by kernel_rfl) rfl) ?_
   refine (hsw _ (H.out.below (Below.refl _ _).drew)).mono ?_
   rintro e w5 ⟨rfl, lo5, ro5, h5, r5⟩
   have d8 : w5.cell? ⟨tb, 8, none⟩ = some (.i t.i):=(h5.cell 8).trans (by show some (Value.int .i64 (t'.i : Int)) = _; rw [HI.out])
   refine ⟨_, rfl, d8, fun hHeld => ?_⟩
   try simp only [Act.put, sA, sZ, sS]
   have q5:=((TR.refl (W:=W) (tb:=tb) (mb:=mb) (wb:=wb) (lo:=lo) (ro:=ro)).below (Below.refl _ _).drew).trans r5
   refine tKg 12 20 hHeld ?_
   try simp only [Act.put, sA, sZ, sS]
   refine sKp 13 (some 21) hHeld ?_
   try simp only [Act.put, sA, sZ, sS]
   refine tKg 14 22 hHeld ?_
   try simp only [Act.put, sA, sZ, sS]
   refine wpAnyH_done (by kernel_rfl) ?_ _
   have hcl:=tend_any h5 6
   have Q5:=Lib.hid q5
   clear h5 q5 r5 hsw c8 c9 d8 hHeld
   go_wp2_with fail
   refine hcl.mono ?_
   rintro e w6 ⟨rfl, lo6, ro6, h6, r6⟩
   have H6:=Lib.hid h6
   have Q6:=Lib.hid (Q5.out.trans r6)
   clear hcl h6 r6
   go_wp2_with fail
   first | go_end0 | refine bodyPost_ret (results_none rfl _ _ _) rfl ?_
   exact ⟨rfl, lo6, ro6, H6.out, Q6.out⟩
  ·rw [if_pos (by simp)]
   dsimp only
   go_enter Tryz.func67, Tryz.ntmps67
   go_upto_region 3 with (fail)
   refine wp_region_held_drew (S:=fun w' => w'.cell? ⟨tb, 8, none⟩ = some (.i t.i)) (by kernel_rfl) (by exact c8) (fun hHeld => ?_)
   refine tKg 0 8 hHeld ?_
   try simp only [Act.put, sA, sZ, sS]
   refine tKg 1 9 hHeld ?_
   try simp only [Act.put, sA, sZ, sS]
   refine tKg 2 10 hHeld ?_
   try simp only [Act.put, sA, sZ, sS]
   refine tKg 3 11 hHeld ?_
   try simp only [Act.put, sA, sZ, sS]
   refine tKg 4 12 hHeld ?_
   try simp only [Act.put, sA, sZ, sS]
   refine tKg 5 13 hHeld ?_
   try simp only [Act.put, sA, sZ, sS]
   refine tKg 6 14 hHeld ?_
   try simp only [Act.put, sA, sZ, sS]
   refine tKg 7 15 hHeld ?_
   try simp only [Act.put, sA, sZ, sS]
   refine tKg 8 16 hHeld ?_
   try simp only [Act.put, sA, sZ, sS]
   refine tKg 10 18 hHeld ?_
   try simp only [Act.put, sA, sZ, sS]
   refine rK 9 17 (.i t.word) hHeld ?_ (by go_simp; try with_reducible rfl)
   try simp only [Act.put, sA, sZ, sS]
   refine rKc (i:=11) 95 #[.tmp 8, .tmp 9, .tmp 13, .tmp 17, .tmp 18] #[34, 32, 3, 3, 3] (some 19) none #[.pointer (some ⟨tb, 0, none⟩), .pointer (some ⟨mb, 0, none⟩), .i t.i, .i t.word, .i 1] (enters_of Tryz.func95 (by kernel_rfl) rfl) ?_
   refine (hsw _ (H.out.below (Below.refl _ _).drew)).mono ?_
   rintro e w5 ⟨rfl, lo5, ro5, h5, r5⟩
   have d8 : w5.cell? ⟨tb, 8, none⟩ = some (.i t.i):=(h5.cell 8).trans (by show some (Value.int .i64 (t'.i : Int)) = _; rw [HI.out])
   refine ⟨_, rfl, d8, fun hHeld => ?_⟩
   try simp only [Act.put, sA, sZ, sS]
   have q5:=((TR.refl (W:=W) (tb:=tb) (mb:=mb) (wb:=wb) (lo:=lo) (ro:=ro)).below (Below.refl _ _).drew).trans r5
   refine tKg 12 20 hHeld ?_
   try simp only [Act.put, sA, sZ, sS]
   refine tKg 13 21 hHeld ?_
   try simp only [Act.put, sA, sZ, sS]
   refine tKg 14 22 hHeld ?_
   try simp only [Act.put, sA, sZ, sS]
   refine wpAnyH_done (by kernel_rfl) ?_ _
   have e6 : w5.cell? ⟨tb, 6, none⟩ = some (.i t'.st):=h5.cell 6
   have ef6:=h5.frozen 6
   have H5:=Lib.hid h5
   have Q5:=Lib.hid q5
   clear h5 q5 r5 hsw c8 c9 d8 hHeld
   go_wp2_with fail
   first | go_end0 | refine bodyPost_ret (results_none rfl _ _ _) rfl ?_
   exact ⟨rfl, lo5, ro5, H5.out.put 6 (.i 10) { t' with st:=10 } rfl rfl rfl rfl, Q5.out.set 6 _⟩
theorem m_grant {W : World} {tb mb wb : Nat} {lo ro : Option Nat} {t : Tk.Tk} {ws : List Int} {tc : Int} (h : TkAt W tb mb wb lo ro t ws tc) (hok : Tk.TkOk t ws) (ht : 0 ≤ tc ∧ tc ≤ 4000000000000000000) (hk : t.st = 13) (good : Bool) : Calls Tryz.prog 71 #[.pointer (some ⟨tb, 0, none⟩), .pointer (some ⟨mb, 0, none⟩), .bool good] W (SPost W tb mb wb lo ro t ws tc good):=by
 unfold SPost
 have hc : Small t.cf:=⟨hok.c.w, hok.c.s⟩
 have hi:=hok.i
 have hlen:=len_sc hok hok.i
 have hsl:=fun W => slot_any W t.cf t.i hc.w ⟨by have:=hc.s; unfold Tk.ns at hi; omega, hc.s.2⟩
 have hsc : (3 + 2 * t.cf.workers + (t.i : Int)) = ((Tk.sc t.cf t.i : Nat) : Int):=by have:=hc.w; unfold Tk.sc; omega
 simp only [hsc, Conf.Cf.val, Conf.Cf.cells] at hsl
 clear hsc
 have hrd:=rd_some hlen
 rw [Tk.st_13 hk]
 generalize Tk.rd ws (Tk.sc t.cf t.i) = x at *
 have hld:=fun W (h : CAt W mb wb ws tc) => load_any h ht (Tk.sc t.cf t.i) x hrd
 have c0 : W.cell? ⟨tb, 0, none⟩ = some (.i t.cf.workers):=h.cell 0
 have c1 : W.cell? ⟨tb, 1, none⟩ = some (.i t.cf.slots):=h.cell 1
 have c2 : W.cell? ⟨tb, 2, none⟩ = some (.i t.cf.streams):=h.cell 2
 have c3 : W.cell? ⟨tb, 3, none⟩ = some (.i t.cf.waiters):=h.cell 3
 have c4 : W.cell? ⟨tb, 4, none⟩ = some (.i t.cf.uses):=h.cell 4
 have c8 : W.cell? ⟨tb, 8, none⟩ = some (.i t.i):=h.cell 8
 have H:=Lib.hid h
 clear h hrd
 go_enter Tryz.func71, Tryz.ntmps71
 go_wp2_with fail
 go_region_held3 (fun w' => w'.cell? ⟨tb, 0, none⟩ = some (.i t.cf.workers) ∧ w'.cell? ⟨tb, 1, none⟩ = some (.i t.cf.slots) ∧ w'.cell? ⟨tb, 2, none⟩ = some (.i t.cf.streams) ∧ w'.cell? ⟨tb, 3, none⟩ = some (.i t.cf.waiters) ∧ w'.cell? ⟨tb, 4, none⟩ = some (.i t.cf.uses) ∧ w'.cell? ⟨tb, 8, none⟩ = some (.i t.i)) (first | go_keep | (refine ⟨?_, ?_, ?_, ?_, ?_, ?_⟩ <;> first | assumption | (rw [World.cell?_setCell_other _ _ _ _ (by simp)]; assumption)))
  ((first
  | (go_at_call 94; refine (hsl _).mono ?_; rintro e w6 ⟨rfl, hb6⟩; have h6:=(H.out.below (Below.refl _ _).drew).below hb6; have d0 : w6.cell? ⟨tb, 0, none⟩ = some (.i t.cf.workers):=h6.cell 0; have d1 : w6.cell? ⟨tb, 1, none⟩ = some (.i t.cf.slots):=h6.cell 1; have d2 : w6.cell? ⟨tb, 2, none⟩ = some (.i t.cf.streams):=h6.cell 2; have d3 : w6.cell? ⟨tb, 3, none⟩ = some (.i t.cf.waiters):=h6.cell 3; have d4 : w6.cell? ⟨tb, 4, none⟩ = some (.i t.cf.uses):=h6.cell 4; have d8 : w6.cell? ⟨tb, 8, none⟩ = some (.i t.i):=h6.cell 8)
  | (go_at_call 19; refine (hld _ h6.mem).mono ?_; rintro e w7 ⟨rfl, hM7, hC7⟩; have h7:=h6.mems hC7 hM7; have k9:=h7.frozen 9; have k99 : w7.cell? ⟨tb, 9, none⟩ = some (.i t.word):=h7.cell 9; have k0 : w7.cell? ⟨tb, 0, none⟩ = some (.i t.cf.workers):=h7.cell 0; have k1 : w7.cell? ⟨tb, 1, none⟩ = some (.i t.cf.slots):=h7.cell 1; have k2 : w7.cell? ⟨tb, 2, none⟩ = some (.i t.cf.streams):=h7.cell 2; have k3 : w7.cell? ⟨tb, 3, none⟩ = some (.i t.cf.waiters):=h7.cell 3; have k4 : w7.cell? ⟨tb, 4, none⟩ = some (.i t.cf.uses):=h7.cell 4; have k8 : w7.cell? ⟨tb, 8, none⟩ = some (.i t.i):=h7.cell 8)))
 have q7:=(((TR.refl (W:=W) (tb:=tb) (mb:=mb) (wb:=wb) (lo:=lo) (ro:=ro)).below (Below.refl _ _).drew).below hb6).mem hC7
 have h8:=h7.put 9 (.i x) { t with word:=x } rfl rfl rfl rfl
 have q8:=q7.set 9 (.i x)
 have e6 : (w7.setCell ⟨tb, 9, none⟩ (.i x)).cell? ⟨tb, 6, none⟩ = some (.i t.st):=h8.cell 6
 have ef6:=h8.frozen 6
 have H8:=Lib.hid h8
 have Q8:=Lib.hid q8
 clear h7 q7 h8 q8 h6 hM7 hC7 hb6 hsl hld
 go_wp2_with fail
 first | go_end0 | refine bodyPost_ret (results_none rfl _ _ _) rfl ?_
 exact ⟨rfl, lo, ro, H8.out.put 6 (.i 14) { t with word:=x, st:=14 } rfl rfl rfl rfl, Q8.out.set 6 _⟩
end Go.Proofs.YtefpoidnklflnaaGreatDoor.Cl
