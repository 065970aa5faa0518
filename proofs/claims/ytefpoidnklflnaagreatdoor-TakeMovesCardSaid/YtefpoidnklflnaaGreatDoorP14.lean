/- Part 14 of the walks and plain laws that the last text joins. -/
import Derived.Test.YtefpoidnklflnaaGreatDoorP11
set_option maxRecDepth 100000
set_option maxHeartbeats 16000000
set_option linter.unusedVariables false
set_option linter.unusedSimpArgs false
namespace Go.Proofs.YtefpoidnklflnaaGreatDoor.Cl
open Go.RowKit Hp Slot RowL Life
theorem m_grantSwap {W : World} {tb mb wb : Nat} {lo ro : Option Nat} {t : Tk.Tk} {ws : List Int} {tc : Int} (h : TkAt W tb mb wb lo ro t ws tc) (hok : Tk.TkOk t ws) (ht : 0 ≤ tc ∧ tc ≤ 4000000000000000000) (hk : t.st = 14) (good : Bool) : Calls Tryz.prog 72 #[.pointer (some ⟨tb, 0, none⟩), .pointer (some ⟨mb, 0, none⟩), .bool good] W (SPost W tb mb wb lo ro t ws tc good):=by
 unfold SPost
 have hc : Small t.cf:=⟨hok.c.w, hok.c.s⟩
 have hlen:=len_sc hok hok.i
 have hsw:=fun w (h : TkAt w tb mb wb lo ro t ws tc) => tswap_any h hc ht t.i hok.i hlen t.word 16 (by simp [DoneT])
 have hst:=Tk.swap_take t t.i t.word 16 ws
 have haf:=tafter_any h t.word 16 (by simp [DoneT])
 rw [Tk.st_14 hk]
 have enx : ((dec t.word).bind fun s => Tk.nextX s 16 t.w 0) = nx t.word 16 t.w 0:=rfl
 rw [enx]
 clear enx
 generalize t.swap t.i t.word 16 ws = q at *
 generalize nx t.word 16 t.w 0 = N at *
 obtain ⟨b, t', ws', n⟩:=q
 dsimp only at *
 have hi : t'.i = t.i:=by rcases hst with ⟨x, g, e, -⟩ | ⟨e, -⟩ <;> rw [e]
 have c8 : W.cell? ⟨tb, 8, none⟩ = some (.i t.i):=h.cell 8
 have c9 : W.cell? ⟨tb, 9, none⟩ = some (.i t.word):=h.cell 9
 have H:=Lib.hid h
 have HI:=Lib.hid hi
 clear h hst hi
 cases N with
 | none =>
  simp only [Option.getD_none, Option.isSome_none, Option.getD_some, Option.isSome_some, nxW] at haf
  dsimp only
  go_enter Tryz.func72, Tryz.ntmps72
  go_wp2_with fail
  refine haf.mono ?_
  rintro e w5 ⟨rfl, hb5⟩
  clear haf
  dsimp only
  go_step
  refine gl (.tuple #[S.zero.val, .i 0, .bool false]) ?_
  refine gl S.zero.val ?_
  refine gl (.i 0) ?_
  refine gl (.bool false) ?_
  refine gbox (ob:=.cells zero9 30) (Z:=zero9) (cs:=S.zero.cells) (t:=30) 30 (.tmp 6) (.tmp 16) rfl ?_
  refine gl (.i 0) ?_
  refine gl (.bool false) ?_
  try simp only [Act.put, sA, sZ, sS]
  rw [setRow_new]
  have hb6 : Below W.heap.size W (w5.alloc (.cells S.zero.cells 30)):=hb5.alloc hb5.size _
  have hs6 : RowAt (w5.alloc (.cells S.zero.cells 30)) w5.heap.size S.zero.cells 30:=heap_alloc_new w5 _
  have hsb:=hb5.size
  generalize (w5.alloc (.cells S.zero.cells 30)) = w6 at *
  generalize w5.heap.size = sb at *
  have h6:=H.out.below hb6
  have q6:=(TR.refl (W:=W) (tb:=tb) (mb:=mb) (wb:=wb) (lo:=lo) (ro:=ro)).below hb6
  have hcl:=tend_any h6 5
  have Q6:=Lib.hid q6
  clear h6 q6 hb5 hb6 hs6 hsw c8 c9
  go_wp2_with fail
  refine hcl.mono ?_
  rintro e w7 ⟨rfl, lo7, ro7, h7, r7⟩
  have H7:=Lib.hid h7
  have Q7:=Lib.hid (Q6.out.trans r7)
  clear hcl h7 r7
  go_wp2_with fail
  first | go_end0 | refine bodyPost_ret (results_none rfl _ _ _) rfl ?_
  exact ⟨rfl, lo7, ro7, by simpa using H7.out, Q7.out⟩
 | some s =>
  simp only [Option.getD_none, Option.isSome_none, Option.getD_some, Option.isSome_some, nxW] at haf
  dsimp only
  by_cases hs3 : s.state = 3
  all_goals cases b
  ·have : True:=trivial
   rw [if_neg (by simp)]
   dsimp only
   go_enter Tryz.func72, Tryz.ntmps72
   go_wp2_with fail
   refine haf.mono ?_
   rintro e w5 ⟨rfl, hb5⟩
   clear haf
   dsimp only
   go_step
   refine gl (.tuple #[s.val, .i s.word, .bool true]) ?_
   refine gl s.val ?_
   refine gl (.i s.word) ?_
   refine gl (.bool true) ?_
   refine gbox (ob:=.cells zero9 30) (Z:=zero9) (cs:=s.cells) (t:=30) 30 (.tmp 6) (.tmp 16) rfl ?_
   refine gl (.i s.word) ?_
   refine gl (.bool true) ?_
   try simp only [Act.put, sA, sZ, sS]
   rw [setRow_new]
   have hb6 : Below W.heap.size W (w5.alloc (.cells s.cells 30)):=hb5.alloc hb5.size _
   have hs6 : RowAt (w5.alloc (.cells s.cells 30)) w5.heap.size s.cells 30:=heap_alloc_new w5 _
   have hsb:=hb5.size
   generalize (w5.alloc (.cells s.cells 30)) = w6 at *
   generalize w5.heap.size = sb at *
   have h6:=H.out.below hb6
   have q6:=(TR.refl (W:=W) (tb:=tb) (mb:=mb) (wb:=wb) (lo:=lo) (ro:=ro)).below hb6
   have d8 : w6.cell? ⟨tb, 8, none⟩ = some (.i t.i):=h6.cell 8
   have d9 : w6.cell? ⟨tb, 9, none⟩ = some (.i t.word):=h6.cell 9
   have H6:=Lib.hid h6
   have Q6:=Lib.hid q6
   have hml:=h6.mem.lt
   have hfar : sb ≠ tb ∧ sb ≠ mb ∧ sb ≠ wb ∧ lo ≠ some sb ∧ ro ≠ some sb:=by
    obtain ⟨a1, a2, a3, a4⟩:=H.out.newApart hsb
    exact ⟨a2, a1.m, a1.w, a4, a3⟩
   clear h6 q6 hb5 hb6 c8 c9
   go_upto_region 4 with (fail)
   refine wp_region_held_drew (S:=fun w' => w'.cell? ⟨tb, 8, none⟩ = some (.i t.i)) (by kernel_rfl) (by exact d8) (fun hHeld => ?_)
   refine tKg 0 28 hHeld ?_
   try simp only [Act.put, sA, sZ, sS]
   refine tKg 1 29 hHeld ?_
   try simp only [Act.put, sA, sZ, sS]
   refine tKg 2 30 hHeld ?_
   try simp only [Act.put, sA, sZ, sS]
   refine tKg 3 31 hHeld ?_
   try simp only [Act.put, sA, sZ, sS]
   refine tKg 4 32 hHeld ?_
   try simp only [Act.put, sA, sZ, sS]
   refine tKg 5 33 hHeld ?_
   try simp only [Act.put, sA, sZ, sS]
   refine tKg 6 34 hHeld ?_
   try simp only [Act.put, sA, sZ, sS]
   refine tKg 7 35 hHeld ?_
   try simp only [Act.put, sA, sZ, sS]
   refine tKg 8 36 hHeld ?_
   try simp only [Act.put, sA, sZ, sS]
   refine rK 9 37 (.i t.word) hHeld ?_ (by go_simp; try with_reducible rfl)
   try simp only [Act.put, sA, sZ, sS]
   refine rKc (i:=10) 95 #[.tmp 28, .tmp 29, .tmp 33, .tmp 37, .const (.i 16)] #[34, 32, 3, 3, 3] (some 38) none #[.pointer (some ⟨tb, 0, none⟩), .pointer (some ⟨mb, 0, none⟩), .i t.i, .i t.word, .i 16] (enters_of Tryz.func95 (by kernel_rfl) rfl) ?_
   refine (hsw _ (H6.out.below (Below.refl _ _).drew)).mono ?_
   rintro e w7 ⟨rfl, lo7, ro7, h7, r7⟩
   have e8 : w7.cell? ⟨tb, 8, none⟩ = some (.i t.i):=(h7.cell 8).trans (by show some (Value.int .i64 (t'.i : Int)) = _; rw [HI.out])
   refine ⟨_, rfl, e8, fun hHeld => ?_⟩
   try simp only [Act.put, sA, sZ, sS]
   have q7:=(Q6.out.below (Below.refl _ _).drew).trans r7
   have hs7 : RowAt w7 sb s.cells 30:=(r7.2.2.block sb (RowAt.lt (w:=w6.drew) hs6) (fun e => e.elim (fun e => e.elim hfar.1 fun e => e.elim hfar.2.2.2.1 hfar.2.2.2.2) fun e => e.elim hfar.2.1 hfar.2.2.1)).trans hs6
   refine tKg 11 39 hHeld ?_
   try simp only [Act.put, sA, sZ, sS]
   refine tKg 12 27 hHeld ?_
   try simp only [Act.put, sA, sZ, sS]
   refine wpAnyH_done (by kernel_rfl) ?_ _
   have g6 : w7.cell? ⟨tb, 6, none⟩ = some (.i t'.st):=h7.cell 6
   have gf6:=h7.frozen 6
   have s0 : w7.cell? ⟨sb, 0, none⟩ = some (.i s.state):=RowAt.cell hs7 0
   rw [hs3] at s0
   have H7:=Lib.hid h7
   have Q7:=Lib.hid q7
   clear h7 q7 r7 hsw d8 d9 e8 hHeld hs6 hs7 hfar hml
   go_wp2_with fail
   first | go_end0 | refine bodyPost_ret (results_none rfl _ _ _) rfl ?_
   exact ⟨rfl, lo7, ro7, H7.out.put 6 (.i 13) { t' with st:=13 } rfl rfl rfl rfl, Q7.out.set 6 _⟩
  ·have : True:=trivial
   rw [if_pos rfl]
   rw [if_pos hs3]
   dsimp only
   go_enter Tryz.func72, Tryz.ntmps72
   go_wp2_with fail
   refine haf.mono ?_
   rintro e w5 ⟨rfl, hb5⟩
   clear haf
   dsimp only
   go_step
   refine gl (.tuple #[s.val, .i s.word, .bool true]) ?_
   refine gl s.val ?_
   refine gl (.i s.word) ?_
   refine gl (.bool true) ?_
   refine gbox (ob:=.cells zero9 30) (Z:=zero9) (cs:=s.cells) (t:=30) 30 (.tmp 6) (.tmp 16) rfl ?_
   refine gl (.i s.word) ?_
   refine gl (.bool true) ?_
   try simp only [Act.put, sA, sZ, sS]
   rw [setRow_new]
   have hb6 : Below W.heap.size W (w5.alloc (.cells s.cells 30)):=hb5.alloc hb5.size _
   have hs6 : RowAt (w5.alloc (.cells s.cells 30)) w5.heap.size s.cells 30:=heap_alloc_new w5 _
   have hsb:=hb5.size
   generalize (w5.alloc (.cells s.cells 30)) = w6 at *
   generalize w5.heap.size = sb at *
   have h6:=H.out.below hb6
   have q6:=(TR.refl (W:=W) (tb:=tb) (mb:=mb) (wb:=wb) (lo:=lo) (ro:=ro)).below hb6
   have d8 : w6.cell? ⟨tb, 8, none⟩ = some (.i t.i):=h6.cell 8
   have d9 : w6.cell? ⟨tb, 9, none⟩ = some (.i t.word):=h6.cell 9
   have H6:=Lib.hid h6
   have Q6:=Lib.hid q6
   have hml:=h6.mem.lt
   have hfar : sb ≠ tb ∧ sb ≠ mb ∧ sb ≠ wb ∧ lo ≠ some sb ∧ ro ≠ some sb:=by
    obtain ⟨a1, a2, a3, a4⟩:=H.out.newApart hsb
    exact ⟨a2, a1.m, a1.w, a4, a3⟩
   clear h6 q6 hb5 hb6 c8 c9
   go_upto_region 4 with (fail)
   refine wp_region_held_drew (S:=fun w' => w'.cell? ⟨tb, 8, none⟩ = some (.i t.i)) (by kernel_rfl) (by exact d8) (fun hHeld => ?_)
   refine tKg 0 28 hHeld ?_
   try simp only [Act.put, sA, sZ, sS]
   refine tKg 1 29 hHeld ?_
   try simp only [Act.put, sA, sZ, sS]
   refine tKg 2 30 hHeld ?_
   try simp only [Act.put, sA, sZ, sS]
   refine tKg 3 31 hHeld ?_
   try simp only [Act.put, sA, sZ, sS]
   refine tKg 4 32 hHeld ?_
   try simp only [Act.put, sA, sZ, sS]
   refine tKg 5 33 hHeld ?_
   try simp only [Act.put, sA, sZ, sS]
   refine tKg 6 34 hHeld ?_
   try simp only [Act.put, sA, sZ, sS]
   refine tKg 7 35 hHeld ?_
   try simp only [Act.put, sA, sZ, sS]
   refine tKg 8 36 hHeld ?_
   try simp only [Act.put, sA, sZ, sS]
   refine rK 9 37 (.i t.word) hHeld ?_ (by go_simp; try with_reducible rfl)
   try simp only [Act.put, sA, sZ, sS]
   refine rKc (i:=10) 95 #[.tmp 28, .tmp 29, .tmp 33, .tmp 37, .const (.i 16)] #[34, 32, 3, 3, 3] (some 38) none #[.pointer (some ⟨tb, 0, none⟩), .pointer (some ⟨mb, 0, none⟩), .i t.i, .i t.word, .i 16] (enters_of Tryz.func95 (by kernel_rfl) rfl) ?_
   refine (hsw _ (H6.out.below (Below.refl _ _).drew)).mono ?_
   rintro e w7 ⟨rfl, lo7, ro7, h7, r7⟩
   have e8 : w7.cell? ⟨tb, 8, none⟩ = some (.i t.i):=(h7.cell 8).trans (by show some (Value.int .i64 (t'.i : Int)) = _; rw [HI.out])
   refine ⟨_, rfl, e8, fun hHeld => ?_⟩
   try simp only [Act.put, sA, sZ, sS]
   have q7:=(Q6.out.below (Below.refl _ _).drew).trans r7
   have hs7 : RowAt w7 sb s.cells 30:=(r7.2.2.block sb (RowAt.lt (w:=w6.drew) hs6) (fun e => e.elim (fun e => e.elim hfar.1 fun e => e.elim hfar.2.2.2.1 hfar.2.2.2.2) fun e => e.elim hfar.2.1 hfar.2.2.1)).trans hs6
   refine tKg 11 39 hHeld ?_
   try simp only [Act.put, sA, sZ, sS]
   refine tKg 12 27 hHeld ?_
   try simp only [Act.put, sA, sZ, sS]
   refine wpAnyH_done (by kernel_rfl) ?_ _
   have g6 : w7.cell? ⟨tb, 6, none⟩ = some (.i t'.st):=h7.cell 6
   have gf6:=h7.frozen 6
   have s0 : w7.cell? ⟨sb, 0, none⟩ = some (.i s.state):=RowAt.cell hs7 0
   rw [hs3] at s0
   have H7:=Lib.hid h7
   have Q7:=Lib.hid q7
   clear h7 q7 r7 hsw d8 d9 e8 hHeld hs6 hs7 hfar hml
   go_wp2_with fail
   first | go_end0 | refine bodyPost_ret (results_none rfl _ _ _) rfl ?_
   exact ⟨rfl, lo7, ro7, H7.out.put 6 (.i 10) { t' with st:=10 } rfl rfl rfl rfl, Q7.out.set 6 _⟩
  ·have : True:=trivial
   rw [if_neg (by simp)]
   dsimp only
   go_enter Tryz.func72, Tryz.ntmps72
   go_wp2_with fail
   refine haf.mono ?_
   rintro e w5 ⟨rfl, hb5⟩
   clear haf
   dsimp only
   go_step
   refine gl (.tuple #[s.val, .i s.word, .bool true]) ?_
   refine gl s.val ?_
   refine gl (.i s.word) ?_
   refine gl (.bool true) ?_
   refine gbox (ob:=.cells zero9 30) (Z:=zero9) (cs:=s.cells) (t:=30) 30 (.tmp 6) (.tmp 16) rfl ?_
   refine gl (.i s.word) ?_
   refine gl (.bool true) ?_
   try simp only [Act.put, sA, sZ, sS]
   rw [setRow_new]
   have hb6 : Below W.heap.size W (w5.alloc (.cells s.cells 30)):=hb5.alloc hb5.size _
   have hs6 : RowAt (w5.alloc (.cells s.cells 30)) w5.heap.size s.cells 30:=heap_alloc_new w5 _
   have hsb:=hb5.size
   generalize (w5.alloc (.cells s.cells 30)) = w6 at *
   generalize w5.heap.size = sb at *
   have h6:=H.out.below hb6
   have q6:=(TR.refl (W:=W) (tb:=tb) (mb:=mb) (wb:=wb) (lo:=lo) (ro:=ro)).below hb6
   have d8 : w6.cell? ⟨tb, 8, none⟩ = some (.i t.i):=h6.cell 8
   have d9 : w6.cell? ⟨tb, 9, none⟩ = some (.i t.word):=h6.cell 9
   have H6:=Lib.hid h6
   have Q6:=Lib.hid q6
   have hml:=h6.mem.lt
   have hfar : sb ≠ tb ∧ sb ≠ mb ∧ sb ≠ wb ∧ lo ≠ some sb ∧ ro ≠ some sb:=by
    obtain ⟨a1, a2, a3, a4⟩:=H.out.newApart hsb
    exact ⟨a2, a1.m, a1.w, a4, a3⟩
   clear h6 q6 hb5 hb6 c8 c9
   go_upto_region 4 with (fail)
   refine wp_region_held_drew (S:=fun w' => w'.cell? ⟨tb, 8, none⟩ = some (.i t.i)) (by kernel_rfl) (by exact d8) (fun hHeld => ?_)
   refine tKg 0 28 hHeld ?_
   try simp only [Act.put, sA, sZ, sS]
   refine tKg 1 29 hHeld ?_
   try simp only [Act.put, sA, sZ, sS]
   refine tKg 2 30 hHeld ?_
   try simp only [Act.put, sA, sZ, sS]
   refine tKg 3 31 hHeld ?_
   try simp only [Act.put, sA, sZ, sS]
   refine tKg 4 32 hHeld ?_
   try simp only [Act.put, sA, sZ, sS]
   refine tKg 5 33 hHeld ?_
   try simp only [Act.put, sA, sZ, sS]
   refine tKg 6 34 hHeld ?_
   try simp only [Act.put, sA, sZ, sS]
   refine tKg 7 35 hHeld ?_
   try simp only [Act.put, sA, sZ, sS]
   refine tKg 8 36 hHeld ?_
   try simp only [Act.put, sA, sZ, sS]
   refine rK 9 37 (.i t.word) hHeld ?_ (by go_simp; try with_reducible rfl)
   try simp only [Act.put, sA, sZ, sS]
   refine rKc (i:=10) 95 #[.tmp 28, .tmp 29, .tmp 33, .tmp 37, .const (.i 16)] #[34, 32, 3, 3, 3] (some 38) none #[.pointer (some ⟨tb, 0, none⟩), .pointer (some ⟨mb, 0, none⟩), .i t.i, .i t.word, .i 16] (enters_of Tryz.func95 (by kernel_rfl) rfl) ?_
   refine (hsw _ (H6.out.below (Below.refl _ _).drew)).mono ?_
   rintro e w7 ⟨rfl, lo7, ro7, h7, r7⟩
   have e8 : w7.cell? ⟨tb, 8, none⟩ = some (.i t.i):=(h7.cell 8).trans (by show some (Value.int .i64 (t'.i : Int)) = _; rw [HI.out])
   refine ⟨_, rfl, e8, fun hHeld => ?_⟩
   try simp only [Act.put, sA, sZ, sS]
   have q7:=(Q6.out.below (Below.refl _ _).drew).trans r7
   have hs7 : RowAt w7 sb s.cells 30:=(r7.2.2.block sb (RowAt.lt (w:=w6.drew) hs6) (fun e => e.elim (fun e => e.elim hfar.1 fun e => e.elim hfar.2.2.2.1 hfar.2.2.2.2) fun e => e.elim hfar.2.1 hfar.2.2.1)).trans hs6
   refine tKg 11 39 hHeld ?_
   try simp only [Act.put, sA, sZ, sS]
   refine tKg 12 27 hHeld ?_
   try simp only [Act.put, sA, sZ, sS]
   refine wpAnyH_done (by kernel_rfl) ?_ _
   have g6 : w7.cell? ⟨tb, 6, none⟩ = some (.i t'.st):=h7.cell 6
   have gf6:=h7.frozen 6
   have s0 : w7.cell? ⟨sb, 0, none⟩ = some (.i s.state):=RowAt.cell hs7 0
   have hs4 : (s.state == 3) = false:=by simpa using hs3
   have H7:=Lib.hid h7
   have Q7:=Lib.hid q7
   clear h7 q7 r7 hsw d8 d9 e8 hHeld hs6 hs7 hfar hml
   go_wp2_with fail
   first | go_end0 | refine bodyPost_ret (results_none rfl _ _ _) rfl ?_
   exact ⟨rfl, lo7, ro7, H7.out.put 6 (.i 13) { t' with st:=13 } rfl rfl rfl rfl, Q7.out.set 6 _⟩
  ·have : True:=trivial
   rw [if_pos rfl]
   rw [if_neg hs3]
   dsimp only
   go_enter Tryz.func72, Tryz.ntmps72
   go_wp2_with fail
   refine haf.mono ?_
   rintro e w5 ⟨rfl, hb5⟩
   clear haf
   dsimp only
   go_step
   refine gl (.tuple #[s.val, .i s.word, .bool true]) ?_
   refine gl s.val ?_
   refine gl (.i s.word) ?_
   refine gl (.bool true) ?_
   refine gbox (ob:=.cells zero9 30) (Z:=zero9) (cs:=s.cells) (t:=30) 30 (.tmp 6) (.tmp 16) rfl ?_
   refine gl (.i s.word) ?_
   refine gl (.bool true) ?_
   try simp only [Act.put, sA, sZ, sS]
   rw [setRow_new]
   have hb6 : Below W.heap.size W (w5.alloc (.cells s.cells 30)):=hb5.alloc hb5.size _
   have hs6 : RowAt (w5.alloc (.cells s.cells 30)) w5.heap.size s.cells 30:=heap_alloc_new w5 _
   have hsb:=hb5.size
   generalize (w5.alloc (.cells s.cells 30)) = w6 at *
   generalize w5.heap.size = sb at *
   have h6:=H.out.below hb6
   have q6:=(TR.refl (W:=W) (tb:=tb) (mb:=mb) (wb:=wb) (lo:=lo) (ro:=ro)).below hb6
   have d8 : w6.cell? ⟨tb, 8, none⟩ = some (.i t.i):=h6.cell 8
   have d9 : w6.cell? ⟨tb, 9, none⟩ = some (.i t.word):=h6.cell 9
   have H6:=Lib.hid h6
   have Q6:=Lib.hid q6
   have hml:=h6.mem.lt
   have hfar : sb ≠ tb ∧ sb ≠ mb ∧ sb ≠ wb ∧ lo ≠ some sb ∧ ro ≠ some sb:=by
    obtain ⟨a1, a2, a3, a4⟩:=H.out.newApart hsb
    exact ⟨a2, a1.m, a1.w, a4, a3⟩
   clear h6 q6 hb5 hb6 c8 c9
   go_upto_region 4 with (fail)
   refine wp_region_held_drew (S:=fun w' => w'.cell? ⟨tb, 8, none⟩ = some (.i t.i)) (by kernel_rfl) (by exact d8) (fun hHeld => ?_)
   refine tKg 0 28 hHeld ?_
   try simp only [Act.put, sA, sZ, sS]
   refine tKg 1 29 hHeld ?_
   try simp only [Act.put, sA, sZ, sS]
   refine tKg 2 30 hHeld ?_
   try simp only [Act.put, sA, sZ, sS]
   refine tKg 3 31 hHeld ?_
   try simp only [Act.put, sA, sZ, sS]
   refine tKg 4 32 hHeld ?_
   try simp only [Act.put, sA, sZ, sS]
   refine tKg 5 33 hHeld ?_
   try simp only [Act.put, sA, sZ, sS]
   refine tKg 6 34 hHeld ?_
   try simp only [Act.put, sA, sZ, sS]
   refine tKg 7 35 hHeld ?_
   try simp only [Act.put, sA, sZ, sS]
   refine tKg 8 36 hHeld ?_
   try simp only [Act.put, sA, sZ, sS]
   refine rK 9 37 (.i t.word) hHeld ?_ (by go_simp; try with_reducible rfl)
   try simp only [Act.put, sA, sZ, sS]
   refine rKc (i:=10) 95 #[.tmp 28, .tmp 29, .tmp 33, .tmp 37, .const (.i 16)] #[34, 32, 3, 3, 3] (some 38) none #[.pointer (some ⟨tb, 0, none⟩), .pointer (some ⟨mb, 0, none⟩), .i t.i, .i t.word, .i 16] (enters_of Tryz.func95 (by kernel_rfl) rfl) ?_
   refine (hsw _ (H6.out.below (Below.refl _ _).drew)).mono ?_
   rintro e w7 ⟨rfl, lo7, ro7, h7, r7⟩
   have e8 : w7.cell? ⟨tb, 8, none⟩ = some (.i t.i):=(h7.cell 8).trans (by show some (Value.int .i64 (t'.i : Int)) = _; rw [HI.out])
   refine ⟨_, rfl, e8, fun hHeld => ?_⟩
   try simp only [Act.put, sA, sZ, sS]
   have q7:=(Q6.out.below (Below.refl _ _).drew).trans r7
   have hs7 : RowAt w7 sb s.cells 30:=(r7.2.2.block sb (RowAt.lt (w:=w6.drew) hs6) (fun e => e.elim (fun e => e.elim hfar.1 fun e => e.elim hfar.2.2.2.1 hfar.2.2.2.2) fun e => e.elim hfar.2.1 hfar.2.2.1)).trans hs6
   refine tKg 11 39 hHeld ?_
   try simp only [Act.put, sA, sZ, sS]
   refine tKg 12 27 hHeld ?_
   try simp only [Act.put, sA, sZ, sS]
   refine wpAnyH_done (by kernel_rfl) ?_ _
   have g6 : w7.cell? ⟨tb, 6, none⟩ = some (.i t'.st):=h7.cell 6
   have gf6:=h7.frozen 6
   have s0 : w7.cell? ⟨sb, 0, none⟩ = some (.i s.state):=RowAt.cell hs7 0
   have hs4 : (s.state == 3) = false:=by simpa using hs3
   have H7:=Lib.hid h7
   have Q7:=Lib.hid q7
   clear h7 q7 r7 hsw d8 d9 e8 hHeld hs6 hs7 hfar hml
   go_wp2_with fail
   first | go_end0 | refine bodyPost_ret (results_none rfl _ _ _) rfl ?_
   exact ⟨rfl, lo7, ro7, H7.out.put 6 (.i 9) { t' with st:=9 } rfl rfl rfl rfl, Q7.out.set 6 _⟩
end Go.Proofs.YtefpoidnklflnaaGreatDoor.Cl
