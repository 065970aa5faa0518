/- Part 14 of the walks and plain laws that the last text joins. -/
import Derived.Test.YteadpgiffpfmnaaGreatDoorQ12
set_option maxRecDepth 100000
set_option maxHeartbeats 16000000
set_option linter.unusedVariables false
set_option linter.unusedSimpArgs false
namespace Go.Proofs.YteadpgiffpfmnaaGreatDoor.Cl
open Go.RowKit Hp Slot RowL Life
theorem rafter_any (W : World) (word : Int) (d : Nat) (more : Int) (hd : DoneT d) (hL : Laid W) :
  Calls Tryz.prog 128 #[.i word, .i d, .i more] W fun e W' =>
   e = .returned (.tuple #[.i (nxW (nx word d 0 more)), .bool (nx word d 0 more).isSome]) ∧ Below W.heap.size W W':=by
 have hdc:=decode_val W word hL
 cases hdw : dec word with
 | none =>
  rw [hdw] at hdc
  rw [nx_none hdw]
  simp only [Option.getD_none, Option.isSome_none, nxW] at hdc ⊢
  go_enter Tryz.func128, Tryz.ntmps128
  go_wp2_with fail
  refine hdc.mono ?_
  rintro e w5 ⟨rfl, hb5⟩
  clear hdc
  dsimp only
  go_step
  refine gl (.tuple #[S.zero.val, .bool false]) ?_
  refine gl S.zero.val ?_
  refine gl (.bool false) ?_
  refine gbox (ob:=.cells zero9 41) (Z:=zero9) (cs:=S.zero.cells) (t:=41) 41 (.tmp 8) (.tmp 13) rfl ?_
  refine gl (.bool false) ?_
  try simp only [Act.put, sA, sZ, sS]
  rw [setRow_new]
  have hB : Below W.heap.size W (w5.alloc (.cells S.zero.cells 41)):=hb5.alloc hb5.size _
  generalize (w5.alloc (.cells S.zero.cells 41)) = wa at *
  go_wp2_with fail
  go_ret2
  exact ⟨rfl, hB⟩
 | some s =>
  rw [hdw] at hdc
  rw [nx_some hdw]
  simp only [Option.getD_some, Option.isSome_some] at hdc
  have hsr:=(word_dec hdw).1
  have hnr:=fun s' (h : Tk.nextX s d 0 more = some s') => Tk.next_right hd.x h
  have hnx:=fun w' hL => nextx_any w' s d 0 more hd hsr hL
  generalize Tk.nextX s d 0 more = N at *
  go_enter Tryz.func128, Tryz.ntmps128
  go_wp2_with fail
  refine hdc.mono ?_
  rintro e w5 ⟨rfl, hb5⟩
  clear hdc
  dsimp only
  go_step
  refine gl (.tuple #[s.val, .bool true]) ?_
  refine gl s.val ?_
  refine gl (.bool true) ?_
  refine gbox (ob:=.cells zero9 41) (Z:=zero9) (cs:=s.cells) (t:=41) 41 (.tmp 8) (.tmp 13) rfl ?_
  refine gl (.bool true) ?_
  try simp only [Act.put, sA, sZ, sS]
  rw [setRow_new]
  have hB : Below W.heap.size W (w5.alloc (.cells s.cells 41)):=hb5.alloc hb5.size _
  have hs : RowAt (w5.alloc (.cells s.cells 41)) w5.heap.size s.cells 41:=heap_alloc_new w5 _
  have hsb:=hb5.size
  generalize (w5.alloc (.cells s.cells 41)) = wa at *
  generalize w5.heap.size = sb at *
  have hLs : ∀ w', Below W.heap.size W w' → Laid w':=fun w' hb => hL.stable (hb.block 0 (hL.lt (by decide)))
  have hnx:=hnx wa (hLs _ hB)
  clear hb5 hL
  go_upto_region 4 with (fail)
  refine wp_region_lit ?_
  refine grow hs 41 (.tmp 8) Tryz.underlying41 ?_
  refine gl (.i d) ?_
  refine gl (.i more) ?_
  try simp only [Act.put, sA, sZ, sS]
  refine gcall 121 #[.tmp 18, .tmp 19, .const (.i 0), .tmp 20] #[41, 3, 3, 3] #[s.val, .i d, .i 0, .i more] (enters_of Tryz.func121 (by kernel_rfl) rfl) ?_
  refine hnx.mono ?_
  rintro e w6 ⟨rfl, hb6⟩
  refine ⟨_, rfl, ?_⟩
  have hB6:=hB.trans (hb6.mono hB.size)
  have hs6 : RowAt w6 sb s.cells 41:=RowAt.below (w:=wa) hs hb6
  clear hs hnx hb6 hB
  dsimp only
  refine gl (.tuple #[(N.getD S.zero).val, .bool N.isSome]) ?_
  refine gl (N.getD S.zero).val ?_
  refine gl (.bool N.isSome) ?_
  try simp only [Act.put, sA, sZ, sS]
  refine gSt hs6 (N.getD S.zero).cells 41 (.tmp 8) (.tmp 22) ?_
  refine gl (.bool N.isSome) ?_
  try simp only [Act.put, sA, sZ, sS]
  have hs7 : RowAt (w6.setRow sb (N.getD S.zero).cells) sb (N.getD S.zero).cells 41:=hs6.set _
  have hB7 : Below W.heap.size W (w6.setRow sb (N.getD S.zero).cells):=bSetRow hB6 (by omega) _
  generalize (w6.setRow sb (N.getD S.zero).cells) = wb at *
  clear hs6 hB6
  cases N with
  | none =>
   simp only [Option.getD_none, Option.isSome_none, nxW] at *
   go_wp2_with fail
   go_ret2
   exact ⟨rfl, hB7⟩
  | some n =>
   simp only [Option.getD_some, Option.isSome_some, nxW] at *
   have hen:=encode_word wb n (hLs _ hB7) (hnr n rfl)
   go_upto_region 7 with (fail)
   refine wp_region_lit ?_
   refine grow hs7 41 (.tmp 8) Tryz.underlying41 ?_
   try simp only [Act.put, sA, sZ, sS]
   refine gcall 119 #[.tmp 26] #[41] #[n.val] (enters_of Tryz.func119 (by kernel_rfl) rfl) ?_
   refine hen.mono ?_
   rintro e w8 ⟨rfl, hb8⟩
   refine ⟨_, rfl, ?_⟩
   have hB8:=hB7.trans (hb8.mono hB7.size)
   clear hs7 hB7 hen hb8
   dsimp only
   refine gl (.i n.word) ?_
   refine gl (.bool true) ?_
   refine gl (.i n.word) ?_
   refine gl (.bool true) ?_
   try simp only [Act.put, sA, sZ, sS]
   go_wp2_with fail
   go_ret2
   exact ⟨rfl, hB8⟩
theorem rstep_0 {r : Tk.Rt} {ws : List Int} (hst : r.st = 0) : r.step ws = (match nx r.word 11 0 4095 with
  | some s => if Tk.rd ws r.cell = r.word then (false, { r with word:=s.word, swapped:=true, st:=1 }, ws.set r.cell s.word, 1) else (true, r.end', ws, 1)
  | none => (true, r.end', ws, 0)):=by
 have e : Tk.nextW r.word 11 0 4095 = (nx r.word 11 0 4095).map S.word:=by unfold Tk.nextW nx; cases dec r.word <;> rfl
 unfold Tk.Rt.step
 rw [hst]
 simp only [e]
 cases nx r.word 11 0 4095 <;> rfl
theorem rstep_2 {r : Tk.Rt} {ws : List Int} (hst : r.st = 2) : r.step ws = (match nx r.word 17 0 r.epoch with
  | some s => (false, { r with st:=3 }, (Tk.cas ws r.cell r.word s.word).2, 1)
  | none => (false, { r with st:=3 }, ws, 0)):=by
 have e : Tk.nextW r.word 17 0 r.epoch = (nx r.word 17 0 r.epoch).map S.word:=by unfold Tk.nextW nx; cases dec r.word <;> rfl
 unfold Tk.Rt.step
 rw [hst]
 simp only [e]
 cases nx r.word 17 0 r.epoch <;> rfl
theorem rswap_any {W : World} {rb mb wb : Nat} {r : Tk.Rt} {ws : List Int} {tc : Int} (h : RtAt W rb r) (hm : CAt W mb wb ws tc) (ha : Apart rb mb wb) (ht : 0 ≤ tc ∧ tc ≤ 4000000000000000000) (hL : Laid W) (hc : r.cell < ws.length) (hst : r.st = 0) :
  Calls Tryz.prog 117 #[.pointer (some ⟨rb, 0, none⟩), .pointer (some ⟨mb, 0, none⟩)] W (RPost W rb mb wb tc (r.step ws)):=by
 have haf:=rafter_any W r.word 11 4095 (by simp [DoneT]) hL
 rw [rstep_0 hst]
 have hrd:=rd_some hc
 have c0 : W.cell? ⟨rb, 0, none⟩ = some (.i r.cell):=h.cell 0
 have c1 : W.cell? ⟨rb, 1, none⟩ = some (.i r.word):=h.cell 1
 have H:=Lib.hid h
 have M:=Lib.hid hm
 have cq : ∀ w x, CAt w mb wb ws tc → Tk.rd ws r.cell = r.word → Calls Tryz.prog 105 #[.pointer (some ⟨mb, 0, none⟩), .i r.cell, .i r.word, .i x] w (CPost w mb wb (.bool true) (ws.set r.cell x) (tc + 1)):=fun w x hm e => cas_eq hm ht r.cell r.word (by rw [hrd, e]) x
 have cn : ∀ w x, CAt w mb wb ws tc → Tk.rd ws r.cell ≠ r.word → Calls Tryz.prog 105 #[.pointer (some ⟨mb, 0, none⟩), .i r.cell, .i r.word, .i x] w (CPost w mb wb (.bool false) ws (tc + 1)):=fun w x hm e => cas_ne hm ht r.cell _ hrd r.word x e
 clear h hm hst hrd hL
 generalize nx r.word 11 0 4095 = N at *
 cases N with
 | none =>
  simp only [Option.isSome_none, nxW] at haf
  dsimp only
  clear cq cn
  go_enter Tryz.func117, Tryz.ntmps117
  go_wp2_with fail
  refine haf.mono ?_
  rintro e w5 ⟨rfl, hb5⟩
  have h5:=H.out.below hb5
  have m5:=M.out.below hb5
  have q5:=Chg.ofBelow (F:=fun k => k = rb ∨ cfp mb wb k) hb5
  have d0 : w5.cell? ⟨rb, 0, none⟩ = some (.i r.cell):=h5.cell 0
  have d1 : w5.cell? ⟨rb, 1, none⟩ = some (.i r.word):=h5.cell 1
  clear haf hb5 c0 c1
  go_upto_region 2 with (fail)
  refine wp_region_held_drew (S:=fun w' => w'.cell? ⟨rb, 0, none⟩ = some (.i r.cell) ∧ w'.cell? ⟨rb, 1, none⟩ = some (.i r.word)) (by kernel_rfl) (by exact ⟨d0, d1⟩) (fun hHeld => ?_)
  refine tKg 0 15 hHeld ?_
  try simp only [Act.put, sA, sZ, sS]
  refine tKg 1 16 hHeld ?_
  try simp only [Act.put, sA, sZ, sS]
  refine tKg 2 17 hHeld ?_
  try simp only [Act.put, sA, sZ, sS]
  refine sKp 3 (some 18) hHeld ?_
  try simp only [Act.put, sA, sZ, sS]
  refine sKp 4 (some 19) hHeld ?_
  try simp only [Act.put, sA, sZ, sS]
  refine sKp 5 (some 20) hHeld ?_
  try simp only [Act.put, sA, sZ, sS]
  refine sKp 6 (some 21) hHeld ?_
  try simp only [Act.put, sA, sZ, sS]
  refine sKp 7 (some 22) hHeld ?_
  try simp only [Act.put, sA, sZ, sS]
  refine sKp 8 (some 23) hHeld ?_
  try simp only [Act.put, sA, sZ, sS]
  refine sKp 9 (some 24) hHeld ?_
  try simp only [Act.put, sA, sZ, sS]
  refine sKp 10 (some 25) hHeld ?_
  try simp only [Act.put, sA, sZ, sS]
  refine sKp 11 (some 26) hHeld ?_
  try simp only [Act.put, sA, sZ, sS]
  refine sKp 12 (some 27) hHeld ?_
  try simp only [Act.put, sA, sZ, sS]
  refine sKp 13 (some 28) hHeld ?_
  try simp only [Act.put, sA, sZ, sS]
  refine sKp 14 (some 29) hHeld ?_
  try simp only [Act.put, sA, sZ, sS]
  refine tKg 15 30 hHeld ?_
  try simp only [Act.put, sA, sZ, sS]
  refine wpAnyH_done (by kernel_rfl) ?_ _
  have h5:=h5.below (Below.refl _ _).drew
  have m5:=m5.below (Below.refl _ _).drew
  have q5:=q5.drew
  have hen:=rend_any (mb:=mb) h5
  have M5:=Lib.hid m5
  have C5:=Lib.hid q5
  clear h5 m5 q5
  go_wp2_with fail
  refine hen.mono ?_
  rintro e w9 ⟨rfl, hr9, hc9⟩
  have M9:=Lib.hid (M5.out.chg hc9 (fun e => ha.m e.symm) (fun e => ha.w e.symm))
  have R9:=Lib.hid hr9
  have C9:=Lib.hid (C5.out.trans hc9 (fun _ _ h => .inl h))
  clear hen hr9 hc9
  go_wp2_with fail
  go_ret
  exact ⟨rfl, R9.out, by simpa using M9.out, C9.out⟩
 | some s =>
  simp only [Option.isSome_some, nxW] at haf
  dsimp only
  by_cases hx : Tk.rd ws r.cell = r.word
  ·rw [if_pos hx]
   have hq:=fun w hm => cq w s.word hm hx
   clear cq cn hx
   go_enter Tryz.func117, Tryz.ntmps117
   go_wp2_with fail
   refine haf.mono ?_
   rintro e w5 ⟨rfl, hb5⟩
   have h5:=H.out.below hb5
   have hq5:=hq w5.drew ((M.out.below hb5).below (Below.refl _ _).drew)
   have h5d : ∀ {w}, Chg (cfp mb wb) w5.drew w → Chg (cfp mb wb) w5 w:=fun h => (Chg.ofBelow (Below.refl _ _).drew).trans h (fun _ _ e => e)
   have d0 : w5.cell? ⟨rb, 0, none⟩ = some (.i r.cell):=h5.cell 0
   have d1 : w5.cell? ⟨rb, 1, none⟩ = some (.i r.word):=h5.cell 1
   clear haf c0 c1 hq
   go_upto_region 2 with (fail)
   refine wp_region_held_drew (S:=fun w' => w'.cell? ⟨rb, 0, none⟩ = some (.i r.cell) ∧ w'.cell? ⟨rb, 1, none⟩ = some (.i r.word)) (by kernel_rfl) (by exact ⟨d0, d1⟩) (fun hHeld => ?_)
   refine tKg 0 15 hHeld ?_
   try simp only [Act.put, sA, sZ, sS]
   refine tKg 1 16 hHeld ?_
   try simp only [Act.put, sA, sZ, sS]
   refine tKg 2 17 hHeld ?_
   try simp only [Act.put, sA, sZ, sS]
   refine tKg 3 18 hHeld ?_
   try simp only [Act.put, sA, sZ, sS]
   refine tKg 4 19 hHeld ?_
   try simp only [Act.put, sA, sZ, sS]
   refine tKg 5 20 hHeld ?_
   try simp only [Act.put, sA, sZ, sS]
   refine tKg 6 21 hHeld ?_
   try simp only [Act.put, sA, sZ, sS]
   refine tKg 7 22 hHeld ?_
   try simp only [Act.put, sA, sZ, sS]
   refine tKg 8 23 hHeld ?_
   try simp only [Act.put, sA, sZ, sS]
   refine tKg 9 24 hHeld ?_
   try simp only [Act.put, sA, sZ, sS]
   refine tKg 10 25 hHeld ?_
   try simp only [Act.put, sA, sZ, sS]
   refine tKg 11 26 hHeld ?_
   try simp only [Act.put, sA, sZ, sS]
   refine tKg 12 27 hHeld ?_
   try simp only [Act.put, sA, sZ, sS]
   refine rKc (i:=13) 105 #[.tmp 18, .tmp 22, .tmp 26, .tmp 27] #[34, 3, 3, 3] (some 28) (some (2, false)) #[.pointer (some ⟨mb, 0, none⟩), .i r.cell, .i r.word, .i s.word] (enters_of Tryz.func105 (by kernel_rfl) rfl) ?_
   refine hq5.mono ?_
   rintro e w6 ⟨rfl, m6, k6⟩
   have h6:=h5.chg (h5d k6) (fun e => e.elim ha.m ha.w)
   have q6:=(Chg.ofBelow (F:=fun k => k = rb ∨ cfp mb wb k) hb5).trans (h5d k6) (fun _ _ h => .inr h)
   have e0 : w6.cell? ⟨rb, 0, none⟩ = some (.i r.cell):=h6.cell 0
   have e1 : w6.cell? ⟨rb, 1, none⟩ = some (.i r.word):=h6.cell 1
   refine ⟨_, rfl, ⟨e0, e1⟩, fun hHeld => ?_⟩
   try simp only [Act.put, sA, sZ, sS]
   refine tKg 14 29 hHeld ?_
   try simp only [Act.put, sA, sZ, sS]
   refine tKg 15 30 hHeld ?_
   try simp only [Act.put, sA, sZ, sS]
   refine wpAnyH_done (by kernel_rfl) ?_ _
   have e3 : w6.cell? ⟨rb, 3, none⟩ = some (rfun rb r.st):=h6.cell 3
   have e4 : w6.cell? ⟨rb, 4, none⟩ = some (.bool r.swapped):=h6.cell 4
   have ef1:=h6.frozen 1
   have ef3:=h6.frozen 3
   have ef4:=h6.frozen 4
   have R6:=Lib.hid h6
   have M6:=Lib.hid m6
   have C6:=Lib.hid q6
   clear h5 h6 m6 k6 q6 hb5 hq5 d0 d1
   go_wp2_with fail
   go_ret
   exact ⟨rfl, ((R6.out.setWord s.word).setSwapped true).setSt 1, ((M6.out.far rb 1 _ (fun e => ha.m e.symm) (fun e => ha.w e.symm)).far rb 4 _ (fun e => ha.m e.symm) (fun e => ha.w e.symm)).far rb 3 _ (fun e => ha.m e.symm) (fun e => ha.w e.symm), ((C6.out.setCell _ _ (fun _ => .inl rfl)).setCell _ _ (fun _ => .inl rfl)).setCell ⟨rb, 3, none⟩ _ (fun _ => .inl rfl)⟩
  ·rw [if_neg hx]
   have hq:=fun w hm => cn w s.word hm hx
   clear cq cn hx
   go_enter Tryz.func117, Tryz.ntmps117
   go_wp2_with fail
   refine haf.mono ?_
   rintro e w5 ⟨rfl, hb5⟩
   have h5:=H.out.below hb5
   have hq5:=hq w5.drew ((M.out.below hb5).below (Below.refl _ _).drew)
   have h5d : ∀ {w}, Chg (cfp mb wb) w5.drew w → Chg (cfp mb wb) w5 w:=fun h => (Chg.ofBelow (Below.refl _ _).drew).trans h (fun _ _ e => e)
   have d0 : w5.cell? ⟨rb, 0, none⟩ = some (.i r.cell):=h5.cell 0
   have d1 : w5.cell? ⟨rb, 1, none⟩ = some (.i r.word):=h5.cell 1
   clear haf c0 c1 hq
   go_upto_region 2 with (fail)
   refine wp_region_held_drew (S:=fun w' => w'.cell? ⟨rb, 0, none⟩ = some (.i r.cell) ∧ w'.cell? ⟨rb, 1, none⟩ = some (.i r.word)) (by kernel_rfl) (by exact ⟨d0, d1⟩) (fun hHeld => ?_)
   refine tKg 0 15 hHeld ?_
   try simp only [Act.put, sA, sZ, sS]
   refine tKg 1 16 hHeld ?_
   try simp only [Act.put, sA, sZ, sS]
   refine tKg 2 17 hHeld ?_
   try simp only [Act.put, sA, sZ, sS]
   refine tKg 3 18 hHeld ?_
   try simp only [Act.put, sA, sZ, sS]
   refine tKg 4 19 hHeld ?_
   try simp only [Act.put, sA, sZ, sS]
   refine tKg 5 20 hHeld ?_
   try simp only [Act.put, sA, sZ, sS]
   refine tKg 6 21 hHeld ?_
   try simp only [Act.put, sA, sZ, sS]
   refine tKg 7 22 hHeld ?_
   try simp only [Act.put, sA, sZ, sS]
   refine tKg 8 23 hHeld ?_
   try simp only [Act.put, sA, sZ, sS]
   refine tKg 9 24 hHeld ?_
   try simp only [Act.put, sA, sZ, sS]
   refine tKg 10 25 hHeld ?_
   try simp only [Act.put, sA, sZ, sS]
   refine tKg 11 26 hHeld ?_
   try simp only [Act.put, sA, sZ, sS]
   refine tKg 12 27 hHeld ?_
   try simp only [Act.put, sA, sZ, sS]
   refine rKc (i:=13) 105 #[.tmp 18, .tmp 22, .tmp 26, .tmp 27] #[34, 3, 3, 3] (some 28) (some (2, false)) #[.pointer (some ⟨mb, 0, none⟩), .i r.cell, .i r.word, .i s.word] (enters_of Tryz.func105 (by kernel_rfl) rfl) ?_
   refine hq5.mono ?_
   rintro e w6 ⟨rfl, m6, k6⟩
   have h6:=h5.chg (h5d k6) (fun e => e.elim ha.m ha.w)
   have q6:=(Chg.ofBelow (F:=fun k => k = rb ∨ cfp mb wb k) hb5).trans (h5d k6) (fun _ _ h => .inr h)
   have e0 : w6.cell? ⟨rb, 0, none⟩ = some (.i r.cell):=h6.cell 0
   have e1 : w6.cell? ⟨rb, 1, none⟩ = some (.i r.word):=h6.cell 1
   refine ⟨_, rfl, ⟨e0, e1⟩, fun hHeld => ?_⟩
   try simp only [Act.put, sA, sZ, sS]
   refine tKg 14 29 hHeld ?_
   try simp only [Act.put, sA, sZ, sS]
   refine tKg 15 30 hHeld ?_
   try simp only [Act.put, sA, sZ, sS]
   refine wpAnyH_done (by kernel_rfl) ?_ _
   clear h5 k6 hb5 hq5 d0 d1 e0 e1
   have hen:=rend_any (mb:=mb) h6
   have M5:=Lib.hid m6
   have C5:=Lib.hid q6
   clear h6 m6 q6
   go_wp2_with fail
   refine hen.mono ?_
   rintro e w9 ⟨rfl, hr9, hc9⟩
   have M9:=Lib.hid (M5.out.chg hc9 (fun e => ha.m e.symm) (fun e => ha.w e.symm))
   have R9:=Lib.hid hr9
   have C9:=Lib.hid (C5.out.trans hc9 (fun _ _ h => .inl h))
   clear hen hr9 hc9
   go_wp2_with fail
   go_ret
   exact ⟨rfl, R9.out, by simpa using M9.out, C9.out⟩
theorem rage_any {W : World} {rb mb wb : Nat} {r : Tk.Rt} {ws : List Int} {tc : Int} (h : RtAt W rb r) (hm : CAt W mb wb ws tc) (ha : Apart rb mb wb) (ht : 0 ≤ tc ∧ tc ≤ 4000000000000000000) (hL : Laid W) (hc : r.cell < ws.length) (hst : r.st = 2) :
  Calls Tryz.prog 144 #[.pointer (some ⟨rb, 0, none⟩), .pointer (some ⟨mb, 0, none⟩)] W (RPost W rb mb wb tc (r.step ws)):=by
 have haf:=rafter_any W.drew r.word 17 r.epoch (by simp [DoneT]) (hL.stable rfl)
 rw [rstep_2 hst]
 have hrd:=rd_some hc
 have c0 : W.cell? ⟨rb, 0, none⟩ = some (.i r.cell):=h.cell 0
 have c1 : W.cell? ⟨rb, 1, none⟩ = some (.i r.word):=h.cell 1
 have c2 : W.cell? ⟨rb, 2, none⟩ = some (.i r.epoch):=h.cell 2
 have c3 : W.cell? ⟨rb, 3, none⟩ = some (rfun rb r.st):=h.cell 3
 have cf3:=h.frozen 3
 have H:=Lib.hid h
 have M:=Lib.hid hm
 have cq : ∀ w x, CAt w mb wb ws tc → ∃ b, Calls Tryz.prog 105 #[.pointer (some ⟨mb, 0, none⟩), .i r.cell, .i r.word, .i x] w (CPost w mb wb (.bool b) (Tk.cas ws r.cell r.word x).2 (tc + 1)):=by
  intro w x hm
  unfold Tk.cas
  by_cases e : Tk.rd ws r.cell = r.word
  ·rw [if_pos e]
   exact ⟨true, cas_eq hm ht r.cell r.word (by rw [hrd, e]) x⟩
  ·rw [if_neg e]
   exact ⟨false, cas_ne hm ht r.cell _ hrd r.word x e⟩
 clear h hm hst hrd hL
 generalize nx r.word 17 0 r.epoch = N at *
 cases N with
 | none =>
  simp only [Option.isSome_none, nxW] at haf
  dsimp only
  clear cq
  go_enter Tryz.func144, Tryz.ntmps144
  go_upto_region 1 with (fail)
  refine wp_region_held_drew (S:=fun w' => w'.cell? ⟨rb, 1, none⟩ = some (.i r.word) ∧ w'.cell? ⟨rb, 2, none⟩ = some (.i r.epoch)) (by kernel_rfl) (by exact ⟨c1, c2⟩) (fun hHeld => ?_)
  refine tKg 0 8 hHeld ?_
  try simp only [Act.put, sA, sZ, sS]
  refine tKg 1 9 hHeld ?_
  try simp only [Act.put, sA, sZ, sS]
  refine tKg 2 10 hHeld ?_
  try simp only [Act.put, sA, sZ, sS]
  refine tKg 3 11 hHeld ?_
  try simp only [Act.put, sA, sZ, sS]
  refine tKg 4 12 hHeld ?_
  try simp only [Act.put, sA, sZ, sS]
  refine tKg 5 13 hHeld ?_
  try simp only [Act.put, sA, sZ, sS]
  refine tKg 6 14 hHeld ?_
  try simp only [Act.put, sA, sZ, sS]
  refine tKg 7 15 hHeld ?_
  try simp only [Act.put, sA, sZ, sS]
  refine rKc (i:=8) 128 #[.tmp 11, .const (.i 17), .tmp 15] #[3, 3, 3] (some 16) none #[.i r.word, .i 17, .i r.epoch] (enters_of Tryz.func128 (by kernel_rfl) rfl) ?_
  refine haf.mono ?_
  rintro e w5 ⟨rfl, hb5⟩
  have hb5:=(Below.refl W.heap.size W).drew.trans hb5
  have h5:=H.out.below hb5
  have d1 : w5.cell? ⟨rb, 1, none⟩ = some (.i r.word):=h5.cell 1
  have d2 : w5.cell? ⟨rb, 2, none⟩ = some (.i r.epoch):=h5.cell 2
  refine ⟨_, rfl, ⟨d1, d2⟩, fun hHeld => ?_⟩
  try simp only [Act.put, sA, sZ, sS]
  refine tKg 9 7 hHeld ?_
  try simp only [Act.put, sA, sZ, sS]
  refine tKg 10 17 hHeld ?_
  try simp only [Act.put, sA, sZ, sS]
  refine tKg 11 18 hHeld ?_
  try simp only [Act.put, sA, sZ, sS]
  refine tKg 12 5 hHeld ?_
  try simp only [Act.put, sA, sZ, sS]
  refine tKg 13 6 hHeld ?_
  try simp only [Act.put, sA, sZ, sS]
  refine wpAnyH_done (by kernel_rfl) ?_ _
  have R5:=Lib.hid h5
  have M5:=Lib.hid (M.out.below hb5)
  have C5:=Lib.hid (Chg.ofBelow (F:=fun k => k = rb ∨ cfp mb wb k) hb5)
  have d3 : w5.cell? ⟨rb, 3, none⟩ = some (rfun rb r.st):=h5.cell 3
  have df3:=h5.frozen 3
  clear haf hb5 h5 c0 c1 c2 c3 cf3 d1 d2
  go_wp2_with fail
  go_ret
  exact ⟨rfl, R5.out.setSt 3, by simpa using M5.out.far rb 3 _ (fun e => ha.m e.symm) (fun e => ha.w e.symm), C5.out.setCell ⟨rb, 3, none⟩ _ (fun _ => .inl rfl)⟩
 | some s =>
  simp only [Option.isSome_some, nxW] at haf
  dsimp only
  go_enter Tryz.func144, Tryz.ntmps144
  go_upto_region 1 with (fail)
  refine wp_region_held_drew (S:=fun w' => w'.cell? ⟨rb, 1, none⟩ = some (.i r.word) ∧ w'.cell? ⟨rb, 2, none⟩ = some (.i r.epoch)) (by kernel_rfl) (by exact ⟨c1, c2⟩) (fun hHeld => ?_)
  refine tKg 0 8 hHeld ?_
  try simp only [Act.put, sA, sZ, sS]
  refine tKg 1 9 hHeld ?_
  try simp only [Act.put, sA, sZ, sS]
  refine tKg 2 10 hHeld ?_
  try simp only [Act.put, sA, sZ, sS]
  refine tKg 3 11 hHeld ?_
  try simp only [Act.put, sA, sZ, sS]
  refine tKg 4 12 hHeld ?_
  try simp only [Act.put, sA, sZ, sS]
  refine tKg 5 13 hHeld ?_
  try simp only [Act.put, sA, sZ, sS]
  refine tKg 6 14 hHeld ?_
  try simp only [Act.put, sA, sZ, sS]
  refine tKg 7 15 hHeld ?_
  try simp only [Act.put, sA, sZ, sS]
  refine rKc (i:=8) 128 #[.tmp 11, .const (.i 17), .tmp 15] #[3, 3, 3] (some 16) none #[.i r.word, .i 17, .i r.epoch] (enters_of Tryz.func128 (by kernel_rfl) rfl) ?_
  refine haf.mono ?_
  rintro e w5 ⟨rfl, hb5⟩
  have hb5:=(Below.refl W.heap.size W).drew.trans hb5
  have h5:=H.out.below hb5
  have d1 : w5.cell? ⟨rb, 1, none⟩ = some (.i r.word):=h5.cell 1
  have d2 : w5.cell? ⟨rb, 2, none⟩ = some (.i r.epoch):=h5.cell 2
  refine ⟨_, rfl, ⟨d1, d2⟩, fun hHeld => ?_⟩
  try simp only [Act.put, sA, sZ, sS]
  refine tKg 9 7 hHeld ?_
  try simp only [Act.put, sA, sZ, sS]
  refine tKg 10 17 hHeld ?_
  try simp only [Act.put, sA, sZ, sS]
  refine tKg 11 18 hHeld ?_
  try simp only [Act.put, sA, sZ, sS]
  refine tKg 12 5 hHeld ?_
  try simp only [Act.put, sA, sZ, sS]
  refine tKg 13 6 hHeld ?_
  try simp only [Act.put, sA, sZ, sS]
  refine wpAnyH_done (by kernel_rfl) ?_ _
  obtain ⟨b, hq5⟩:=cq w5.drew s.word ((M.out.below hb5).below (Below.refl _ _).drew)
  have d0 : w5.cell? ⟨rb, 0, none⟩ = some (.i r.cell):=h5.cell 0
  have h5d : ∀ {w}, Chg (cfp mb wb) w5.drew w → Chg (cfp mb wb) w5 w:=fun h => (Chg.ofBelow (Below.refl _ _).drew).trans h (fun _ _ e => e)
  clear haf c0 c1 c2 c3 cf3 cq d2
  go_upto_region 3 with (fail)
  refine wp_region_held_drew (S:=fun w' => w'.cell? ⟨rb, 0, none⟩ = some (.i r.cell) ∧ w'.cell? ⟨rb, 1, none⟩ = some (.i r.word)) (by kernel_rfl) (by exact ⟨d0, d1⟩) (fun hHeld => ?_)
  refine tKg 0 20 hHeld ?_
  try simp only [Act.put, sA, sZ, sS]
  refine tKg 1 21 hHeld ?_
  try simp only [Act.put, sA, sZ, sS]
  refine tKg 2 22 hHeld ?_
  try simp only [Act.put, sA, sZ, sS]
  refine tKg 3 23 hHeld ?_
  try simp only [Act.put, sA, sZ, sS]
  refine tKg 4 24 hHeld ?_
  try simp only [Act.put, sA, sZ, sS]
  refine tKg 5 25 hHeld ?_
  try simp only [Act.put, sA, sZ, sS]
  refine tKg 6 26 hHeld ?_
  try simp only [Act.put, sA, sZ, sS]
  refine tKg 7 27 hHeld ?_
  try simp only [Act.put, sA, sZ, sS]
  refine tKg 8 28 hHeld ?_
  try simp only [Act.put, sA, sZ, sS]
  refine tKg 9 29 hHeld ?_
  try simp only [Act.put, sA, sZ, sS]
  refine rKc (i:=10) 105 #[.tmp 20, .tmp 24, .tmp 28, .tmp 29] #[34, 3, 3, 3] (some 30) none #[.pointer (some ⟨mb, 0, none⟩), .i r.cell, .i r.word, .i s.word] (enters_of Tryz.func105 (by kernel_rfl) rfl) ?_
  refine hq5.mono ?_
  rintro e w6 ⟨rfl, m6, k6⟩
  have h6:=h5.chg (h5d k6) (fun e => e.elim ha.m ha.w)
  have e0 : w6.cell? ⟨rb, 0, none⟩ = some (.i r.cell):=h6.cell 0
  have e1 : w6.cell? ⟨rb, 1, none⟩ = some (.i r.word):=h6.cell 1
  refine ⟨_, rfl, ⟨e0, e1⟩, fun hHeld => ?_⟩
  try simp only [Act.put, sA, sZ, sS]
  refine wpAnyH_done (by kernel_rfl) ?_ _
  have R6:=Lib.hid h6
  have M6:=Lib.hid m6
  have C6:=Lib.hid ((Chg.ofBelow (F:=fun k => k = rb ∨ cfp mb wb k) hb5).trans (h5d k6) (fun _ _ h => .inr h))
  have e3 : w6.cell? ⟨rb, 3, none⟩ = some (rfun rb r.st):=h6.cell 3
  have ef3:=h6.frozen 3
  clear h5 h6 m6 k6 hb5 hq5 d0 d1 e0 e1
  go_wp2_with fail
  go_ret
  exact ⟨rfl, R6.out.setSt 3, M6.out.far rb 3 _ (fun e => ha.m e.symm) (fun e => ha.w e.symm), C6.out.setCell ⟨rb, 3, none⟩ _ (fun _ => .inl rfl)⟩
theorem rstep_any {W : World} {rb mb wb : Nat} {r : Tk.Rt} {ws : List Int} {tc : Int} (h : RtAt W rb r) (hm : CAt W mb wb ws tc) (ha : Apart rb mb wb) (ht : 0 ≤ tc ∧ tc ≤ 4000000000000000000) (hL : Laid W) (hc : r.cell < ws.length) (hr : r.st ≤ 4) (hl : 3 ≤ ws.length) :
  Calls Tryz.prog 96 #[.pointer (some ⟨rb, 0, none⟩), .pointer (some ⟨mb, 0, none⟩)] W (RPost W rb mb wb tc (r.step ws)):=by
 have h5 : r.st = 0 ∨ r.st = 1 ∨ r.st = 2 ∨ r.st = 3 ∨ r.st = 4:=by omega
 rcases h5 with q | q | q | q | q
 ·exact rstep_swap h q (rswap_any h hm ha ht hL hc q)
 ·exact rstep_look h q (rlook_any h hm ha ht hl q)
 ·exact rstep_age h q (rage_any h hm ha ht hL hc q)
 ·exact rstep_goOn h q (rgoon_any h hm ha ht hl q)
 ·refine rstep_end h q ((rend_any h).mono ?_)
  rintro e w' ⟨rfl, hr', hc'⟩
  have hs : r.step ws = (true, r.end', ws, 0):=by simp [Tk.Rt.step, q]
  rw [hs]
  exact ⟨rfl, hr', by simpa using hm.chg hc' (fun e => ha.m e.symm) (fun e => ha.w e.symm), hc'.mono (fun _ _ e => .inl e)⟩
end Go.Proofs.YteadpgiffpfmnaaGreatDoor.Cl
