/- Part 15 of the walks and plain laws that the last text joins. -/
import Derived.Test.YtefpoidnklflnaaGreatDoorP12
import Derived.Test.YtefpoidnklflnaaGreatDoorP13
import Derived.Test.YtefpoidnklflnaaGreatDoorP14
import Derived.Deep.CutRange
set_option maxRecDepth 100000
set_option maxHeartbeats 16000000
set_option linter.unusedVariables false
set_option linter.unusedSimpArgs false
namespace Go.Proofs.YtefpoidnklflnaaGreatDoor.Cl
open Go.RowKit Hp Slot RowL Life
theorem seize_dec {t : Tk.Tk} {d : Nat} {ws : List Int} (h : (t.seize d ws).1 = true) : ∃ s, dec t.fd.word = some s:=by
 cases hd : dec t.fd.word with
 | some s => exact ⟨s, rfl⟩
 | none =>
  have e : (t.swap t.fd.at' t.fd.word d ws).1 = false:=by unfold Tk.Tk.swap; rw [hd]; rfl
  unfold Tk.Tk.seize at h
  simp [e] at h
theorem m_anySwap {W : World} {tb mb wb : Nat} {lo ro : Option Nat} {t : Tk.Tk} {ws : List Int} {tc : Int} (h : TkAt W tb mb wb lo ro t ws tc) (hok : Tk.TkOk t ws) (ht : 0 ≤ tc ∧ tc ≤ 4000000000000000000) (hk : t.st = 4) (good : Bool) : Calls Tryz.prog 62 #[.pointer (some ⟨tb, 0, none⟩), .pointer (some ⟨mb, 0, none⟩), .bool good] W (SPost W tb mb wb lo ro t ws tc good):=by
 unfold SPost
 obtain ⟨f, hl, hfo⟩:=hok.has (by omega) (by omega)
 have hf:=hfo (by omega)
 have hat:=(hok.look f hl).2.2 hf
 obtain ⟨fb, rfl, hF⟩:=h.look f hl
 have hfd : t.fd = f:=by unfold Tk.Tk.fd; rw [hl]; rfl
 have hfn:=found_any hF
 rw [hf, if_pos rfl] at hfn
 have hz:=fun w (h : TkAt w tb mb wb (some fb) ro t ws tc) => seize_any (h.put 6 (.i 3) { t with st:=3 } rfl rfl rfl rfl) ⟨hok.c.w, hok.c.s⟩ ht hl hf hat (len_sc hok hat) 3 (by simp [DoneT])
 have hde:=seize_dec (t:={ t with st:=3 }) (d:=3) (ws:=ws)
 have hw:=(Tk.seize_cf { t with st:=3 } 3 ws).2
 rw [Tk.st_4 hk, hfd]
 have hfd2 : Tk.Tk.fd { t with st:=3 } = f:=hfd
 rw [hfd2] at hde
 generalize Tk.Tk.seize { t with st:=3 } 3 ws = q at *
 obtain ⟨b, t', ws', n⟩:=q
 dsimp only at *
 rw [← hw]
 have c6 : W.cell? ⟨tb, 6, none⟩ = some (.i t.st):=h.cell 6
 have cf6:=h.frozen 6
 have c7 : W.cell? ⟨tb, 7, none⟩ = some (.pointer (some ⟨fb, 0, none⟩)):=h.cell 7
 have H:=Lib.hid h
 clear h hw hfd hfd2 hF hl
 cases b
 ·rw [if_neg (by simp)]
  go_enter Tryz.func62, Tryz.ntmps62
  go_wp2_with fail
  refine hfn.mono ?_
  rintro e w5 ⟨rfl, hb5⟩
  have h5:=H.out.below hb5
  have hS:=hz w5 h5
  have d6 : w5.cell? ⟨tb, 6, none⟩ = some (.i t.st):=h5.cell 6
  have df6:=h5.frozen 6
  clear h5 hfn hz c6 c7 cf6
  go_wp2_with fail
  refine hS.mono ?_
  rintro e w6 ⟨rfl, lo6, ro6, h6, r6⟩
  have q6:=(((TR.refl (W:=W) (tb:=tb) (mb:=mb) (wb:=wb) (lo:=some fb) (ro:=ro)).below hb5).set 6 (.i 3)).trans r6
  clear hb5 hS r6 d6 df6
  have H6:=Lib.hid h6
  have Q6:=Lib.hid q6
  clear h6 q6
  go_wp2_with fail
  first | go_end0 | refine bodyPost_ret (results_none rfl _ _ _) rfl ?_
  exact ⟨rfl, lo6, ro6, H6.out, Q6.out⟩
 ·rw [if_pos rfl]
  obtain ⟨s, hs⟩:=hde rfl
  rw [hs]
  dsimp only
  have hdc:=fun w hL => decode_val w f.word hL
  rw [hs] at hdc
  simp only [Option.getD_some, Option.isSome_some] at hdc
  clear hde hs
  by_cases ho : s.own = t'.w
  ·rw [if_neg (by simpa using ho)]
   dsimp only
   go_enter Tryz.func62, Tryz.ntmps62
   go_wp2_with fail
   refine hfn.mono ?_
   rintro e w5 ⟨rfl, hb5⟩
   have h5:=H.out.below hb5
   have hS:=hz w5 h5
   have d6 : w5.cell? ⟨tb, 6, none⟩ = some (.i t.st):=h5.cell 6
   have df6:=h5.frozen 6
   clear h5 hfn hz c6 c7 cf6
   go_wp2_with fail
   refine hS.mono ?_
   rintro e w6 ⟨rfl, lo6, ro6, h6, r6⟩
   have q6:=(((TR.refl (W:=W) (tb:=tb) (mb:=mb) (wb:=wb) (lo:=some fb) (ro:=ro)).below hb5).set 6 (.i 3)).trans r6
   clear hb5 hS r6 d6 df6
   have h7:=h6.put 6 (.i 10) { t' with st:=10 } rfl rfl rfl rfl
   have hD:=hdc _ h7.laid
   have q7:=q6.set 6 (.i 10)
   have e6 : w6.cell? ⟨tb, 6, none⟩ = some (.i t'.st):=h6.cell 6
   have ef6:=h6.frozen 6
   have H7:=Lib.hid h7
   have Q7:=Lib.hid q7
   clear h6 h7 q6 q7 hdc
   go_wp2_with fail
   refine hD.mono ?_
   rintro e w8 ⟨rfl, hb8⟩
   have h8:=H7.out.below hb8
   have q8:=Q7.out.below hb8
   clear hD hb8 e6 ef6
   dsimp only
   go_step
   refine gl (.tuple #[s.val, .bool true]) ?_
   refine gl s.val ?_
   refine gl (.bool true) ?_
   refine gbox (ob:=.cells zero9 30) (Z:=zero9) (cs:=s.cells) (t:=30) 30 (.tmp 9) (.tmp 33) rfl ?_
   refine gl (.bool true) ?_
   try simp only [Act.put, sA, sZ, sS]
   rw [setRow_new]
   have hb9 : Below w8.heap.size w8 (w8.alloc (.cells s.cells 30)):=(Below.refl _ _).alloc (Nat.le_refl _) _
   have hs9 : RowAt (w8.alloc (.cells s.cells 30)) w8.heap.size s.cells 30:=heap_alloc_new w8 _
   have h9:=h8.below hb9
   have q9:=q8.below hb9
   have hsb : w8.heap.size ≠ tb:=by have:=h8.lt; omega
   generalize (w8.alloc (.cells s.cells 30)) = w9 at *
   generalize w8.heap.size = sb at *
   have g5 : w9.cell? ⟨tb, 5, none⟩ = some (.i t'.w):=h9.cell 5
   have g6 : w9.cell? ⟨tb, 6, none⟩ = some (.i 10):=h9.cell 6
   have g11 : w9.cell? ⟨tb, 11, none⟩ = some (.bool t'.passes):=h9.cell 11
   have gf11:=h9.frozen 11
   have s1 : w9.cell? ⟨sb, 1, none⟩ = some (.i s.own):=RowAt.cell hs9 1
   have H9:=Lib.hid h9
   have Q9:=Lib.hid q9
   clear h8 q8 h9 q9 hb9 hs9
   rw [ho] at s1
   go_wp2_with fail
   go_region
   go_wp2_with fail
   first | go_end0 | refine bodyPost_ret (results_none rfl _ _ _) rfl ?_
   exact ⟨rfl, lo6, ro6, H9.out.below (Below.refl _ _).drew, Q9.out.below (Below.refl _ _).drew⟩
  ·rw [if_pos (by simpa using ho)]
   dsimp only
   go_enter Tryz.func62, Tryz.ntmps62
   go_wp2_with fail
   refine hfn.mono ?_
   rintro e w5 ⟨rfl, hb5⟩
   have h5:=H.out.below hb5
   have hS:=hz w5 h5
   have d6 : w5.cell? ⟨tb, 6, none⟩ = some (.i t.st):=h5.cell 6
   have df6:=h5.frozen 6
   clear h5 hfn hz c6 c7 cf6
   go_wp2_with fail
   refine hS.mono ?_
   rintro e w6 ⟨rfl, lo6, ro6, h6, r6⟩
   have q6:=(((TR.refl (W:=W) (tb:=tb) (mb:=mb) (wb:=wb) (lo:=some fb) (ro:=ro)).below hb5).set 6 (.i 3)).trans r6
   clear hb5 hS r6 d6 df6
   have h7:=h6.put 6 (.i 10) { t' with st:=10 } rfl rfl rfl rfl
   have hD:=hdc _ h7.laid
   have q7:=q6.set 6 (.i 10)
   have e6 : w6.cell? ⟨tb, 6, none⟩ = some (.i t'.st):=h6.cell 6
   have ef6:=h6.frozen 6
   have H7:=Lib.hid h7
   have Q7:=Lib.hid q7
   clear h6 h7 q6 q7 hdc
   go_wp2_with fail
   refine hD.mono ?_
   rintro e w8 ⟨rfl, hb8⟩
   have h8:=H7.out.below hb8
   have q8:=Q7.out.below hb8
   clear hD hb8 e6 ef6
   dsimp only
   go_step
   refine gl (.tuple #[s.val, .bool true]) ?_
   refine gl s.val ?_
   refine gl (.bool true) ?_
   refine gbox (ob:=.cells zero9 30) (Z:=zero9) (cs:=s.cells) (t:=30) 30 (.tmp 9) (.tmp 33) rfl ?_
   refine gl (.bool true) ?_
   try simp only [Act.put, sA, sZ, sS]
   rw [setRow_new]
   have hb9 : Below w8.heap.size w8 (w8.alloc (.cells s.cells 30)):=(Below.refl _ _).alloc (Nat.le_refl _) _
   have hs9 : RowAt (w8.alloc (.cells s.cells 30)) w8.heap.size s.cells 30:=heap_alloc_new w8 _
   have h9:=h8.below hb9
   have q9:=q8.below hb9
   have hsb : w8.heap.size ≠ tb:=by have:=h8.lt; omega
   generalize (w8.alloc (.cells s.cells 30)) = w9 at *
   generalize w8.heap.size = sb at *
   have g5 : w9.cell? ⟨tb, 5, none⟩ = some (.i t'.w):=h9.cell 5
   have g6 : w9.cell? ⟨tb, 6, none⟩ = some (.i 10):=h9.cell 6
   have g11 : w9.cell? ⟨tb, 11, none⟩ = some (.bool t'.passes):=h9.cell 11
   have gf11:=h9.frozen 11
   have s1 : w9.cell? ⟨sb, 1, none⟩ = some (.i s.own):=RowAt.cell hs9 1
   have H9:=Lib.hid h9
   have Q9:=Lib.hid q9
   clear h8 q8 h9 q9 hb9 hs9
   have ho2 : (s.own == t'.w) = false:=by simpa using ho
   have ho3 : (s.own != t'.w) = true:=by simpa using ho
   have h10:=(H9.out.below (Below.refl _ _).drew).put 11 (.bool false) { t' with st:=10, passes:=false } rfl rfl rfl rfl
   have q10:=(Q9.out.below (Below.refl _ _).drew).set 11 (.bool false)
   have hcl:=search_any h10 5 0 s.own
   have Q10:=Lib.hid q10
   clear h10 q10
   go_wp2_with fail
   go_region
   go_wp2_with fail
   refine hcl.mono ?_
   rintro e w11 ⟨rfl, lo11, ro11, h11, r11⟩
   have H11:=Lib.hid h11
   have Q11:=Lib.hid (Q10.out.trans r11)
   clear hcl h11 r11
   go_wp2_with fail
   first | go_end0 | refine bodyPost_ret (results_none rfl _ _ _) rfl ?_
   exact ⟨rfl, lo11, ro11, H11.out, Q11.out⟩
theorem m_move {W : World} {tb mb wb : Nat} {lo ro : Option Nat} {t : Tk.Tk} {ws : List Int} {tc : Int} (h : TkAt W tb mb wb lo ro t ws tc) (hok : Tk.TkOk t ws) (ht : 0 ≤ tc ∧ tc ≤ 4000000000000000000) (hk : t.st = 5) (good : Bool) : Calls Tryz.prog 63 #[.pointer (some ⟨tb, 0, none⟩), .pointer (some ⟨mb, 0, none⟩), .bool good] W (SPost W tb mb wb lo ro t ws tc good):=by
 unfold SPost
 obtain ⟨f, hl, -⟩:=hok.has (by omega) (by omega)
 have hsk:=seek_any h hok ht (by omega) (by omega)
 have hFo:=(hok.look f hl).step ws
 have hsl:=hok.c.s
 rw [Tk.st_5 hk]
 rw [Tk.seek_eq hl] at hsk ⊢
 generalize f.step t.cf ws = q at *
 obtain ⟨b2, f', n⟩:=q
 dsimp only at *
 have hat : f'.at' ≤ 1000:=by have:=hFo.2.1; unfold Tk.ns at this; omega
 have H:=Lib.hid h
 clear h hFo hsl
 skip
 cases hf : f'.found
 ·rw [if_neg (by simp [hf]), if_neg (by simp [hf])]
  rw [hf] at hsk
  cases b2
  ·rw [if_neg (by simp)]
   dsimp only
   go_enter Tryz.func63, Tryz.ntmps63
   go_wp2_with fail
   refine hsk.mono ?_
   rintro e w5 ⟨rfl, lo5, ro5, h5, r5⟩
   have q5 : TR W tb mb wb lo ro w5 lo5 ro5:=r5
   have d6 : w5.cell? ⟨tb, 6, none⟩ = some (.i ({ t with look:=some f' } : Tk.Tk).st):=h5.cell 6
   have d11 : w5.cell? ⟨tb, 11, none⟩ = some (.bool ({ t with look:=some f' } : Tk.Tk).passes):=h5.cell 11
   have df6:=h5.frozen 6
   have H5:=Lib.hid h5
   have Q5:=Lib.hid q5
   clear h5 r5 q5 hsk
   go_wp2_with fail
   first | go_end0 | refine bodyPost_ret (results_none rfl _ _ _) rfl ?_
   exact ⟨rfl, lo5, ro5, H5.out, Q5.out⟩
  ·rw [if_pos (by simp [hf])]
   dsimp only
   go_enter Tryz.func63, Tryz.ntmps63
   go_wp2_with fail
   refine hsk.mono ?_
   rintro e w5 ⟨rfl, lo5, ro5, h5, r5⟩
   have q5 : TR W tb mb wb lo ro w5 lo5 ro5:=r5
   have d6 : w5.cell? ⟨tb, 6, none⟩ = some (.i ({ t with look:=some f' } : Tk.Tk).st):=h5.cell 6
   have d11 : w5.cell? ⟨tb, 11, none⟩ = some (.bool ({ t with look:=some f' } : Tk.Tk).passes):=h5.cell 11
   have df6:=h5.frozen 6
   have H5:=Lib.hid h5
   have Q5:=Lib.hid q5
   clear h5 r5 q5 hsk
   go_wp2_with fail
   first | go_end0 | refine bodyPost_ret (results_none rfl _ _ _) rfl ?_
   exact ⟨rfl, lo5, ro5, H5.out.put 6 (.i 10) { t with look:=some f', st:=10 } rfl rfl rfl rfl, Q5.out.set 6 _⟩
 ·rw [hf] at hsk
  cases hp : t.passes
  ·rw [if_neg (by simp [hp]), if_pos rfl]
   dsimp only
   go_enter Tryz.func63, Tryz.ntmps63
   go_wp2_with fail
   refine hsk.mono ?_
   rintro e w5 ⟨rfl, lo5, ro5, h5, r5⟩
   have q5 : TR W tb mb wb lo ro w5 lo5 ro5:=r5
   have d6 : w5.cell? ⟨tb, 6, none⟩ = some (.i ({ t with look:=some f' } : Tk.Tk).st):=h5.cell 6
   have d11 : w5.cell? ⟨tb, 11, none⟩ = some (.bool false):=(h5.cell 11).trans (by show some (Value.bool t.passes) = _; rw [hp])
   have df6:=h5.frozen 6
   have df11:=h5.frozen 11
   have H5:=Lib.hid h5
   have Q5:=Lib.hid q5
   clear h5 r5 q5 hsk
   go_wp2_with fail
   first | go_end0 | refine bodyPost_ret (results_none rfl _ _ _) rfl ?_
   exact ⟨rfl, lo5, ro5, (H5.out.put 11 (.bool true) { t with look:=some f', passes:=true } rfl rfl rfl rfl).put 6 (.i 6) { t with look:=some f', passes:=true, st:=6 } rfl rfl rfl rfl, (Q5.out.set 11 _).set 6 _⟩
  ·rw [if_pos (by simp [hp])]
   dsimp only
   go_enter Tryz.func63, Tryz.ntmps63
   go_wp2_with fail
   refine hsk.mono ?_
   rintro e w5 ⟨rfl, lo5, ro5, h5, r5⟩
   have q5 : TR W tb mb wb lo ro w5 lo5 ro5:=r5
   obtain ⟨fb, rfl, hF5⟩:=h5.look f' rfl
   have hne:=(h5.la fb rfl).2.1
   have d6 : w5.cell? ⟨tb, 6, none⟩ = some (.i ({ t with look:=some f' } : Tk.Tk).st):=h5.cell 6
   have d11 : w5.cell? ⟨tb, 11, none⟩ = some (.bool true):=(h5.cell 11).trans (by show some (Value.bool t.passes) = _; rw [hp])
   have df6:=h5.frozen 6
   have df11:=h5.frozen 11
   have d7 : w5.cell? ⟨tb, 7, none⟩ = some (.pointer (some ⟨fb, 0, none⟩)):=h5.cell 7
   have h6:=h5.put 11 (.bool false) { t with look:=some f', passes:=false } rfl rfl rfl rfl
   have q6:=q5.set 11 (.bool false)
   obtain ⟨fb6, hfb6, hF6⟩:=h6.look f' rfl
   cases hfb6
   have hcl:=go_any hF6 hat
   have H6:=Lib.hid h6
   have Q6:=Lib.hid q6
   clear h5 h6 r5 q5 q6 hsk hF5 hF6
   go_wp2_with fail
   refine hcl.mono ?_
   rintro e w7 ⟨rfl, hF7, hC7⟩
   have hA:=H6.out.la fb rfl
   have h7:=H6.out.fstep rfl (hC7.mono (G:=fun k => k = fb ∨ cfp mb wb k) (fun _ _ e => .inl e)) hF7 (H6.out.mem.chg hC7 (fun e => hA.1.m e.symm) (fun e => hA.1.w e.symm))
   have q7:=Q6.out.chg hC7 (fun k e => .inl (.inr (.inl (by rw [e]))))
   have H7:=Lib.hid h7
   have Q7:=Lib.hid q7
   clear h7 q7 hcl hF7 hC7 d7
   go_wp2_with fail
   first | go_end0 | refine bodyPost_ret (results_none rfl _ _ _) rfl ?_
   exact ⟨rfl, some fb, ro5, H7.out, Q7.out⟩
theorem nextW_nx (w : Int) (d : Nat) (own more : Int) : Tk.nextW w d own more = (nx w d own more).map S.word:=by
 unfold Tk.nextW nx
 cases dec w <;> rfl
theorem m_moveSwap {W : World} {tb mb wb : Nat} {lo ro : Option Nat} {t : Tk.Tk} {ws : List Int} {tc : Int} (h : TkAt W tb mb wb lo ro t ws tc) (hok : Tk.TkOk t ws) (ht : 0 ≤ tc ∧ tc ≤ 4000000000000000000) (hk : t.st = 6) (good : Bool) : Calls Tryz.prog 64 #[.pointer (some ⟨tb, 0, none⟩), .pointer (some ⟨mb, 0, none⟩), .bool good] W (SPost W tb mb wb lo ro t ws tc good):=by
 unfold SPost
 obtain ⟨f, hl, hfo⟩:=hok.has (by omega) (by omega)
 have hf:=hfo (by omega)
 have hFo:=hok.look f hl
 have hi:=hFo.2.2 hf
 have hlen:=len_sc hok hi
 have hc : Small t.cf:=⟨hok.c.w, hok.c.s⟩
 obtain ⟨fb, rfl, hF⟩:=h.look f hl
 have hfd : t.fd = f:=by unfold Tk.Tk.fd; rw [hl]; rfl
 have hfn:=found_any hF
 rw [hf, if_pos rfl] at hfn
 have hat : f.at' ≤ 1000:=by have:=hFo.2.1; have:=hc.s; unfold Tk.ns at *; omega
 have haf:=fun w (h : TkAt w tb mb wb (some fb) ro t ws tc) => tafter_any h f.word 9 (by simp [DoneT])
 rw [Tk.st_6 hk, hfd, nextW_nx]
 have c7 : W.cell? ⟨tb, 7, none⟩ = some (.pointer (some ⟨fb, 0, none⟩)):=h.cell 7
 have H:=Lib.hid h
 clear h hF
 cases hN : nx f.word 9 t.w 0 with
 | none =>
  dsimp only [Option.map_none]
  rw [show tc + ((0 : Nat) : Int) = tc by simp]
  go_enter Tryz.func64, Tryz.ntmps64
  go_wp2_with fail
  refine hfn.mono ?_
  rintro e w5 ⟨rfl, hb5⟩
  have h5:=H.out.below hb5
  have q5:=(TR.refl (W:=W) (tb:=tb) (mb:=mb) (wb:=wb) (lo:=some fb) (ro:=ro)).below hb5
  have hS:=haf w5 h5
  rw [hN] at hS
  simp only [Option.getD_none, Option.isSome_none, Option.getD_some, Option.isSome_some, nxW] at hS
  clear hfn haf c7 hb5
  go_wp2_with fail
  refine hS.mono ?_
  rintro e w6 ⟨rfl, hb6⟩
  have h6:=h5.below hb6
  have q6:=q5.below hb6
  clear hS hb6 h5 q5
  dsimp only
  go_step
  refine gl (.tuple #[S.zero.val, .i 0, .bool false]) ?_
  refine gl S.zero.val ?_
  refine gl (.i 0) ?_
  refine gl (.bool false) ?_
  refine gbox (ob:=.cells zero9 30) (Z:=zero9) (cs:=S.zero.cells) (t:=30) 30 (.tmp 9) (.tmp 25) rfl ?_
  refine gl (.i 0) ?_
  refine gl (.bool false) ?_
  try simp only [Act.put, sA, sZ, sS]
  rw [setRow_new]
  have hb7 : Below w6.heap.size w6 (w6.alloc (.cells S.zero.cells 30)):=(Below.refl _ _).alloc (Nat.le_refl _) _
  have h7:=h6.below hb7
  have q7:=q6.below hb7
  generalize (w6.alloc (.cells S.zero.cells 30)) = w7 at *
  have d7 : w7.cell? ⟨tb, 7, none⟩ = some (.pointer (some ⟨fb, 0, none⟩)):=h7.cell 7
  have H7:=Lib.hid h7
  have Q7:=Lib.hid q7
  clear h6 q6 h7 q7 hb7
  obtain ⟨fbx, hfbx, hFx⟩:=H7.out.look f hl
  cases hfbx
  have hcl:=go_any hFx hat
  clear hFx
  go_wp2_with fail
  refine hcl.mono ?_
  rintro e wg ⟨rfl, hFg, hCg⟩
  have hA:=H7.out.la fb rfl
  have hg:=H7.out.fstep rfl (hCg.mono (G:=fun k => k = fb ∨ cfp mb wb k) (fun _ _ e => .inl e)) hFg (H7.out.mem.chg hCg (fun e => hA.1.m e.symm) (fun e => hA.1.w e.symm))
  have qg:=Q7.out.chg hCg (fun k e => .inl (.inr (.inl (by rw [e]))))
  have g6 : wg.cell? ⟨tb, 6, none⟩ = some (.i t.st):=hg.cell 6
  have gf6:=hg.frozen 6
  have HG:=Lib.hid hg
  have QG:=Lib.hid qg
  clear hg qg hcl hFg hCg
  go_wp2_with fail
  first | go_end0 | refine bodyPost_ret (results_none rfl _ _ _) rfl ?_
  exact ⟨rfl, some fb, ro, HG.out.put 6 (.i 5) { t with look:=some f.go, st:=5 } rfl rfl rfl rfl, QG.out.set 6 _⟩
 | some s =>
  dsimp only [Option.map_some]
  have hsl:=fun W => slot_any W t.cf f.at' hc.w ⟨by have:=hc.s; unfold Tk.ns at hi; omega, hc.s.2⟩
  have hsc : (3 + 2 * t.cf.workers + (f.at' : Int)) = ((Tk.sc t.cf f.at' : Nat) : Int):=by have:=hc.w; unfold Tk.sc; omega
  simp only [hsc, Conf.Cf.val, Conf.Cf.cells] at hsl
  clear hsc
  have hrd:=rd_some hlen
  unfold Tk.cas
  by_cases hx : Tk.rd ws (Tk.sc t.cf f.at') = f.word
  ·rw [if_pos hx]
   dsimp only
   rw [hx] at hrd
   have hcs:=fun W (h : CAt W mb wb ws tc) => cas_eq h ht (Tk.sc t.cf f.at') f.word hrd s.word
   go_enter Tryz.func64, Tryz.ntmps64
   go_wp2_with fail
   refine hfn.mono ?_
   rintro e w5 ⟨rfl, hb5⟩
   have h5:=H.out.below hb5
   have q5:=(TR.refl (W:=W) (tb:=tb) (mb:=mb) (wb:=wb) (lo:=some fb) (ro:=ro)).below hb5
   have hS:=haf w5 h5
   rw [hN] at hS
   simp only [Option.getD_none, Option.isSome_none, Option.getD_some, Option.isSome_some, nxW] at hS
   clear hfn haf c7 hb5
   go_wp2_with fail
   refine hS.mono ?_
   rintro e w6 ⟨rfl, hb6⟩
   have h6:=h5.below hb6
   have q6:=q5.below hb6
   clear hS hb6 h5 q5
   dsimp only
   go_step
   refine gl (.tuple #[s.val, .i s.word, .bool true]) ?_
   refine gl s.val ?_
   refine gl (.i s.word) ?_
   refine gl (.bool true) ?_
   refine gbox (ob:=.cells zero9 30) (Z:=zero9) (cs:=s.cells) (t:=30) 30 (.tmp 9) (.tmp 25) rfl ?_
   refine gl (.i s.word) ?_
   refine gl (.bool true) ?_
   try simp only [Act.put, sA, sZ, sS]
   rw [setRow_new]
   have hb7 : Below w6.heap.size w6 (w6.alloc (.cells s.cells 30)):=(Below.refl _ _).alloc (Nat.le_refl _) _
   have h7:=h6.below hb7
   have q7:=q6.below hb7
   generalize (w6.alloc (.cells s.cells 30)) = w7 at *
   have d0 : w7.cell? ⟨tb, 0, none⟩ = some (.i t.cf.workers):=h7.cell 0
   have d1 : w7.cell? ⟨tb, 1, none⟩ = some (.i t.cf.slots):=h7.cell 1
   have d2 : w7.cell? ⟨tb, 2, none⟩ = some (.i t.cf.streams):=h7.cell 2
   have d3 : w7.cell? ⟨tb, 3, none⟩ = some (.i t.cf.waiters):=h7.cell 3
   have d4 : w7.cell? ⟨tb, 4, none⟩ = some (.i t.cf.uses):=h7.cell 4
   have H7:=Lib.hid h7
   have Q7:=Lib.hid q7
   clear h6 q6 h7 q7 hb7 hrd
   go_wp2_with fail
   refine (hsl _).mono ?_
   rintro e w8 ⟨rfl, hb8⟩
   have h8:=H7.out.below hb8
   have q8:=Q7.out.below hb8
   have hS8:=hcs w8 h8.mem
   have H8:=Lib.hid h8
   have Q8:=Lib.hid q8
   clear h8 q8 hsl hcs hb8 d0 d1 d2 d3 d4
   go_wp2_with fail
   refine hS8.mono ?_
   rintro e w9 ⟨rfl, hM9, hC9⟩
   have h9:=H8.out.mems hC9 hM9
   have q9:=Q8.out.mem hC9
   have d7 : w9.cell? ⟨tb, 7, none⟩ = some (.pointer (some ⟨fb, 0, none⟩)):=h9.cell 7
   have H9:=Lib.hid h9
   have Q9:=Lib.hid q9
   clear h9 q9 hS8 hM9 hC9
   obtain ⟨fbx, hfbx, hFx⟩:=H9.out.look f hl
   cases hfbx
   have hcl:=go_any hFx hat
   clear hFx
   go_wp2_with fail
   refine hcl.mono ?_
   rintro e wg ⟨rfl, hFg, hCg⟩
   have hA:=H9.out.la fb rfl
   have hg:=H9.out.fstep rfl (hCg.mono (G:=fun k => k = fb ∨ cfp mb wb k) (fun _ _ e => .inl e)) hFg (H9.out.mem.chg hCg (fun e => hA.1.m e.symm) (fun e => hA.1.w e.symm))
   have qg:=Q9.out.chg hCg (fun k e => .inl (.inr (.inl (by rw [e]))))
   have g6 : wg.cell? ⟨tb, 6, none⟩ = some (.i t.st):=hg.cell 6
   have gf6:=hg.frozen 6
   have HG:=Lib.hid hg
   have QG:=Lib.hid qg
   clear hg qg hcl hFg hCg
   go_wp2_with fail
   first | go_end0 | refine bodyPost_ret (results_none rfl _ _ _) rfl ?_
   exact ⟨rfl, some fb, ro, HG.out.put 6 (.i 5) { t with look:=some f.go, st:=5 } rfl rfl rfl rfl, QG.out.set 6 _⟩
  ·rw [if_neg hx]
   dsimp only
   generalize Tk.rd ws (Tk.sc t.cf f.at') = x at *
   have hcs:=fun W (h : CAt W mb wb ws tc) => cas_ne h ht (Tk.sc t.cf f.at') x hrd f.word s.word hx
   go_enter Tryz.func64, Tryz.ntmps64
   go_wp2_with fail
   refine hfn.mono ?_
   rintro e w5 ⟨rfl, hb5⟩
   have h5:=H.out.below hb5
   have q5:=(TR.refl (W:=W) (tb:=tb) (mb:=mb) (wb:=wb) (lo:=some fb) (ro:=ro)).below hb5
   have hS:=haf w5 h5
   rw [hN] at hS
   simp only [Option.getD_none, Option.isSome_none, Option.getD_some, Option.isSome_some, nxW] at hS
   clear hfn haf c7 hb5
   go_wp2_with fail
   refine hS.mono ?_
   rintro e w6 ⟨rfl, hb6⟩
   have h6:=h5.below hb6
   have q6:=q5.below hb6
   clear hS hb6 h5 q5
   dsimp only
   go_step
   refine gl (.tuple #[s.val, .i s.word, .bool true]) ?_
   refine gl s.val ?_
   refine gl (.i s.word) ?_
   refine gl (.bool true) ?_
   refine gbox (ob:=.cells zero9 30) (Z:=zero9) (cs:=s.cells) (t:=30) 30 (.tmp 9) (.tmp 25) rfl ?_
   refine gl (.i s.word) ?_
   refine gl (.bool true) ?_
   try simp only [Act.put, sA, sZ, sS]
   rw [setRow_new]
   have hb7 : Below w6.heap.size w6 (w6.alloc (.cells s.cells 30)):=(Below.refl _ _).alloc (Nat.le_refl _) _
   have h7:=h6.below hb7
   have q7:=q6.below hb7
   generalize (w6.alloc (.cells s.cells 30)) = w7 at *
   have d0 : w7.cell? ⟨tb, 0, none⟩ = some (.i t.cf.workers):=h7.cell 0
   have d1 : w7.cell? ⟨tb, 1, none⟩ = some (.i t.cf.slots):=h7.cell 1
   have d2 : w7.cell? ⟨tb, 2, none⟩ = some (.i t.cf.streams):=h7.cell 2
   have d3 : w7.cell? ⟨tb, 3, none⟩ = some (.i t.cf.waiters):=h7.cell 3
   have d4 : w7.cell? ⟨tb, 4, none⟩ = some (.i t.cf.uses):=h7.cell 4
   have H7:=Lib.hid h7
   have Q7:=Lib.hid q7
   clear h6 q6 h7 q7 hb7 hrd
   go_wp2_with fail
   refine (hsl _).mono ?_
   rintro e w8 ⟨rfl, hb8⟩
   have h8:=H7.out.below hb8
   have q8:=Q7.out.below hb8
   have hS8:=hcs w8 h8.mem
   have H8:=Lib.hid h8
   have Q8:=Lib.hid q8
   clear h8 q8 hsl hcs hb8 d0 d1 d2 d3 d4
   go_wp2_with fail
   refine hS8.mono ?_
   rintro e w9 ⟨rfl, hM9, hC9⟩
   have h9:=H8.out.mems hC9 hM9
   have q9:=Q8.out.mem hC9
   have d7 : w9.cell? ⟨tb, 7, none⟩ = some (.pointer (some ⟨fb, 0, none⟩)):=h9.cell 7
   have H9:=Lib.hid h9
   have Q9:=Lib.hid q9
   clear h9 q9 hS8 hM9 hC9
   obtain ⟨fbx, hfbx, hFx⟩:=H9.out.look f hl
   cases hfbx
   have hcl:=go_any hFx hat
   clear hFx
   go_wp2_with fail
   refine hcl.mono ?_
   rintro e wg ⟨rfl, hFg, hCg⟩
   have hA:=H9.out.la fb rfl
   have hg:=H9.out.fstep rfl (hCg.mono (G:=fun k => k = fb ∨ cfp mb wb k) (fun _ _ e => .inl e)) hFg (H9.out.mem.chg hCg (fun e => hA.1.m e.symm) (fun e => hA.1.w e.symm))
   have qg:=Q9.out.chg hCg (fun k e => .inl (.inr (.inl (by rw [e]))))
   have g6 : wg.cell? ⟨tb, 6, none⟩ = some (.i t.st):=hg.cell 6
   have gf6:=hg.frozen 6
   have HG:=Lib.hid hg
   have QG:=Lib.hid qg
   clear hg qg hcl hFg hCg
   go_wp2_with fail
   first | go_end0 | refine bodyPost_ret (results_none rfl _ _ _) rfl ?_
   exact ⟨rfl, some fb, ro, HG.out.put 6 (.i 5) { t with look:=some f.go, st:=5 } rfl rfl rfl rfl, QG.out.set 6 _⟩
theorem m_back {W : World} {tb mb wb : Nat} {lo ro : Option Nat} {t : Tk.Tk} {ws : List Int} {tc : Int} (h : TkAt W tb mb wb lo ro t ws tc) (hok : Tk.TkOk t ws) (ht : 0 ≤ tc ∧ tc ≤ 4000000000000000000) (hk : t.st = 11) (good : Bool) : Calls Tryz.prog 69 #[.pointer (some ⟨tb, 0, none⟩), .pointer (some ⟨mb, 0, none⟩), .bool good] W (SPost W tb mb wb lo ro t ws tc good):=by
 unfold SPost
 have hc : Small t.cf:=⟨hok.c.w, hok.c.s⟩
 have hi:=hok.i
 have hlen:=len_sc hok hok.i
 have hsl:=fun W => slot_any W t.cf t.i hc.w ⟨by have:=hc.s; unfold Tk.ns at hi; omega, hc.s.2⟩
 have hsc : (3 + 2 * t.cf.workers + (t.i : Int)) = ((Tk.sc t.cf t.i : Nat) : Int):=by have:=hc.w; unfold Tk.sc; omega
 simp only [hsc, Conf.Cf.val, Conf.Cf.cells] at hsl
 clear hsc
 have hrd:=rd_some hlen
 rw [Tk.st_11 hk]
 dsimp only
 have hrn:=fun W x => rnew_any W t.cf t.i x hc hi
 simp only [Conf.Cf.val, Conf.Cf.cells] at hrn
 generalize Tk.rd ws (Tk.sc t.cf t.i) = x at *
 have hld:=fun W (h : CAt W mb wb ws tc) => load_any h ht (Tk.sc t.cf t.i) x hrd
 have hdc:=fun W hL => decode_val W x hL
 have c0 : W.cell? ⟨tb, 0, none⟩ = some (.i t.cf.workers):=h.cell 0
 have c1 : W.cell? ⟨tb, 1, none⟩ = some (.i t.cf.slots):=h.cell 1
 have c2 : W.cell? ⟨tb, 2, none⟩ = some (.i t.cf.streams):=h.cell 2
 have c3 : W.cell? ⟨tb, 3, none⟩ = some (.i t.cf.waiters):=h.cell 3
 have c4 : W.cell? ⟨tb, 4, none⟩ = some (.i t.cf.uses):=h.cell 4
 have c8 : W.cell? ⟨tb, 8, none⟩ = some (.i t.i):=h.cell 8
 have H:=Lib.hid h
 clear h hrd hi
 cases hdx : dec x with
 | none =>
  simp only [hdx, Option.getD_none, Option.isSome_none, Option.getD_some, Option.isSome_some] at hdc
  dsimp only
  clear hrn
  go_enter Tryz.func69, Tryz.ntmps69
  go_wp2_with fail
  go_region_held3 (fun w' => w'.cell? ⟨tb, 0, none⟩ = some (.i t.cf.workers) ∧ w'.cell? ⟨tb, 1, none⟩ = some (.i t.cf.slots) ∧ w'.cell? ⟨tb, 2, none⟩ = some (.i t.cf.streams) ∧ w'.cell? ⟨tb, 3, none⟩ = some (.i t.cf.waiters) ∧ w'.cell? ⟨tb, 4, none⟩ = some (.i t.cf.uses) ∧ w'.cell? ⟨tb, 8, none⟩ = some (.i t.i)) (first | go_keep | (refine ⟨?_, ?_, ?_, ?_, ?_, ?_⟩ <;> first | assumption | (rw [World.cell?_setCell_other _ _ _ _ (by simp)]; assumption)))
   ((first
   | (go_at_call 94; refine (hsl _).mono ?_; rintro e w6 ⟨rfl, hb6⟩; have h6:=(H.out.below (Below.refl _ _).drew).below hb6; have d0 : w6.cell? ⟨tb, 0, none⟩ = some (.i t.cf.workers):=h6.cell 0; have d1 : w6.cell? ⟨tb, 1, none⟩ = some (.i t.cf.slots):=h6.cell 1; have d2 : w6.cell? ⟨tb, 2, none⟩ = some (.i t.cf.streams):=h6.cell 2; have d3 : w6.cell? ⟨tb, 3, none⟩ = some (.i t.cf.waiters):=h6.cell 3; have d4 : w6.cell? ⟨tb, 4, none⟩ = some (.i t.cf.uses):=h6.cell 4; have d8 : w6.cell? ⟨tb, 8, none⟩ = some (.i t.i):=h6.cell 8)
   | (go_at_call 19; refine (hld _ h6.mem).mono ?_; rintro e w7 ⟨rfl, hM7, hC7⟩; have h7:=h6.mems hC7 hM7; have k9:=h7.frozen 9; have k99 : w7.cell? ⟨tb, 9, none⟩ = some (.i t.word):=h7.cell 9; have k0 : w7.cell? ⟨tb, 0, none⟩ = some (.i t.cf.workers):=h7.cell 0; have k1 : w7.cell? ⟨tb, 1, none⟩ = some (.i t.cf.slots):=h7.cell 1; have k2 : w7.cell? ⟨tb, 2, none⟩ = some (.i t.cf.streams):=h7.cell 2; have k3 : w7.cell? ⟨tb, 3, none⟩ = some (.i t.cf.waiters):=h7.cell 3; have k4 : w7.cell? ⟨tb, 4, none⟩ = some (.i t.cf.uses):=h7.cell 4; have k8 : w7.cell? ⟨tb, 8, none⟩ = some (.i t.i):=h7.cell 8)))
  have q7:=(((TR.refl (W:=W) (tb:=tb) (mb:=mb) (wb:=wb) (lo:=lo) (ro:=ro)).below (Below.refl _ _).drew).below hb6).mem hC7
  have hD:=hdc w7 h7.laid
  have H7:=Lib.hid h7
  have Q7:=Lib.hid q7
  clear h7 q7 h6 hM7 hC7 hb6 hsl hld hdc k9 k99 d0 d1 d2 d3 d4 d8 c0 c1 c2 c3 c4 c8 k0 k1 k2 k3 k4 k8
  go_wp2_with fail
  refine hD.mono ?_
  rintro e w8 ⟨rfl, hb8⟩
  have h8:=H7.out.below hb8
  have q8:=Q7.out.below hb8
  dsimp only
  go_step
  refine gl (.tuple #[S.zero.val, .bool false]) ?_
  refine gl S.zero.val ?_
  refine gl (.bool false) ?_
  refine gbox (ob:=.cells zero9 30) (Z:=zero9) (cs:=S.zero.cells) (t:=30) 30 (.tmp 7) (.tmp 23) rfl ?_
  refine gl (.bool false) ?_
  try simp only [Act.put, sA, sZ, sS]
  rw [setRow_new]
  have hb9 : Below w8.heap.size w8 (w8.alloc (.cells S.zero.cells 30)):=(Below.refl _ _).alloc (Nat.le_refl _) _
  have hs9 : RowAt (w8.alloc (.cells S.zero.cells 30)) w8.heap.size S.zero.cells 30:=heap_alloc_new w8 _
  have h9:=h8.below hb9
  have q9:=q8.below hb9
  generalize (w8.alloc (.cells S.zero.cells 30)) = w9 at *
  generalize w8.heap.size = sb at *
  have g5 : w9.cell? ⟨tb, 5, none⟩ = some (.i t.w):=h9.cell 5
  have g10 : w9.cell? ⟨tb, 10, none⟩ = some (.i t.gen):=h9.cell 10
  have s0 : w9.cell? ⟨sb, 0, none⟩ = some (.i 0):=RowAt.cell hs9 0
  have s1 : w9.cell? ⟨sb, 1, none⟩ = some (.i 0):=RowAt.cell hs9 1
  have s6 : w9.cell? ⟨sb, 6, none⟩ = some (.i 0):=RowAt.cell hs9 6
  have hcl:=tend_any (h9.below (Below.refl _ _).drew) 5
  have Q9:=Lib.hid (q9.below (Below.refl _ _).drew)
  clear h9 q9 h8 q8 hD hb8 hb9 hs9
  go_wp2_with fail
  go_region
  go_wp2_with fail
  refine hcl.mono ?_
  rintro e w10 ⟨rfl, lo10, ro10, h10, r10⟩
  have H10:=Lib.hid h10
  have Q10:=Lib.hid (Q9.out.trans r10)
  clear hcl h10 r10
  go_wp2_with fail
  first | go_end0 | refine bodyPost_ret (results_none rfl _ _ _) rfl ?_
  exact ⟨rfl, lo10, ro10, H10.out, Q10.out⟩
 | some s =>
  simp only [hdx, Option.getD_none, Option.isSome_none, Option.getD_some, Option.isSome_some] at hdc
  dsimp only
  by_cases e3 : s.state = 3
  ·by_cases eo : s.own = t.w
   ·by_cases eg : s.gen = t.gen
    ·rw [if_pos ⟨e3, eo, eg⟩]
     dsimp only
     go_enter Tryz.func69, Tryz.ntmps69
     go_wp2_with fail
     go_region_held3 (fun w' => w'.cell? ⟨tb, 0, none⟩ = some (.i t.cf.workers) ∧ w'.cell? ⟨tb, 1, none⟩ = some (.i t.cf.slots) ∧ w'.cell? ⟨tb, 2, none⟩ = some (.i t.cf.streams) ∧ w'.cell? ⟨tb, 3, none⟩ = some (.i t.cf.waiters) ∧ w'.cell? ⟨tb, 4, none⟩ = some (.i t.cf.uses) ∧ w'.cell? ⟨tb, 8, none⟩ = some (.i t.i)) (first | go_keep | (refine ⟨?_, ?_, ?_, ?_, ?_, ?_⟩ <;> first | assumption | (rw [World.cell?_setCell_other _ _ _ _ (by simp)]; assumption)))
      ((first
      | (go_at_call 94; refine (hsl _).mono ?_; rintro e w6 ⟨rfl, hb6⟩; have h6:=(H.out.below (Below.refl _ _).drew).below hb6; have d0 : w6.cell? ⟨tb, 0, none⟩ = some (.i t.cf.workers):=h6.cell 0; have d1 : w6.cell? ⟨tb, 1, none⟩ = some (.i t.cf.slots):=h6.cell 1; have d2 : w6.cell? ⟨tb, 2, none⟩ = some (.i t.cf.streams):=h6.cell 2; have d3 : w6.cell? ⟨tb, 3, none⟩ = some (.i t.cf.waiters):=h6.cell 3; have d4 : w6.cell? ⟨tb, 4, none⟩ = some (.i t.cf.uses):=h6.cell 4; have d8 : w6.cell? ⟨tb, 8, none⟩ = some (.i t.i):=h6.cell 8)
      | (go_at_call 19; refine (hld _ h6.mem).mono ?_; rintro e w7 ⟨rfl, hM7, hC7⟩; have h7:=h6.mems hC7 hM7; have k9:=h7.frozen 9; have k99 : w7.cell? ⟨tb, 9, none⟩ = some (.i t.word):=h7.cell 9; have k0 : w7.cell? ⟨tb, 0, none⟩ = some (.i t.cf.workers):=h7.cell 0; have k1 : w7.cell? ⟨tb, 1, none⟩ = some (.i t.cf.slots):=h7.cell 1; have k2 : w7.cell? ⟨tb, 2, none⟩ = some (.i t.cf.streams):=h7.cell 2; have k3 : w7.cell? ⟨tb, 3, none⟩ = some (.i t.cf.waiters):=h7.cell 3; have k4 : w7.cell? ⟨tb, 4, none⟩ = some (.i t.cf.uses):=h7.cell 4; have k8 : w7.cell? ⟨tb, 8, none⟩ = some (.i t.i):=h7.cell 8)))
     have q7:=(((TR.refl (W:=W) (tb:=tb) (mb:=mb) (wb:=wb) (lo:=lo) (ro:=ro)).below (Below.refl _ _).drew).below hb6).mem hC7
     have hD:=hdc w7 h7.laid
     have H7:=Lib.hid h7
     have Q7:=Lib.hid q7
     clear h7 q7 h6 hM7 hC7 hb6 hsl hld hdc k9 k99 d0 d1 d2 d3 d4 d8 c0 c1 c2 c3 c4 c8 k0 k1 k2 k3 k4 k8
     go_wp2_with fail
     refine hD.mono ?_
     rintro e w8 ⟨rfl, hb8⟩
     have h8:=H7.out.below hb8
     have q8:=Q7.out.below hb8
     dsimp only
     go_step
     refine gl (.tuple #[s.val, .bool true]) ?_
     refine gl s.val ?_
     refine gl (.bool true) ?_
     refine gbox (ob:=.cells zero9 30) (Z:=zero9) (cs:=s.cells) (t:=30) 30 (.tmp 7) (.tmp 23) rfl ?_
     refine gl (.bool true) ?_
     try simp only [Act.put, sA, sZ, sS]
     rw [setRow_new]
     have hb9 : Below w8.heap.size w8 (w8.alloc (.cells s.cells 30)):=(Below.refl _ _).alloc (Nat.le_refl _) _
     have hs9 : RowAt (w8.alloc (.cells s.cells 30)) w8.heap.size s.cells 30:=heap_alloc_new w8 _
     have h9:=h8.below hb9
     have q9:=q8.below hb9
     generalize (w8.alloc (.cells s.cells 30)) = w9 at *
     generalize w8.heap.size = sb at *
     have g5 : w9.cell? ⟨tb, 5, none⟩ = some (.i t.w):=h9.cell 5
     have g10 : w9.cell? ⟨tb, 10, none⟩ = some (.i t.gen):=h9.cell 10
     have s0 : w9.cell? ⟨sb, 0, none⟩ = some (.i 3):=(RowAt.cell hs9 0).trans (by show some (Value.int .i64 s.state) = _; first | rfl | rw [e3])
     have s1 : w9.cell? ⟨sb, 1, none⟩ = some (.i t.w):=(RowAt.cell hs9 1).trans (by show some (Value.int .i64 s.own) = _; first | rfl | rw [eo])
     have s6 : w9.cell? ⟨sb, 6, none⟩ = some (.i t.gen):=(RowAt.cell hs9 6).trans (by show some (Value.int .i64 s.gen) = _; first | rfl | rw [eg])
     have g0 : w9.cell? ⟨tb, 0, none⟩ = some (.i t.cf.workers):=h9.cell 0
     have g1 : w9.cell? ⟨tb, 1, none⟩ = some (.i t.cf.slots):=h9.cell 1
     have g2 : w9.cell? ⟨tb, 2, none⟩ = some (.i t.cf.streams):=h9.cell 2
     have g3 : w9.cell? ⟨tb, 3, none⟩ = some (.i t.cf.waiters):=h9.cell 3
     have g4 : w9.cell? ⟨tb, 4, none⟩ = some (.i t.cf.uses):=h9.cell 4
     have g8 : w9.cell? ⟨tb, 8, none⟩ = some (.i t.i):=h9.cell 8
     have g12 : w9.cell? ⟨tb, 12, none⟩ = some (ptrOf ro):=h9.cell 12
     have gf12:=h9.frozen 12
     have HN:=Lib.hid hrn
     have H9:=Lib.hid (h9.below (Below.refl _ _).drew)
     have Q9:=Lib.hid (q9.below (Below.refl _ _).drew)
     clear h9 q9 h8 q8 hD hb8 hb9 hs9 hrn e3 eo eg
     go_wp2_with fail
     go_region
     go_wp2_with fail
     go_region_held3 (fun w' => w'.cell? ⟨tb, 0, none⟩ = some (.i t.cf.workers) ∧ w'.cell? ⟨tb, 1, none⟩ = some (.i t.cf.slots) ∧ w'.cell? ⟨tb, 2, none⟩ = some (.i t.cf.streams) ∧ w'.cell? ⟨tb, 3, none⟩ = some (.i t.cf.waiters) ∧ w'.cell? ⟨tb, 4, none⟩ = some (.i t.cf.uses) ∧ w'.cell? ⟨tb, 8, none⟩ = some (.i t.i)) (first | go_keep | (refine ⟨?_, ?_, ?_, ?_, ?_, ?_⟩ <;> first | assumption | (rw [World.cell?_setCell_other _ _ _ _ (by simp)]; assumption)))
      ((first
      | (go_at_call 96; refine (HN.out _ x).mono ?_; rintro e w10 ⟨rb, rfl, hR, hge, hb10⟩; have h10:=(H9.out.below (Below.refl _ _).drew).below hb10; have k12 : w10.cell? ⟨tb, 12, none⟩ = some (ptrOf ro):=h10.cell 12; have kf12:=h10.frozen 12; have k0 : w10.cell? ⟨tb, 0, none⟩ = some (.i t.cf.workers):=h10.cell 0; have k1 : w10.cell? ⟨tb, 1, none⟩ = some (.i t.cf.slots):=h10.cell 1; have k2 : w10.cell? ⟨tb, 2, none⟩ = some (.i t.cf.streams):=h10.cell 2; have k3 : w10.cell? ⟨tb, 3, none⟩ = some (.i t.cf.waiters):=h10.cell 3; have k4 : w10.cell? ⟨tb, 4, none⟩ = some (.i t.cf.uses):=h10.cell 4; have k8 : w10.cell? ⟨tb, 8, none⟩ = some (.i t.i):=h10.cell 8)))
     have q10:=(Q9.out.below (Below.refl _ _).drew).below hb10
     obtain ⟨n1, n2, n3, n4⟩:=(H9.out.below (Below.refl _ _).drew).newApart hge
     have h11:=h10.putRet hR n1 n2 n4
     have q11 : TR W tb mb wb lo ro (w10.setCell ⟨tb, 12, none⟩ (.pointer (some ⟨rb, 0, none⟩))) lo (some rb):=⟨q10.1, .inr ⟨rb, rfl, Nat.le_trans (show W.heap.size ≤ w9.heap.size from Q9.out.2.2.size) hge⟩, q10.2.2.setCell ⟨tb, 12, none⟩ _ (fun _ => .inl (.inl rfl))⟩
     have m6 : (w10.setCell ⟨tb, 12, none⟩ (.pointer (some ⟨rb, 0, none⟩))).cell? ⟨tb, 6, none⟩ = some (.i t.st):=h11.cell 6
     have mf6:=h11.frozen 6
     have H11:=Lib.hid h11
     have Q11:=Lib.hid q11
     clear h10 q10 h11 q11 hR hb10 hge n1 n2 n3 n4
     go_wp2_with fail
     first | go_end0 | refine bodyPost_ret (results_none rfl _ _ _) rfl ?_
     exact ⟨rfl, lo, some rb, H11.out.put 6 (.i 12) { t with rt:=some (Tk.Rt.new (Tk.sc t.cf t.i) x), st:=12 } rfl rfl rfl rfl, Q11.out.set 6 _⟩
    ·rw [if_neg (by simp [eg])]
     dsimp only
     clear hrn
     go_enter Tryz.func69, Tryz.ntmps69
     go_wp2_with fail
     go_region_held3 (fun w' => w'.cell? ⟨tb, 0, none⟩ = some (.i t.cf.workers) ∧ w'.cell? ⟨tb, 1, none⟩ = some (.i t.cf.slots) ∧ w'.cell? ⟨tb, 2, none⟩ = some (.i t.cf.streams) ∧ w'.cell? ⟨tb, 3, none⟩ = some (.i t.cf.waiters) ∧ w'.cell? ⟨tb, 4, none⟩ = some (.i t.cf.uses) ∧ w'.cell? ⟨tb, 8, none⟩ = some (.i t.i)) (first | go_keep | (refine ⟨?_, ?_, ?_, ?_, ?_, ?_⟩ <;> first | assumption | (rw [World.cell?_setCell_other _ _ _ _ (by simp)]; assumption)))
      ((first
      | (go_at_call 94; refine (hsl _).mono ?_; rintro e w6 ⟨rfl, hb6⟩; have h6:=(H.out.below (Below.refl _ _).drew).below hb6; have d0 : w6.cell? ⟨tb, 0, none⟩ = some (.i t.cf.workers):=h6.cell 0; have d1 : w6.cell? ⟨tb, 1, none⟩ = some (.i t.cf.slots):=h6.cell 1; have d2 : w6.cell? ⟨tb, 2, none⟩ = some (.i t.cf.streams):=h6.cell 2; have d3 : w6.cell? ⟨tb, 3, none⟩ = some (.i t.cf.waiters):=h6.cell 3; have d4 : w6.cell? ⟨tb, 4, none⟩ = some (.i t.cf.uses):=h6.cell 4; have d8 : w6.cell? ⟨tb, 8, none⟩ = some (.i t.i):=h6.cell 8)
      | (go_at_call 19; refine (hld _ h6.mem).mono ?_; rintro e w7 ⟨rfl, hM7, hC7⟩; have h7:=h6.mems hC7 hM7; have k9:=h7.frozen 9; have k99 : w7.cell? ⟨tb, 9, none⟩ = some (.i t.word):=h7.cell 9; have k0 : w7.cell? ⟨tb, 0, none⟩ = some (.i t.cf.workers):=h7.cell 0; have k1 : w7.cell? ⟨tb, 1, none⟩ = some (.i t.cf.slots):=h7.cell 1; have k2 : w7.cell? ⟨tb, 2, none⟩ = some (.i t.cf.streams):=h7.cell 2; have k3 : w7.cell? ⟨tb, 3, none⟩ = some (.i t.cf.waiters):=h7.cell 3; have k4 : w7.cell? ⟨tb, 4, none⟩ = some (.i t.cf.uses):=h7.cell 4; have k8 : w7.cell? ⟨tb, 8, none⟩ = some (.i t.i):=h7.cell 8)))
     have q7:=(((TR.refl (W:=W) (tb:=tb) (mb:=mb) (wb:=wb) (lo:=lo) (ro:=ro)).below (Below.refl _ _).drew).below hb6).mem hC7
     have hD:=hdc w7 h7.laid
     have H7:=Lib.hid h7
     have Q7:=Lib.hid q7
     clear h7 q7 h6 hM7 hC7 hb6 hsl hld hdc k9 k99 d0 d1 d2 d3 d4 d8 c0 c1 c2 c3 c4 c8 k0 k1 k2 k3 k4 k8
     go_wp2_with fail
     refine hD.mono ?_
     rintro e w8 ⟨rfl, hb8⟩
     have h8:=H7.out.below hb8
     have q8:=Q7.out.below hb8
     dsimp only
     go_step
     refine gl (.tuple #[s.val, .bool true]) ?_
     refine gl s.val ?_
     refine gl (.bool true) ?_
     refine gbox (ob:=.cells zero9 30) (Z:=zero9) (cs:=s.cells) (t:=30) 30 (.tmp 7) (.tmp 23) rfl ?_
     refine gl (.bool true) ?_
     try simp only [Act.put, sA, sZ, sS]
     rw [setRow_new]
     have hb9 : Below w8.heap.size w8 (w8.alloc (.cells s.cells 30)):=(Below.refl _ _).alloc (Nat.le_refl _) _
     have hs9 : RowAt (w8.alloc (.cells s.cells 30)) w8.heap.size s.cells 30:=heap_alloc_new w8 _
     have h9:=h8.below hb9
     have q9:=q8.below hb9
     generalize (w8.alloc (.cells s.cells 30)) = w9 at *
     generalize w8.heap.size = sb at *
     have g5 : w9.cell? ⟨tb, 5, none⟩ = some (.i t.w):=h9.cell 5
     have g10 : w9.cell? ⟨tb, 10, none⟩ = some (.i t.gen):=h9.cell 10
     have s0 : w9.cell? ⟨sb, 0, none⟩ = some (.i 3):=(RowAt.cell hs9 0).trans (by show some (Value.int .i64 s.state) = _; first | rfl | rw [e3])
     have s1 : w9.cell? ⟨sb, 1, none⟩ = some (.i t.w):=(RowAt.cell hs9 1).trans (by show some (Value.int .i64 s.own) = _; first | rfl | rw [eo])
     have s6 : w9.cell? ⟨sb, 6, none⟩ = some (.i s.gen):=(RowAt.cell hs9 6).trans (by show some (Value.int .i64 s.gen) = _; first | rfl | rw [eg])
     have eg2 : (s.gen == t.gen) = false:=by simpa using eg
     have eg3 : (s.gen != t.gen) = true:=by simpa using eg
     have hcl:=tend_any (h9.below (Below.refl _ _).drew) 5
     have Q9:=Lib.hid (q9.below (Below.refl _ _).drew)
     clear h9 q9 h8 q8 hD hb8 hb9 hs9
     go_wp2_with fail
     go_region
     go_wp2_with fail
     refine hcl.mono ?_
     rintro e w10 ⟨rfl, lo10, ro10, h10, r10⟩
     have H10:=Lib.hid h10
     have Q10:=Lib.hid (Q9.out.trans r10)
     clear hcl h10 r10
     go_wp2_with fail
     first | go_end0 | refine bodyPost_ret (results_none rfl _ _ _) rfl ?_
     exact ⟨rfl, lo10, ro10, H10.out, Q10.out⟩
   ·rw [if_neg (by simp [eo])]
    dsimp only
    clear hrn
    go_enter Tryz.func69, Tryz.ntmps69
    go_wp2_with fail
    go_region_held3 (fun w' => w'.cell? ⟨tb, 0, none⟩ = some (.i t.cf.workers) ∧ w'.cell? ⟨tb, 1, none⟩ = some (.i t.cf.slots) ∧ w'.cell? ⟨tb, 2, none⟩ = some (.i t.cf.streams) ∧ w'.cell? ⟨tb, 3, none⟩ = some (.i t.cf.waiters) ∧ w'.cell? ⟨tb, 4, none⟩ = some (.i t.cf.uses) ∧ w'.cell? ⟨tb, 8, none⟩ = some (.i t.i)) (first | go_keep | (refine ⟨?_, ?_, ?_, ?_, ?_, ?_⟩ <;> first | assumption | (rw [World.cell?_setCell_other _ _ _ _ (by simp)]; assumption)))
     ((first
     | (go_at_call 94; refine (hsl _).mono ?_; rintro e w6 ⟨rfl, hb6⟩; have h6:=(H.out.below (Below.refl _ _).drew).below hb6; have d0 : w6.cell? ⟨tb, 0, none⟩ = some (.i t.cf.workers):=h6.cell 0; have d1 : w6.cell? ⟨tb, 1, none⟩ = some (.i t.cf.slots):=h6.cell 1; have d2 : w6.cell? ⟨tb, 2, none⟩ = some (.i t.cf.streams):=h6.cell 2; have d3 : w6.cell? ⟨tb, 3, none⟩ = some (.i t.cf.waiters):=h6.cell 3; have d4 : w6.cell? ⟨tb, 4, none⟩ = some (.i t.cf.uses):=h6.cell 4; have d8 : w6.cell? ⟨tb, 8, none⟩ = some (.i t.i):=h6.cell 8)
     | (go_at_call 19; refine (hld _ h6.mem).mono ?_; rintro e w7 ⟨rfl, hM7, hC7⟩; have h7:=h6.mems hC7 hM7; have k9:=h7.frozen 9; have k99 : w7.cell? ⟨tb, 9, none⟩ = some (.i t.word):=h7.cell 9; have k0 : w7.cell? ⟨tb, 0, none⟩ = some (.i t.cf.workers):=h7.cell 0; have k1 : w7.cell? ⟨tb, 1, none⟩ = some (.i t.cf.slots):=h7.cell 1; have k2 : w7.cell? ⟨tb, 2, none⟩ = some (.i t.cf.streams):=h7.cell 2; have k3 : w7.cell? ⟨tb, 3, none⟩ = some (.i t.cf.waiters):=h7.cell 3; have k4 : w7.cell? ⟨tb, 4, none⟩ = some (.i t.cf.uses):=h7.cell 4; have k8 : w7.cell? ⟨tb, 8, none⟩ = some (.i t.i):=h7.cell 8)))
    have q7:=(((TR.refl (W:=W) (tb:=tb) (mb:=mb) (wb:=wb) (lo:=lo) (ro:=ro)).below (Below.refl _ _).drew).below hb6).mem hC7
    have hD:=hdc w7 h7.laid
    have H7:=Lib.hid h7
    have Q7:=Lib.hid q7
    clear h7 q7 h6 hM7 hC7 hb6 hsl hld hdc k9 k99 d0 d1 d2 d3 d4 d8 c0 c1 c2 c3 c4 c8 k0 k1 k2 k3 k4 k8
    go_wp2_with fail
    refine hD.mono ?_
    rintro e w8 ⟨rfl, hb8⟩
    have h8:=H7.out.below hb8
    have q8:=Q7.out.below hb8
    dsimp only
    go_step
    refine gl (.tuple #[s.val, .bool true]) ?_
    refine gl s.val ?_
    refine gl (.bool true) ?_
    refine gbox (ob:=.cells zero9 30) (Z:=zero9) (cs:=s.cells) (t:=30) 30 (.tmp 7) (.tmp 23) rfl ?_
    refine gl (.bool true) ?_
    try simp only [Act.put, sA, sZ, sS]
    rw [setRow_new]
    have hb9 : Below w8.heap.size w8 (w8.alloc (.cells s.cells 30)):=(Below.refl _ _).alloc (Nat.le_refl _) _
    have hs9 : RowAt (w8.alloc (.cells s.cells 30)) w8.heap.size s.cells 30:=heap_alloc_new w8 _
    have h9:=h8.below hb9
    have q9:=q8.below hb9
    generalize (w8.alloc (.cells s.cells 30)) = w9 at *
    generalize w8.heap.size = sb at *
    have g5 : w9.cell? ⟨tb, 5, none⟩ = some (.i t.w):=h9.cell 5
    have g10 : w9.cell? ⟨tb, 10, none⟩ = some (.i t.gen):=h9.cell 10
    have s0 : w9.cell? ⟨sb, 0, none⟩ = some (.i 3):=(RowAt.cell hs9 0).trans (by show some (Value.int .i64 s.state) = _; first | rfl | rw [e3])
    have s1 : w9.cell? ⟨sb, 1, none⟩ = some (.i s.own):=(RowAt.cell hs9 1).trans (by show some (Value.int .i64 s.own) = _; first | rfl | rw [eo])
    have s6 : w9.cell? ⟨sb, 6, none⟩ = some (.i s.gen):=(RowAt.cell hs9 6).trans (by show some (Value.int .i64 s.gen) = _; first | rfl | rw [eg])
    have eo2 : (s.own == t.w) = false:=by simpa using eo
    have eo3 : (s.own != t.w) = true:=by simpa using eo
    have hcl:=tend_any (h9.below (Below.refl _ _).drew) 5
    have Q9:=Lib.hid (q9.below (Below.refl _ _).drew)
    clear h9 q9 h8 q8 hD hb8 hb9 hs9
    go_wp2_with fail
    go_region
    go_wp2_with fail
    refine hcl.mono ?_
    rintro e w10 ⟨rfl, lo10, ro10, h10, r10⟩
    have H10:=Lib.hid h10
    have Q10:=Lib.hid (Q9.out.trans r10)
    clear hcl h10 r10
    go_wp2_with fail
    first | go_end0 | refine bodyPost_ret (results_none rfl _ _ _) rfl ?_
    exact ⟨rfl, lo10, ro10, H10.out, Q10.out⟩
  ·rw [if_neg (by simp [e3])]
   dsimp only
   clear hrn
   go_enter Tryz.func69, Tryz.ntmps69
   go_wp2_with fail
   go_region_held3 (fun w' => w'.cell? ⟨tb, 0, none⟩ = some (.i t.cf.workers) ∧ w'.cell? ⟨tb, 1, none⟩ = some (.i t.cf.slots) ∧ w'.cell? ⟨tb, 2, none⟩ = some (.i t.cf.streams) ∧ w'.cell? ⟨tb, 3, none⟩ = some (.i t.cf.waiters) ∧ w'.cell? ⟨tb, 4, none⟩ = some (.i t.cf.uses) ∧ w'.cell? ⟨tb, 8, none⟩ = some (.i t.i)) (first | go_keep | (refine ⟨?_, ?_, ?_, ?_, ?_, ?_⟩ <;> first | assumption | (rw [World.cell?_setCell_other _ _ _ _ (by simp)]; assumption)))
    ((first
    | (go_at_call 94; refine (hsl _).mono ?_; rintro e w6 ⟨rfl, hb6⟩; have h6:=(H.out.below (Below.refl _ _).drew).below hb6; have d0 : w6.cell? ⟨tb, 0, none⟩ = some (.i t.cf.workers):=h6.cell 0; have d1 : w6.cell? ⟨tb, 1, none⟩ = some (.i t.cf.slots):=h6.cell 1; have d2 : w6.cell? ⟨tb, 2, none⟩ = some (.i t.cf.streams):=h6.cell 2; have d3 : w6.cell? ⟨tb, 3, none⟩ = some (.i t.cf.waiters):=h6.cell 3; have d4 : w6.cell? ⟨tb, 4, none⟩ = some (.i t.cf.uses):=h6.cell 4; have d8 : w6.cell? ⟨tb, 8, none⟩ = some (.i t.i):=h6.cell 8)
    | (go_at_call 19; refine (hld _ h6.mem).mono ?_; rintro e w7 ⟨rfl, hM7, hC7⟩; have h7:=h6.mems hC7 hM7; have k9:=h7.frozen 9; have k99 : w7.cell? ⟨tb, 9, none⟩ = some (.i t.word):=h7.cell 9; have k0 : w7.cell? ⟨tb, 0, none⟩ = some (.i t.cf.workers):=h7.cell 0; have k1 : w7.cell? ⟨tb, 1, none⟩ = some (.i t.cf.slots):=h7.cell 1; have k2 : w7.cell? ⟨tb, 2, none⟩ = some (.i t.cf.streams):=h7.cell 2; have k3 : w7.cell? ⟨tb, 3, none⟩ = some (.i t.cf.waiters):=h7.cell 3; have k4 : w7.cell? ⟨tb, 4, none⟩ = some (.i t.cf.uses):=h7.cell 4; have k8 : w7.cell? ⟨tb, 8, none⟩ = some (.i t.i):=h7.cell 8)))
   have q7:=(((TR.refl (W:=W) (tb:=tb) (mb:=mb) (wb:=wb) (lo:=lo) (ro:=ro)).below (Below.refl _ _).drew).below hb6).mem hC7
   have hD:=hdc w7 h7.laid
   have H7:=Lib.hid h7
   have Q7:=Lib.hid q7
   clear h7 q7 h6 hM7 hC7 hb6 hsl hld hdc k9 k99 d0 d1 d2 d3 d4 d8 c0 c1 c2 c3 c4 c8 k0 k1 k2 k3 k4 k8
   go_wp2_with fail
   refine hD.mono ?_
   rintro e w8 ⟨rfl, hb8⟩
   have h8:=H7.out.below hb8
   have q8:=Q7.out.below hb8
   dsimp only
   go_step
   refine gl (.tuple #[s.val, .bool true]) ?_
   refine gl s.val ?_
   refine gl (.bool true) ?_
   refine gbox (ob:=.cells zero9 30) (Z:=zero9) (cs:=s.cells) (t:=30) 30 (.tmp 7) (.tmp 23) rfl ?_
   refine gl (.bool true) ?_
   try simp only [Act.put, sA, sZ, sS]
   rw [setRow_new]
   have hb9 : Below w8.heap.size w8 (w8.alloc (.cells s.cells 30)):=(Below.refl _ _).alloc (Nat.le_refl _) _
   have hs9 : RowAt (w8.alloc (.cells s.cells 30)) w8.heap.size s.cells 30:=heap_alloc_new w8 _
   have h9:=h8.below hb9
   have q9:=q8.below hb9
   generalize (w8.alloc (.cells s.cells 30)) = w9 at *
   generalize w8.heap.size = sb at *
   have g5 : w9.cell? ⟨tb, 5, none⟩ = some (.i t.w):=h9.cell 5
   have g10 : w9.cell? ⟨tb, 10, none⟩ = some (.i t.gen):=h9.cell 10
   have s0 : w9.cell? ⟨sb, 0, none⟩ = some (.i s.state):=(RowAt.cell hs9 0).trans (by show some (Value.int .i64 s.state) = _; first | rfl | rw [e3])
   have s1 : w9.cell? ⟨sb, 1, none⟩ = some (.i s.own):=(RowAt.cell hs9 1).trans (by show some (Value.int .i64 s.own) = _; first | rfl | rw [eo])
   have s6 : w9.cell? ⟨sb, 6, none⟩ = some (.i s.gen):=(RowAt.cell hs9 6).trans (by show some (Value.int .i64 s.gen) = _; first | rfl | rw [eg])
   have e32 : (s.state == 3) = false:=by simpa using e3
   have e33 : (s.state != 3) = true:=by simpa using e3
   have hcl:=tend_any (h9.below (Below.refl _ _).drew) 5
   have Q9:=Lib.hid (q9.below (Below.refl _ _).drew)
   clear h9 q9 h8 q8 hD hb8 hb9 hs9
   go_wp2_with fail
   go_region
   go_wp2_with fail
   refine hcl.mono ?_
   rintro e w10 ⟨rfl, lo10, ro10, h10, r10⟩
   have H10:=Lib.hid h10
   have Q10:=Lib.hid (Q9.out.trans r10)
   clear hcl h10 r10
   go_wp2_with fail
   first | go_end0 | refine bodyPost_ret (results_none rfl _ _ _) rfl ?_
   exact ⟨rfl, lo10, ro10, H10.out, Q10.out⟩
theorem m_goes {W : World} {tb mb wb : Nat} {lo ro : Option Nat} {t : Tk.Tk} {ws : List Int} {tc : Int} (h : TkAt W tb mb wb lo ro t ws tc) (hok : Tk.TkOk t ws) (ht : 0 ≤ tc ∧ tc ≤ 4000000000000000000) (hk : t.st = 12) (good : Bool) : Calls Tryz.prog 70 #[.pointer (some ⟨tb, 0, none⟩), .pointer (some ⟨mb, 0, none⟩), .bool good] W (SPost W tb mb wb lo ro t ws tc good):=by
 unfold SPost
 obtain ⟨r, hl⟩:=hok.hasr hk
 have hro:=hok.rt r hl
 obtain ⟨rb, rfl, hR⟩:=h.ret r hl
 have hA:=h.ra rb rfl
 have hrt : t.ret = r:=by unfold Tk.Tk.ret; rw [hl]; rfl
 have hst:=rstep_any hR h.mem hA.1 ht h.laid hro.1 hro.2 (by have:=hok.len; omega)
 rw [Tk.st_12 hk, hrt]
 clear hR hrt hl hro
 generalize r.step ws = q at *
 obtain ⟨b, r', ws', n⟩:=q
 dsimp only at *
 have c12 : W.cell? ⟨tb, 12, none⟩ = some (.pointer (some ⟨rb, 0, none⟩)):=h.cell 12
 have H:=Lib.hid h
 clear h
 cases b
 ·rw [if_neg (by simp)]
  go_enter Tryz.func70, Tryz.ntmps70
  go_wp2_with fail
  refine hst.mono ?_
  rintro e w5 ⟨rfl, hR5, hM5, hC5⟩
  have h5:=H.out.rstep rfl hC5 hR5 hM5
  have q5:=(TR.refl (W:=W) (tb:=tb) (mb:=mb) (wb:=wb) (lo:=lo) (ro:=some rb)).chg hC5 (fun k e => e.elim (fun e => .inl (.inr (.inr (by rw [e])))) .inr)
  have H5:=Lib.hid h5
  have Q5:=Lib.hid q5
  clear h5 q5 hst c12 hR5 hM5 hC5
  go_wp2_with fail
  first | go_end0 | refine bodyPost_ret (results_none rfl _ _ _) rfl ?_
  exact ⟨rfl, lo, some rb, H5.out, Q5.out⟩
 ·rw [if_pos rfl]
  have hdn:=fun w (h : RtAt w rb r') => rdone_any h
  cases hsw : r'.swapped
  all_goals rw [hsw] at hdn
  ·rw [if_neg (by simp)]
   go_enter Tryz.func70, Tryz.ntmps70
   go_wp2_with fail
   refine hst.mono ?_
   rintro e w5 ⟨rfl, hR5, hM5, hC5⟩
   have h5:=H.out.rstep rfl hC5 hR5 hM5
   have q5:=(TR.refl (W:=W) (tb:=tb) (mb:=mb) (wb:=wb) (lo:=lo) (ro:=some rb)).chg hC5 (fun k e => e.elim (fun e => .inl (.inr (.inr (by rw [e])))) .inr)
   have d6 : w5.cell? ⟨tb, 6, none⟩ = some (.i t.st):=h5.cell 6
   have df6:=h5.frozen 6
   have d12 : w5.cell? ⟨tb, 12, none⟩ = some (.pointer (some ⟨rb, 0, none⟩)):=h5.cell 12
   have h6:=h5.put 6 (.i 11) { t with rt:=some r', st:=11 } rfl rfl rfl rfl
   have q6:=q5.set 6 (.i 11)
   obtain ⟨rb', hrb', hR6⟩:=h6.ret r' rfl
   cases hrb'
   have hdn6:=hdn _ hR6
   have H6:=Lib.hid h6
   have Q6:=Lib.hid q6
   clear h5 q5 h6 q6 hst c12 hR5 hM5 hC5 hR6 hdn
   go_wp2_with fail
   refine hdn6.mono ?_
   rintro e w7 ⟨rfl, hb7⟩
   have h7:=H6.out.below hb7
   have q7:=Q6.out.below hb7
   have H7:=Lib.hid h7
   have Q7:=Lib.hid q7
   clear h7 q7 hdn6 hb7
   go_wp2_with fail
   first | go_end0 | refine bodyPost_ret (results_none rfl _ _ _) rfl ?_
   exact ⟨rfl, lo, some rb, H7.out, Q7.out⟩
  ·rw [if_pos rfl]
   go_enter Tryz.func70, Tryz.ntmps70
   go_wp2_with fail
   refine hst.mono ?_
   rintro e w5 ⟨rfl, hR5, hM5, hC5⟩
   have h5:=H.out.rstep rfl hC5 hR5 hM5
   have q5:=(TR.refl (W:=W) (tb:=tb) (mb:=mb) (wb:=wb) (lo:=lo) (ro:=some rb)).chg hC5 (fun k e => e.elim (fun e => .inl (.inr (.inr (by rw [e])))) .inr)
   have d6 : w5.cell? ⟨tb, 6, none⟩ = some (.i t.st):=h5.cell 6
   have df6:=h5.frozen 6
   have d12 : w5.cell? ⟨tb, 12, none⟩ = some (.pointer (some ⟨rb, 0, none⟩)):=h5.cell 12
   have h6:=h5.put 6 (.i 11) { t with rt:=some r', st:=11 } rfl rfl rfl rfl
   have q6:=q5.set 6 (.i 11)
   obtain ⟨rb', hrb', hR6⟩:=h6.ret r' rfl
   cases hrb'
   have hdn6:=hdn _ hR6
   have H6:=Lib.hid h6
   have Q6:=Lib.hid q6
   clear h5 q5 h6 q6 hst c12 hR5 hM5 hC5 hR6 hdn
   go_wp2_with fail
   refine hdn6.mono ?_
   rintro e w7 ⟨rfl, hb7⟩
   have h7:=H6.out.below hb7
   have q7:=Q6.out.below hb7
   have hcl:=tend_any h7 5
   have Q7:=Lib.hid q7
   clear h7 q7 hdn6 hb7
   go_wp2_with fail
   refine hcl.mono ?_
   rintro e w8 ⟨rfl, lo8, ro8, h8, r8⟩
   have H8:=Lib.hid h8
   have Q8:=Lib.hid (Q7.out.trans r8)
   clear hcl h8 r8
   go_wp2_with fail
   first | go_end0 | refine bodyPost_ret (results_none rfl _ _ _) rfl ?_
   exact ⟨rfl, lo8, ro8, H8.out, Q8.out⟩
def tkfuns : List Value:=[.func (.func 58) #[] #[], .func (.func 59) #[] #[], .func (.func 60) #[] #[], .func (.func 61) #[] #[], .func (.func 62) #[] #[], .func (.func 63) #[] #[], .func (.func 64) #[] #[], .func (.func 65) #[] #[], .func (.func 66) #[] #[], .func (.func 67) #[] #[], .func (.func 68) #[] #[], .func (.func 69) #[] #[], .func (.func 70) #[] #[], .func (.func 71) #[] #[], .func (.func 72) #[] #[], .func (.func 73) #[] #[]]
abbrev nil16 : Array Value:=#[.nilFunc, .nilFunc, .nilFunc, .nilFunc, .nilFunc, .nilFunc, .nilFunc, .nilFunc, .nilFunc, .nilFunc, .nilFunc, .nilFunc, .nilFunc, .nilFunc, .nilFunc, .nilFunc]
theorem tstates_any (W : World) : Calls Tryz.prog 37 #[] W fun e W' => e = .returned (.agg ⟨tkfuns⟩) ∧ Below W.heap.size W W':=by
 have hz : RowAt (W.alloc (.cells nil16 87)) W.heap.size nil16 87:=heap_alloc_new W _
 have hB : Below W.heap.size W (W.alloc (.cells nil16 87)):=(Below.refl _ _).alloc (Nat.le_refl _) _
 go_enter Tryz.func37, Tryz.ntmps37
 go_upto_region 1 with (fail)
 refine wp_region_lit ?_
 refine gl (.agg ⟨tkfuns⟩) ?_
 refine gSt hz ⟨tkfuns⟩ 87 (.tmp 0) (.tmp 1) ?_
 go_wp2_with fail
 refine bR1 W.heap.size (hz.set ⟨tkfuns⟩) Tryz.underlying87 ?_
 exact ⟨rfl, bSetRow hB (Nat.le_refl _) _⟩
theorem eq15 (n : Nat) : ((n : Int) == 15) = decide (n = 15):=by
 rw [Bool.eq_iff_iff]
 simp
 omega
theorem tk_index (W : World) {st G : Nat} (hF : tkfuns[st]? = some (.func (.func G) #[] #[])) : (Instr.index 87 (.agg ⟨tkfuns⟩) (.i st)).run Tryz.prog W = .ok (.func (.func G) #[] #[]) W:=by
 have hl : st < 16:=by
  have:=(List.getElem?_eq_some_iff.1 hF).1
  simpa [tkfuns] using this
 have hcases : st = 0 ∨ st = 1 ∨ st = 2 ∨ st = 3 ∨ st = 4 ∨ st = 5 ∨ st = 6 ∨ st = 7 ∨ st = 8 ∨ st = 9 ∨ st = 10 ∨ st = 11 ∨ st = 12 ∨ st = 13 ∨ st = 14 ∨ st = 15:=by omega
 rcases hcases with rfl | rfl | rfl | rfl | rfl | rfl | rfl | rfl | rfl | rfl | rfl | rfl | rfl | rfl | rfl | rfl <;> (cases hF; rfl)
theorem tmeth_any {t : Tk.Tk} {ws : List Int} (hok : Tk.TkOk t ws) : ∃ F, (∀ args w, (callFunc F args).run Tryz.prog w = .ok (.enter F args) w) ∧ tkfuns[t.st]? = some (.func (.func F) #[] #[]) ∧
  ∀ {W : World} {tb mb wb : Nat} {lo ro : Option Nat} {tc : Int}, TkAt W tb mb wb lo ro t ws tc → 0 ≤ tc ∧ tc ≤ 4000000000000000000 → ∀ good, Calls Tryz.prog F #[.pointer (some ⟨tb, 0, none⟩), .pointer (some ⟨mb, 0, none⟩), .bool good] W (SPost W tb mb wb lo ro t ws tc good):=by
 have hst:=hok.st
 have hcases : t.st = 0 ∨ t.st = 1 ∨ t.st = 2 ∨ t.st = 3 ∨ t.st = 4 ∨ t.st = 5 ∨ t.st = 6 ∨ t.st = 7 ∨ t.st = 8 ∨ t.st = 9 ∨ t.st = 10 ∨ t.st = 11 ∨ t.st = 12 ∨ t.st = 13 ∨ t.st = 14 ∨ t.st = 15:=by omega
 rcases hcases with hk | hk | hk | hk | hk | hk | hk | hk | hk | hk | hk | hk | hk | hk | hk | hk
 ·exact ⟨_, enters_of Tryz.func58 (by kernel_rfl) rfl, by rw [hk]; rfl, fun h ht good => m_closed h hok ht hk good⟩
 ·exact ⟨_, enters_of Tryz.func59 (by kernel_rfl) rfl, by rw [hk]; rfl, fun h ht good => m_own h hok ht hk good⟩
 ·exact ⟨_, enters_of Tryz.func60 (by kernel_rfl) rfl, by rw [hk]; rfl, fun h ht good => m_ownSwap h hok ht hk good⟩
 ·exact ⟨_, enters_of Tryz.func61 (by kernel_rfl) rfl, by rw [hk]; rfl, fun h ht good => m_any h hok ht hk good⟩
 ·exact ⟨_, enters_of Tryz.func62 (by kernel_rfl) rfl, by rw [hk]; rfl, fun h ht good => m_anySwap h hok ht hk good⟩
 ·exact ⟨_, enters_of Tryz.func63 (by kernel_rfl) rfl, by rw [hk]; rfl, fun h ht good => m_move h hok ht hk good⟩
 ·exact ⟨_, enters_of Tryz.func64 (by kernel_rfl) rfl, by rw [hk]; rfl, fun h ht good => m_moveSwap h hok ht hk good⟩
 ·exact ⟨_, enters_of Tryz.func65 (by kernel_rfl) rfl, by rw [hk]; rfl, fun h ht good => m_free h hok ht hk good⟩
 ·exact ⟨_, enters_of Tryz.func66 (by kernel_rfl) rfl, by rw [hk]; rfl, fun h ht good => m_freeSwap h hok ht hk good⟩
 ·exact ⟨_, enters_of Tryz.func67 (by kernel_rfl) rfl, by rw [hk]; rfl, fun h ht good => m_dial h hok ht hk good⟩
 ·exact ⟨_, enters_of Tryz.func68 (by kernel_rfl) rfl, by rw [hk]; rfl, fun h ht good => m_check h hok ht hk good⟩
 ·exact ⟨_, enters_of Tryz.func69 (by kernel_rfl) rfl, by rw [hk]; rfl, fun h ht good => m_back h hok ht hk good⟩
 ·exact ⟨_, enters_of Tryz.func70 (by kernel_rfl) rfl, by rw [hk]; rfl, fun h ht good => m_goes h hok ht hk good⟩
 ·exact ⟨_, enters_of Tryz.func71 (by kernel_rfl) rfl, by rw [hk]; rfl, fun h ht good => m_grant h hok ht hk good⟩
 ·exact ⟨_, enters_of Tryz.func72 (by kernel_rfl) rfl, by rw [hk]; rfl, fun h ht good => m_grantSwap h hok ht hk good⟩
 ·refine ⟨_, enters_of Tryz.func73 (by kernel_rfl) rfl, by rw [hk]; rfl, fun h ht good => ?_⟩
  unfold SPost
  rw [Tk.st_15 hk]
  refine (rest_step h good).mono ?_
  rintro e w' ⟨rfl, lo', ro', h', r'⟩
  exact ⟨rfl, lo', ro', by simpa using h', r'⟩
def StepPost (W : World) (tb mb wb : Nat) (lo ro : Option Nat) (t : Tk.Tk) (ws : List Int) (tc : Int) (good : Bool) : Ending → World → Prop :=
 TPost W tb mb wb lo ro (.bool (decide ((t.step ws good).1.st = 15))) (t.step ws good).1 (t.step ws good).2.1 (tc + (t.step ws good).2.2)
theorem tstep_any {W : World} {tb mb wb : Nat} {lo ro : Option Nat} {t : Tk.Tk} {ws : List Int} {tc : Int} (h : TkAt W tb mb wb lo ro t ws tc) (hok : Tk.TkOk t ws) (ht : 0 ≤ tc ∧ tc ≤ 4000000000000000000) (good : Bool) : Calls Tryz.prog 15 #[.pointer (some ⟨tb, 0, none⟩), .pointer (some ⟨mb, 0, none⟩), .bool good] W (StepPost W tb mb wb lo ro t ws tc good):=by
 unfold StepPost
 have hst:=hok.st
 obtain ⟨G, hE, hF, hm⟩:=tmeth_any hok
 have hm2:=fun w (h : TkAt w tb mb wb lo ro t ws tc) => hm h ht good
 unfold SPost at hm2
 generalize t.step ws good = q at *
 obtain ⟨t', ws', n⟩:=q
 dsimp only at *
 have c6 : W.cell? ⟨tb, 6, none⟩ = some (.i t.st):=h.cell 6
 have H:=Lib.hid h
 clear h hm
 go_enter Tryz.func15, Tryz.ntmps15
 go_upto_region 1 with (fail)
 refine wp_region_held_drew (S:=fun w' => True) (by kernel_rfl) trivial (fun hHeld => ?_)
 refine tKg 1 8 hHeld ?_
 try simp only [Act.put, sA, sZ, sS]
 refine tKg 2 9 hHeld ?_
 try simp only [Act.put, sA, sZ, sS]
 refine tKg 3 10 hHeld ?_
 try simp only [Act.put, sA, sZ, sS]
 refine tKg 6 13 hHeld ?_
 try simp only [Act.put, sA, sZ, sS]
 refine tKg 7 14 hHeld ?_
 try simp only [Act.put, sA, sZ, sS]
 refine tKg 8 15 hHeld ?_
 try simp only [Act.put, sA, sZ, sS]
 refine ready2 (i:=0) (k:=4) (by kernel_rfl) ?_ ?_
 ·refine step_call 37 #[] #[] (some 7) none (by kernel_rfl) (by kernel_rfl) #[] (by kernel_rfl) (enters_of Tryz.func37 (by kernel_rfl) rfl) ?_
  refine (tstates_any _).mono ?_
  rintro e w5 ⟨rfl, hb5⟩
  have h5:=(H.out.below (Below.refl _ _).drew).below hb5
  have Q5:=Lib.hid (((TR.refl (W:=W) (tb:=tb) (mb:=mb) (wb:=wb) (lo:=lo) (ro:=ro)).below (Below.refl _ _).drew).below hb5)
  have hS5:=hm2 w5 h5
  have e6 : w5.cell? ⟨tb, 6, none⟩ = some (.i t.st):=h5.cell 6
  clear h5
  refine ⟨_, rfl, trivial, fun hHeld => ?_⟩
  try simp only [Act.put, sA, sZ, sS]
  refine rK 4 11 (.i t.st) hHeld ?_ (by go_simp; try with_reducible rfl)
  try simp only [Act.put, sA, sZ, sS]
  have hix:=tk_index w5 hF
  refine rK 5 12 (.func (.func G) #[] #[]) hHeld ?_ (by go_simp; try with_reducible rfl)
  try simp only [Act.put, sA, sZ, sS]
  refine rKt (i:=9) G 12 #[.tmp 13, .tmp 14, .tmp 15] #[34, 32, 4] (some 16) none #[.pointer (some ⟨tb, 0, none⟩), .pointer (some ⟨mb, 0, none⟩), .bool good] hE (by kernel_rfl) ?_
  refine hS5.mono ?_
  rintro e w6 ⟨rfl, lo6, ro6, h6, r6⟩
  refine ⟨_, rfl, trivial, fun hHeld => ?_⟩
  try simp only [Act.put, sA, sZ, sS]
  refine wpAnyH_done (by kernel_rfl) ?_ _
  have q6:=Q5.out.trans r6
  have d6 : w6.cell? ⟨tb, 6, none⟩ = some (.i t'.st):=h6.cell 6
  have H6:=Lib.hid h6
  have Q6:=Lib.hid q6
  clear h6 r6 q6 hS5
  go_wp2_with fail
  go_ret
  exact ⟨Base.ret_bool (eq15 _), lo6, ro6, H6.out, Q6.out⟩
 ·refine step_run (some 11) (.i t.st) (by kernel_rfl) (by kernel_rfl) (by go_simp; try with_reducible rfl) trivial (fun hHeld => ?_)
  try simp only [Act.put, sA, sZ, sS]
  refine rKc (i:=0) 37 #[] #[] (some 7) none #[] (enters_of Tryz.func37 (by kernel_rfl) rfl) ?_
  refine (tstates_any _).mono ?_
  rintro e w5 ⟨rfl, hb5⟩
  have h5:=(H.out.below (Below.refl _ _).drew).below hb5
  have Q5:=Lib.hid (((TR.refl (W:=W) (tb:=tb) (mb:=mb) (wb:=wb) (lo:=lo) (ro:=ro)).below (Below.refl _ _).drew).below hb5)
  have hS5:=hm2 w5 h5
  have e6 : w5.cell? ⟨tb, 6, none⟩ = some (.i t.st):=h5.cell 6
  clear h5
  refine ⟨_, rfl, trivial, fun hHeld => ?_⟩
  try simp only [Act.put, sA, sZ, sS]
  have hix:=tk_index w5 hF
  refine rK 5 12 (.func (.func G) #[] #[]) hHeld ?_ (by go_simp; try with_reducible rfl)
  try simp only [Act.put, sA, sZ, sS]
  refine rKt (i:=9) G 12 #[.tmp 13, .tmp 14, .tmp 15] #[34, 32, 4] (some 16) none #[.pointer (some ⟨tb, 0, none⟩), .pointer (some ⟨mb, 0, none⟩), .bool good] hE (by kernel_rfl) ?_
  refine hS5.mono ?_
  rintro e w6 ⟨rfl, lo6, ro6, h6, r6⟩
  refine ⟨_, rfl, trivial, fun hHeld => ?_⟩
  try simp only [Act.put, sA, sZ, sS]
  refine wpAnyH_done (by kernel_rfl) ?_ _
  have q6:=Q5.out.trans r6
  have d6 : w6.cell? ⟨tb, 6, none⟩ = some (.i t'.st):=h6.cell 6
  have H6:=Lib.hid h6
  have Q6:=Lib.hid q6
  clear h6 r6 q6 hS5
  go_wp2_with fail
  go_ret
  exact ⟨Base.ret_bool (eq15 _), lo6, ro6, H6.out, Q6.out⟩
theorem put_take {l : List Int} {k : Nat} {x : Int} (hk : k < l.length) (hx : l[k]? = some x) : (l.take k ++ List.replicate (l.length - k) 0).set k x = l.take (k + 1) ++ List.replicate (l.length - (k + 1)) 0:=by
 have e : l.length - k = (l.length - (k + 1)) + 1:=by omega
 have e1 : (l.take k).length = k:=by rw [List.length_take]; omega
 rw [List.set_append_right _ _ (by omega), e1, Nat.sub_self, e, List.replicate_succ, List.set_cons_zero, List.take_add_one, hx]
 simp
theorem laid_any (W : World) (c : Conf.Cf) (hr : c.right = true) (g o cap : Nat) (l : List Int) (hl : l.length = Tk.sc c (Tk.ns c)) (hs : IntsB W g o l) :
  Calls Tryz.prog 13 #[c.val, .slice (some ⟨g, o, none⟩) l.length cap] W fun e W' => ∃ mb wb, e = .returned (.pointer (some ⟨mb, 0, none⟩)) ∧ CAt W' mb wb l l.length ∧ W.heap.size ≤ mb ∧ W.heap.size ≤ wb ∧ Below W.heap.size W W':=by
 have hm:=fun w => mem_any w c hr
 rw [← hl] at hm
 have hlen : 1 ≤ l.length ∧ l.length ≤ 4096:=by
  obtain ⟨⟨a0, a1⟩, b0, b1⟩:=right_small hr
  rw [hl]; unfold Tk.sc Tk.ns; omega
 clear hl hr
 obtain ⟨cw, cs, cst, cwa, cu⟩:=c
 simp only [Conf.Cf.val, Conf.Cf.cells] at hm
 have hA : Below W.heap.size W (W.alloc (.cells (Aa cw cs cst cwa cu) 25)):=(Below.refl _ _).alloc (Nat.le_refl _) _
 go_enter Tryz.func13, Tryz.ntmps13
 simp only [Conf.Cf.val, Conf.Cf.cells]
 go_wp2_with fail
 refine (hm _).mono ?_
 rintro e w1 ⟨mb, wb, rfl, hM, h1, h2, hb⟩
 have hB:=hA.trans (hb.mono hA.size)
 have hs1:=hA.size
 have hmb : W.heap.size ≤ mb:=by omega
 have hwb : W.heap.size ≤ wb:=by omega
 clear hm hb hA h1 h2 hs1
 have HM:=Lib.hid hM
 have HB:=Lib.hid hB
 have HS:=Lib.hid hs
 have HL:=Lib.hid hlen
 clear hM hB hs hlen
 go_wp2_with fail
 go_loopw [7] (fun i wr => ∃ k : Nat, k ≤ l.length ∧ i = .i k ∧ CAt wr mb wb (l.take k ++ List.replicate (l.length - k) 0) k ∧ Below W.heap.size W wr) (fun i _ => l.length - (intOf i).toNat)
 case atStart => exact ⟨0, by omega, rfl, by simpa using HM.out, HB.out⟩
 case round =>
  obtain ⟨k, hk, rfl, hM, hB⟩:=hrel
  by_cases hlt : k < l.length
  ·obtain ⟨x, hx⟩ : ∃ x, l[k]? = some x:=⟨_, List.getElem?_eq_getElem hlt⟩
   have e1:=Field.bkeep hB (HS.out k x hx)
   have hzl : (l.take k ++ List.replicate (l.length - k) 0)[k]? = some (0 : Int):=by
    have e1 : (l.take k).length = k:=by rw [List.length_take]; omega
    rw [List.getElem?_append_right (by omega), e1, Nat.sub_self, List.getElem?_replicate]
    simp; omega
   have hst:=fun w (h : CAt w mb wb (l.take k ++ List.replicate (l.length - k) 0) (k : Int)) => store_any h ⟨by omega, by have:=HL.out.2; omega⟩ k 0 hzl x
   rw [put_take hlt hx] at hst
   have hMd:=fun (w : World) (h : Below w1.heap.size w1 w) => hM
   have k0 : (0 : Int) ≤ (k : Int):=by omega
   have k1 : (k : Int) < (l.length : Int):=by omega
   have k2 : (k : Int) ≤ (l.length : Int) - 1:=by omega
   have kb : k ≤ 4096:=by have:=HL.out.2; omega
   have HMk:=Lib.hid hM
   have HBk:=Lib.hid hB
   have Hx:=Lib.hid hx
   clear hM hB hx hzl hMd
   go_wp2_with fail
   refine (hst _ (HMk.out.below (Below.refl _ _))).mono ?_
   rintro e w3 ⟨rfl, hM3, hC3⟩
   have hB3:=HBk.out.trans ((hC3.below (B:=W.heap.size) HBk.out.size (fun q hq => by rcases hq with rfl | rfl <;> assumption)))
   have HM3:=Lib.hid hM3
   have HB3:=Lib.hid hB3
   clear hst hM3 hC3 hB3
   go_wp2_with fail
   go_roundw
   case rel => exact ⟨k + 1, by omega, by go_num, by simpa using HM3.out, HB3.out⟩
   case measure => simp [intOf]; omega
  ·have hke : k = l.length:=by omega
   subst hke
   have HMk:=Lib.hid hM
   have HBk:=Lib.hid hB
   clear hM hB
   go_wp2_with fail
   go_ret
   exact ⟨mb, wb, rfl, by simpa using HMk.out, hmb, hwb, HBk.out⟩
def AlonePost (W : World) (tb mb wb : Nat) (lo ro : Option Nat) (r : Nat × Tk.Tk × List Int) (tc : Int) (m : Nat) (e : Ending) (W' : World) : Prop :=
 e = .returned (.i r.1) ∧ ∃ lo' ro' tc', TkAt W' tb mb wb lo' ro' r.2.1 r.2.2 tc' ∧ (tc ≤ tc' ∧ tc' ≤ tc + m) ∧ TR W tb mb wb lo ro W' lo' ro'
theorem alone_any {W : World} {tb mb wb : Nat} {lo ro : Option Nat} {t : Tk.Tk} {ws : List Int} {tc : Int} (h : TkAt W tb mb wb lo ro t ws tc) (hok : Tk.TkOk t ws) (ht : 0 ≤ tc ∧ tc ≤ 1000000000000) (good : Bool) :
  Calls Tryz.prog 16 #[.pointer (some ⟨mb, 0, none⟩), .pointer (some ⟨tb, 0, none⟩), .bool good] W (AlonePost W tb mb wb lo ro (Tk.alone good 200 0 t ws) tc 200):=by
 have H:=Lib.hid h
 clear h
 have hal : ∀ r, r = Tk.alone good 200 0 t ws → Tk.alone good (200 - 0) 0 t ws = r:=fun r e => e.symm
 generalize hr : Tk.alone good 200 0 t ws = r at *
 have HR:=Lib.hid hr
 clear hr hal
 go_enter Tryz.func16, Tryz.ntmps16
 go_wp2_with fail
 go_loopw [7] (fun i wr => ∃ (k : Nat) (t' : Tk.Tk) (ws' : List Int) (lo' ro' : Option Nat) (tc' : Int), k ≤ 200 ∧ i = .i k ∧ RowKit.Hid (Tk.alone good (200 - k) k t' ws' = r) ∧ RowKit.Hid (TkAt wr tb mb wb lo' ro' t' ws' tc') ∧ Tk.TkOk t' ws' ∧ (tc ≤ tc' ∧ tc' ≤ tc + k) ∧ RowKit.Hid (TR W tb mb wb lo ro wr lo' ro')) (fun i _ => 200 - (intOf i).toNat)
 case atStart => exact ⟨0, t, ws, lo, ro, tc, by omega, rfl, HR.out, H.out, hok, by omega, TR.refl⟩
 case round =>
  obtain ⟨k, t', ws', lo', ro', tc', hk, rfl, hA, hT, hO, hc, hQ⟩:=hrel
  clear hok H HR
  by_cases hlt : k < 200
  ·have hst:=tstep_any hT.out hO ⟨by omega, by omega⟩ good
   have hfew:=Tk.step_few t' ws' good
   have hok':=hO.step good
   have e2 : 200 - k = (200 - (k + 1)) + 1:=by omega
   have hA2:=hA.out
   rw [e2] at hA2
   unfold StepPost at hst
   have k1 : (k : Int) < 200:=by omega
   by_cases hd : (t'.step ws' good).1.st = 15
   ·rw [Tk.alone_yes good hd] at hA2
    rw [decide_eq_true hd] at hst
    clear hok' hd hT hO
    generalize t'.step ws' good = q at *
    obtain ⟨t2, ws2, n⟩:=q
    subst hA2
    dsimp only at *
    go_wp2_with fail
    refine hst.mono ?_
    rintro e w3 ⟨rfl, lo3, ro3, h3, r3⟩
    have q3 : TR W tb mb wb lo ro w3 lo3 ro3:=hQ.out.trans r3
    have H3:=Lib.hid h3
    have Q3:=Lib.hid q3
    clear hst h3 r3 q3
    go_wp2_with fail
    go_ret
    exact ⟨by simp, lo3, ro3, _, H3.out, ⟨by omega, by omega⟩, Q3.out⟩
   ·rw [Tk.alone_no good hd] at hA2
    rw [decide_eq_false hd] at hst
    clear hd hT hO hA
    generalize t'.step ws' good = q at *
    obtain ⟨t2, ws2, n⟩:=q
    dsimp only at *
    have HA2:=Lib.hid hA2
    clear hA2
    go_wp2_with fail
    refine hst.mono ?_
    rintro e w3 ⟨rfl, lo3, ro3, h3, r3⟩
    have q3 : TR W tb mb wb lo ro w3 lo3 ro3:=hQ.out.trans r3
    have H3:=Lib.hid h3
    have Q3:=Lib.hid q3
    clear hst h3 r3 q3
    go_wp2_with fail
    go_roundw
    case rel => exact ⟨k + 1, t2, ws2, lo3, ro3, tc' + n, by omega, by go_num, HA2, H3, hok', by omega, Q3⟩
    case measure => simp [intOf]; omega
  ·have hke : k = 200:=by omega
   subst hke
   have hA2:=hA.out
   simp only [Nat.sub_self, Tk.alone] at hA2
   subst hA2
   clear hO
   go_wp2_with fail
   go_ret
   exact ⟨by simp, lo', ro', tc', hT.out, ⟨by omega, by omega⟩, hQ.out⟩
theorem TR.toBelow {W W' : World} {tb mb wb B : Nat} {lo ro : Option Nat} (h : TR W tb mb wb none none W' lo ro) (ht : B ≤ tb) (hm : B ≤ mb) (hw : B ≤ wb) (hB : B ≤ W.heap.size) : Below B W W' :=
 h.2.2.below hB (fun k hk => by rcases hk with (rfl | hk | hk) | rfl | rfl; exact ht; cases hk; cases hk; exact hm; exact hw)
def awC : Conf.Cf:=⟨1, 1, 0, 0, 1⟩
def awS : S:=⟨2, 0, 0, false, false, 0, 0, 0, 0⟩
def awW : List Int:=[0, 0, 0, 0, 0, 2]
theorem aw_word : docW awS = 2:=by kernel_rfl
theorem aw_run : (Tk.alone true 9 0 (Tk.Tk.new awC 0) awW).1 = 4 ∧ (Tk.alone true 9 0 (Tk.Tk.new awC 0) awW).2.1.answer = (0, 0, 1):=⟨by kernel_rfl, by kernel_rfl⟩
theorem new_ok {c : Conf.Cf} {w : Int} {ws : List Int} (hr : c.right = true) (hw : 0 ≤ w ∧ w ≤ 15) (hl : ws.length = Tk.sc c (Tk.ns c)) : Tk.TkOk (Tk.Tk.new c w) ws:=by
 obtain ⟨a, b⟩:=right_small hr
 refine ⟨⟨by show 0 ≤ c.workers ∧ c.workers ≤ 8; omega, by show 0 ≤ c.slots ∧ c.slots ≤ 100; omega⟩, ?_, hw, ?_, ?_, fun f h => (nomatch h), fun h => absurd h (by simp [Tk.Tk.new]), fun r h => (nomatch h), fun h => absurd h (by simp [Tk.Tk.new]), by simp [Tk.Tk.new]⟩
 ·unfold Tk.ns Tk.Tk.new; dsimp only; omega
 ·rw [hl]; unfold Tk.sc Tk.Tk.new; rfl
 ·unfold Tk.ns Tk.Tk.new; dsimp only; omega
theorem awake_any (W : World) (hL : Laid W) : Calls Tryz.prog 9 #[] W fun e W' => e = .returned (.bool true) ∧ Below W.heap.size W W':=by
 have hwd:=fun w => ref_word_any w awS
 rw [aw_word] at hwd
 have hld:=fun w g h => laid_any w awC (by kernel_rfl) g 0 6 awW (by kernel_rfl) h
 have hnw:=fun w => tnew_any w awC 0
 simp only [S.val, S.cells, awS] at hwd
 have e6 : awW.length = 6:=rfl
 rw [e6] at hld
 have hA : Below W.heap.size W (W.alloc (.cells (Aa 1 1 0 0 1) 25)):=(Below.refl _ _).alloc (Nat.le_refl _) _
 have hrow : RowAt (W.alloc (.cells (Aa 1 1 0 0 1) 25)) W.heap.size (Aa 1 1 0 0 1) 25:=RowAt.new _ _ _
 have hcv : awC.val = .agg (Aa 1 1 0 0 1):=rfl
 rw [hcv] at hld hnw
 go_enter Tryz.func9, Tryz.ntmps9
 go_upto_region 2 with (fail)
 generalize (W.alloc (.cells (Aa 1 1 0 0 1) 25)) = w0 at *
 refine wp_region_held_drew (S:=fun w' => Below W.heap.size W w' ∧ RowAt w' W.heap.size (Aa 1 1 0 0 1) 25) (by kernel_rfl) (by exact ⟨hA.drew, hrow⟩) (fun hHeld => ?_)
 refine tKw (gd:=none) 0 9 (.load 25 (.tmp 1)) (.agg (Aa 1 1 0 0 1)) (run_load_row 25 (.tmp 1) W.heap.size 25 (Aa 1 1 0 0 1) _ (by kernel_rfl) Tryz.underlying25 rfl (by kernel_rfl) (fun w h => h.2)) hHeld ?_
 try simp only [Act.put, sA, sZ, sS]
 refine tKg 1 10 hHeld ?_
 try simp only [Act.put, sA, sZ, sS]
 refine rKc (i:=2) 11 #[.tmp 10] #[30] (some 11) none #[.agg (Ab 2 0 0 false false 0 0 0 0)] (enters_of Tryz.func11 (by kernel_rfl) rfl) ?_
 refine (hwd _).mono ?_
 rintro e w1 ⟨rfl, hb1⟩
 have hb1:=(Below.refl w0.heap.size w0).drew.trans hb1
 have hB1:=hA.trans (hb1.mono hA.size)
 have hr1 : RowAt w1 W.heap.size (Aa 1 1 0 0 1) 25:=RowAt.below hrow hb1
 refine ⟨_, rfl, ⟨hB1, hr1⟩, fun hHeld => ?_⟩
 try simp only [Act.put, sA, sZ, sS]
 have hB2 : Below W.heap.size W (w1.alloc (.cells (Array.mk (awW.map (Value.int .i64))) 3)):=hB1.alloc hB1.size _
 have hr2 : RowAt (w1.alloc (.cells (Array.mk (awW.map (Value.int .i64))) 3)) W.heap.size (Aa 1 1 0 0 1) 25:=RowAt.below hr1 ((Below.refl _ _).alloc (Nat.le_refl _) _)
 have hw2 : WRow (w1.alloc (.cells (Array.mk (awW.map (Value.int .i64))) 3)) w1.heap.size awW:=RowAt.new w1 _ _
 refine ready1 (i:=3) (by kernel_rfl) (step_run (w':=w1.alloc (.cells (Array.mk (awW.map (Value.int .i64))) 3)) (some 12) (.slice (some ⟨w1.heap.size, 0, none⟩) 6 6) (by kernel_rfl) (by kernel_rfl) (by kernel_rfl) ⟨hB2, hr2⟩ (fun hHeld => ?_))
 try simp only [Act.put, sA, sZ, sS]
 generalize (w1.alloc (.cells (Array.mk (awW.map (Value.int .i64))) 3)) = w2 at *
 generalize w1.heap.size = gb at *
 refine rKc (i:=4) 13 #[.tmp 9, .tmp 12] #[25, 26] (some 13) none #[.agg (Aa 1 1 0 0 1), .slice (some ⟨gb, 0, none⟩) 6 6] (enters_of Tryz.func13 (by kernel_rfl) rfl) ?_
 refine (hld _ gb (fun k x hx => by rw [Nat.zero_add]; exact hw2.get hx)).mono ?_
 rintro e w3 ⟨mb, wb, rfl, hM3, hm1, hm2, hb3⟩
 have hB3:=hB2.trans (hb3.mono hB2.size)
 have hr3 : RowAt w3 W.heap.size (Aa 1 1 0 0 1) 25:=RowAt.below hr2 hb3
 refine ⟨_, rfl, ⟨hB3, hr3⟩, fun hHeld => ?_⟩
 try simp only [Act.put, sA, sZ, sS]
 refine tKg 5 2 hHeld ?_
 try simp only [Act.put, sA, sZ, sS]
 refine wpAnyH_done (by kernel_rfl) ?_ _
 have hmb : W.heap.size < mb:=by have:=RowAt.lt hr2; omega
 have hwb : W.heap.size < wb:=by have:=RowAt.lt hr2; omega
 have H3:=Lib.hid hM3
 have HB3:=Lib.hid hB3
 clear hwd hld hA hrow hb1 hB1 hr1 hB2 hr2 hw2 hm1 hm2 hb3 hHeld hM3 hB3
 go_upto_region 3 with (fail)
 refine wp_region_lit ?_
 refine grow hr3 25 (.tmp 1) Tryz.underlying25 ?_
 try simp only [Act.put, sA, sZ, sS]
 refine gcall 14 #[.tmp 14, .const (.i 0)] #[25, 3] #[.agg (Aa 1 1 0 0 1), .i 0] (enters_of Tryz.func14 (by kernel_rfl) rfl) ?_
 refine (hnw _).mono ?_
 rintro e w4 ⟨tb, rfl, hT4, ht4, hb4⟩
 refine ⟨_, rfl, ?_⟩
 have hL3 : Laid w3:=hL.stable (HB3.out.block 0 (hL.lt (by decide)))
 have hW0 : 0 < W.heap.size:=hL.lt (by decide)
 have h4:=TkAt.fresh H3.out hL3 (by omega) (by omega) hb4 ht4 hT4 rfl rfl
 have hB4:=HB3.out.trans (hb4.mono HB3.out.size)
 have htb : W.heap.size < tb:=by have:=RowAt.lt hr3; omega
 have hok:=new_ok (c:=awC) (w:=0) (ws:=awW) (by kernel_rfl) (by omega) (by kernel_rfl)
 obtain ⟨hr1, hr2⟩:=aw_run
 generalize hr : Tk.alone true 9 0 (Tk.Tk.new awC 0) awW = r at *
 have HR:=Lib.hid hr
 have H4:=Lib.hid h4
 have HB4:=Lib.hid hB4
 have HR1:=Lib.hid hr1
 have HR2:=Lib.hid hr2
 clear hr h4 hB4 hnw hr3 H3 HB3 hT4 ht4 hb4 hL3 hr1 hr2
 dsimp only
 go_wp2_with fail
 go_loopw [4] (fun i wr => ∃ (k : Nat) (t' : Tk.Tk) (ws' : List Int) (lo' ro' : Option Nat) (tc' : Int), k ≤ 9 ∧ i = .i k ∧ RowKit.Hid (Tk.alone true (9 - k) k t' ws' = r) ∧ RowKit.Hid (TkAt wr tb mb wb lo' ro' t' ws' tc') ∧ Tk.TkOk t' ws' ∧ (0 ≤ tc' ∧ tc' ≤ 100 + k) ∧ RowKit.Hid (TR w4 tb mb wb none none wr lo' ro')) (fun i _ => 9 - (intOf i).toNat)
 case atStart => exact ⟨0, _, _, none, none, _, by omega, rfl, HR, H4, hok, by simp [awW], TR.refl⟩
 case round =>
  obtain ⟨k, t', ws', lo', ro', tc', hk, rfl, hA, hT, hO, hc, hQ⟩:=hrel
  clear hok H4 HR
  by_cases hlt : k < 9
  ·have hst:=tstep_any hT.out hO ⟨by omega, by omega⟩ true
   have hfew:=Tk.step_few t' ws' true
   have hok':=hO.step true
   have e2 : 9 - k = (9 - (k + 1)) + 1:=by omega
   have hA2:=hA.out
   rw [e2] at hA2
   unfold StepPost at hst
   have k1 : (k : Int) < 9:=by omega
   by_cases hd : (t'.step ws' true).1.st = 15
   ·rw [Tk.alone_yes true hd] at hA2
    rw [decide_eq_true hd] at hst
    clear hok' hd hT hO
    generalize t'.step ws' true = q at *
    obtain ⟨t2, ws2, n⟩:=q
    subst hA2
    dsimp only at *
    obtain rfl : k = 3:=by have:=HR1.out; omega
    have hans:=HR2.out
    have HAN:=Lib.hid hans
    clear hans
    go_wp2_with fail
    refine hst.mono ?_
    rintro e w5 ⟨rfl, lo5, ro5, h5, r5⟩
    have q5 : TR w4 tb mb wb none none w5 lo5 ro5:=hQ.out.trans r5
    have han:=answer_any h5
    rw [HAN.out] at han
    have HB5:=Lib.hid (HB4.out.trans (q5.toBelow (by omega) (by omega) (by omega) HB4.out.size))
    clear hst h5 r5 q5
    go_wp2_with fail
    refine han.mono ?_
    rintro e w6 ⟨rfl, hb6⟩
    have HB6:=Lib.hid (HB5.out.trans (hb6.mono HB5.out.size))
    clear han hb6
    go_wp2_with fail
    go_ret
    exact ⟨rfl, HB6.out⟩
   ·rw [Tk.alone_no true hd] at hA2
    rw [decide_eq_false hd] at hst
    clear hd hT hO hA
    generalize t'.step ws' true = q at *
    obtain ⟨t2, ws2, n⟩:=q
    dsimp only at *
    have HA2:=Lib.hid hA2
    clear hA2
    go_wp2_with fail
    refine hst.mono ?_
    rintro e w5 ⟨rfl, lo3, ro3, h3, r3⟩
    have q3 : TR w4 tb mb wb none none w5 lo3 ro3:=hQ.out.trans r3
    have H3:=Lib.hid h3
    have Q3:=Lib.hid q3
    clear hst h3 r3 q3
    go_wp2_with fail
    go_roundw
    case rel => exact ⟨k + 1, t2, ws2, lo3, ro3, tc' + n, by omega, by go_num, HA2, H3, hok', by omega, Q3⟩
    case measure => simp [intOf]; omega
  ·exfalso
   have hke : k = 9:=by omega
   subst hke
   have hA2:=hA.out
   simp only [Nat.sub_self, Tk.alone] at hA2
   have:=HR1.out
   rw [← hA2] at this
   simp at this
structure TwoAt (W : World) (ta tb mb wb : Nat) (la ra lb rb : Option Nat) (a b : Tk.Tk) (ws : List Int) (tc : Int) : Prop where
 ta' : TkAt W ta mb wb la ra a ws tc
 tb' : TkAt W tb mb wb lb rb b ws tc
 d : ∀ k, tfp ta la ra k → ¬ tfp tb lb rb k
 oa : Tk.TkOk a ws
 ob : Tk.TkOk b ws
theorem TkAt.apart {W : World} {tb mb wb : Nat} {lo ro : Option Nat} {t : Tk.Tk} {ws : List Int} {tc : Int} (h : TkAt W tb mb wb lo ro t ws tc) {k : Nat} (hk : tfp tb lo ro k) : ¬ cfp mb wb k ∧ k ≠ 0 ∧ k < W.heap.size:=by
 have h0 : 0 < W.heap.size:=h.laid.lt (by decide)
 rcases hk with rfl | hk | hk
 ·exact ⟨fun e => e.elim h.ap.m h.ap.w, fun e => h.ap.f0 e.symm, h.lt⟩
 ·obtain ⟨h1, -, h3⟩:=h.la k hk
  exact ⟨fun e => e.elim h1.m h1.w, fun e => h1.f0 e.symm, h3⟩
 ·obtain ⟨h1, -, h3⟩:=h.ra k hk
  exact ⟨fun e => e.elim h1.m h1.w, fun e => h1.f0 e.symm, h3⟩
theorem TkOk.len {t : Tk.Tk} {ws ws' : List Int} (h : Tk.TkOk t ws) (hl : ws'.length = ws.length) : Tk.TkOk t ws':=h.to rfl rfl hl h.i h.look h.has h.rt h.hasr h.st
theorem TkAt.other {W W' : World} {ta tb mb wb : Nat} {la ra lb rb la' ra' : Option Nat} {a b : Tk.Tk} {ws ws' : List Int} {tc tc' : Int} (ha : TkAt W ta mb wb la ra a ws tc) (hb : TkAt W tb mb wb lb rb b ws tc) (hd : ∀ k, tfp ta la ra k → ¬ tfp tb lb rb k)
  (hq : TR W ta mb wb la ra W' la' ra') (hm : CAt W' mb wb ws' tc') : TkAt W' tb mb wb lb rb b ws' tc' ∧ ∀ k, tfp ta la' ra' k → ¬ tfp tb lb rb k:=by
 refine ⟨hb.chg hq.2.2 (fun e => e.elim (fun e => (ha.apart e).2.1 rfl) (fun e => e.elim ha.ap.m0 ha.ap.w0)) (fun k hk e => e.elim (fun e => hd k e hk) (hb.apart hk).1) hm, fun k hk e => ?_⟩
 rcases Grow.fp (W1:=W) (tb:=ta) hq.1 hq.2.1 hk with h | h
 ·exact hd k h e
 ·have:=(hb.apart e).2.2
  omega
section
variable {W W' : World} {ta tb mb wb : Nat} {la ra lb rb l1 r1 : Option Nat} {a b t : Tk.Tk} {ws ws' : List Int} {tc tc' : Int}
theorem TwoAt.stepA (h : TwoAt W ta tb mb wb la ra lb rb a b ws tc) (ht : TkAt W' ta mb wb l1 r1 t ws' tc') (hq : TR W ta mb wb la ra W' l1 r1) (ho : Tk.TkOk t ws') (hl : ws'.length = ws.length) : TwoAt W' ta tb mb wb l1 r1 lb rb t b ws' tc':=by
 obtain ⟨h1, h2⟩:=h.ta'.other h.tb' h.d hq ht.mem
 exact ⟨ht, h1, h2, ho, TkOk.len h.ob hl⟩
theorem TwoAt.stepB (h : TwoAt W ta tb mb wb la ra lb rb a b ws tc) (ht : TkAt W' tb mb wb l1 r1 t ws' tc') (hq : TR W tb mb wb lb rb W' l1 r1) (ho : Tk.TkOk t ws') (hl : ws'.length = ws.length) : TwoAt W' ta tb mb wb la ra l1 r1 a t ws' tc':=by
 obtain ⟨h1, h2⟩:=h.tb'.other h.ta' (fun k hk e => h.d k e hk) hq ht.mem
 exact ⟨h1, ht, fun k hk e => h2 k e hk, TkOk.len h.oa hl, ho⟩
theorem TwoAt.below (h : TwoAt W ta tb mb wb la ra lb rb a b ws tc) (hb : Below W.heap.size W W') : TwoAt W' ta tb mb wb la ra lb rb a b ws tc:=⟨h.ta'.below hb, h.tb'.below hb, h.d, h.oa, h.ob⟩
end
def Hi (B tb : Nat) (lo ro : Option Nat) : Prop:=∀ k, tfp tb lo ro k → B ≤ k
theorem TR.hi {W W' : World} {tb mb wb B : Nat} {lo ro lo' ro' : Option Nat} (h : TR W tb mb wb lo ro W' lo' ro') (hh : Hi B tb lo ro) (hB : B ≤ W.heap.size) : Hi B tb lo' ro':=by
 intro k hk
 rcases Grow.fp (W1:=W) (tb:=tb) h.1 h.2.1 hk with e | e
 ·exact hh k e
 ·omega
theorem TR.hiBelow {W W' : World} {tb mb wb B : Nat} {lo ro lo' ro' : Option Nat} (h : TR W tb mb wb lo ro W' lo' ro') (hh : Hi B tb lo ro) (hm : B ≤ mb) (hw : B ≤ wb) (hB : B ≤ W.heap.size) : Below B W W' :=
 h.2.2.below hB (fun k hk => hk.elim (hh k) (fun e => by rcases e with rfl | rfl <;> assumption))
theorem hi_new {B tb : Nat} (h : B ≤ tb) : Hi B tb none none:=by
 intro k hk
 rcases hk with rfl | hk | hk
 ·exact h
 ·cases hk
 ·cases hk
theorem two_new {W : World} {ta tb mb wb : Nat} {a b : Tk.Tk} {ws : List Int} {tc : Int} (ha : TkAt W ta mb wb none none a ws tc) (hb : TkAt W tb mb wb none none b ws tc) (hne : ta ≠ tb) (oa : Tk.TkOk a ws) (ob : Tk.TkOk b ws) : TwoAt W ta tb mb wb none none none none a b ws tc:=by
 refine ⟨ha, hb, fun k hk e => ?_, oa, ob⟩
 rcases hk with rfl | hk | hk
 ·rcases e with e | e | e
  ·exact hne e
  ·cases e
  ·cases e
 ·cases hk
 ·cases hk
theorem step_len {t : Tk.Tk} {ws : List Int} (h : Tk.TkOk t ws) (good : Bool) : (t.step ws good).2.1.length = ws.length:=by
 have h1:=(h.step good).len
 have h2:=h.len
 have h3 : (t.step ws good).1.cf = t.cf:=(Tk.step_cf t ws good h.st).1
 rw [h3] at h1
 omega
structure LwAt (W : World) (c : Conf.Cf) (cb gb : Nat) (ws : List Int) (w : World) : Prop where
 b : Below W.heap.size W w
 cr : RowAt w cb c.cells 25
 wr : WRow w gb ws
 ng : W.heap.size ≤ gb ∧ gb < cb ∧ 0 < W.heap.size
theorem LwAt.keep {W : World} {c : Conf.Cf} {cb gb : Nat} {ws : List Int} {w w' : World} (h : LwAt W c cb gb ws w) (hb : Below (cb + 1) w w') : LwAt W c cb gb ws w' :=
 ⟨h.b.trans (hb.mono (by have:=h.ng; omega)), (hb.block cb (by omega)).trans h.cr, (hb.block gb (by have:=h.ng; omega)).trans h.wr, h.ng⟩
theorem LwAt.lt {W : World} {c : Conf.Cf} {cb gb : Nat} {ws : List Int} {w : World} (h : LwAt W c cb gb ws w) : cb + 1 ≤ w.heap.size:=RowAt.lt h.cr
theorem LwAt.below {W : World} {c : Conf.Cf} {cb gb : Nat} {ws : List Int} {w w' : World} (h : LwAt W c cb gb ws w) (hb : Below w.heap.size w w') : LwAt W c cb gb ws w':=h.keep (hb.mono h.lt)
theorem LwAt.put {W : World} {c : Conf.Cf} {cb gb : Nat} {ws : List Int} {w : World} (h : LwAt W c cb gb ws w) (i : Nat) (x : Int) : LwAt W c cb gb (ws.set i x) (w.setCell ⟨gb, i, none⟩ (.i x)) :=
 ⟨h.b.setCell (p:=⟨gb, i, none⟩) (by show W.heap.size ≤ gb; exact h.ng.1) _, setOther (p:=⟨gb, i, none⟩) h.cr _ (by show cb ≠ gb; have:=h.ng; omega), h.wr.set i x, h.ng⟩
theorem LwAt.ints {W : World} {c : Conf.Cf} {cb gb : Nat} {ws : List Int} {w : World} (h : LwAt W c cb gb ws w) : IntsB w gb 0 ws:=fun k x hx => by rw [Nat.zero_add]; exact h.wr.get hx
theorem IntsB.set {w : World} {g o : Nat} {l : List Int} (h : IntsB w g o l) (i : Nat) (x : Int) : IntsB (w.setCell ⟨g, o + i, none⟩ (.i x)) g o (l.set i x):=by
 intro k y hk
 rw [List.getElem?_set] at hk
 split at hk
 ·rename_i e
  subst e
  split at hk
  ·rename_i hl
   cases hk
   have hc:=h i _ (List.getElem?_eq_getElem hl)
   exact World.cell?_setCell_same' _ _ _ (by rw [hc]; rfl)
  ·cases hk
 ·rename_i e
  rw [World.cell?_setCell_other _ _ _ _ (by first | (simp; done) | (simp; omega))]
  exact h k y hk
theorem IntsB.at {w : World} {g o c : Nat} {l : List Int} (h : IntsB w g o l) (hl : l.length ≤ maxLen) : SliceAt w (.slice (some ⟨g, o, none⟩) l.length c) (l.map (Value.int .i64)) :=
 ⟨_, c, by simp, by simpa using hl, .inr ⟨g, o, rfl, fun j u hu => by
  rw [List.getElem?_map] at hu
  cases hx : l[j]? with
  | none => rw [hx] at hu; cases hu
  | some x => rw [hx] at hu; cases hu; exact h j x hx⟩⟩
theorem IntsB.keep {w w' : World} {g o B : Nat} {l : List Int} (h : IntsB w g o l) (hb : Below B w w') (hg : g < B) : IntsB w' g o l:=fun k x hx => (World.cell?_of_block (w:=w) (hb.block g hg)).trans (h k x hx)
theorem own_ints {w : World} {a : Option Addr} {n c : Nat} {l : List Int} (h : OwnS w (.slice a n c) n 1 (l.map (Value.int .i64))) (h0 : 0 < n) : ∃ g o, a = some ⟨g, o, none⟩ ∧ g < w.heap.size ∧ IntsB w g o l ∧ ∀ j, j < n → w.frozen? ⟨g, o + j, none⟩ = false:=by
 obtain ⟨g, o, cap, e, h1, h2, h3, h4, h5, h6⟩:=h.some h0
 cases e
 exact ⟨g, o, rfl, h3.lt, fun k x hx => h6 k _ (by rw [List.getElem?_map, hx]; rfl), fun j hj => h5 j (by omega)⟩
theorem cells_bd {c : Conf.Cf} {pre : List Int} {ss : List S} (h : Tk.Pool c pre ss) (hq : PreOk c pre) : ∀ x ∈ Tk.cells pre ss, x < 9223372036854775808:=by
 intro x hx
 unfold Tk.cells at hx
 rcases List.mem_append.1 hx with hx | hx
 ·obtain ⟨i, hi⟩:=List.getElem?_of_mem hx
  have e : pre.getD i 0 = x:=by rw [List.getD_eq_getElem?_getD, hi]; rfl
  rw [← e]
  rcases (by omega : i = 0 ∨ i = 1 ∨ i = 2 ∨ 3 ≤ i) with rfl | rfl | rfl | h3
  ·have:=hq.closed; omega
  ·rw [hq.line]; omega
  ·have:=hq.ep; omega
  ·have:=hq.pin i h3; omega
 ·obtain ⟨s, hs, rfl⟩:=List.mem_map.1 hx
  have:=word_bd (h.ok s hs)
  omega
theorem granted_ok {c : Conf.Cf} {w : Int} {k : Nat} {ws : List Int} (hr : c.right = true) (hw : 0 ≤ w ∧ w ≤ 15) (hl : ws.length = Tk.sc c (Tk.ns c)) (hk : k < Tk.ns c) : Tk.TkOk (Tk.Tk.granted c w k) ws:=by
 obtain ⟨a, b⟩:=right_small hr
 refine ⟨⟨by show 0 ≤ c.workers ∧ c.workers ≤ 8; omega, by show 0 ≤ c.slots ∧ c.slots ≤ 100; omega⟩, ?_, hw, ?_, hk, fun f h => (nomatch h), fun _ h => absurd h (by simp [Tk.Tk.granted]), fun r h => (nomatch h), fun h => absurd h (by simp [Tk.Tk.granted]), by simp [Tk.Tk.granted]⟩
 ·show 1 ≤ Tk.ns c; omega
 ·rw [hl]; unfold Tk.sc Tk.Tk.granted; rfl
end Go.Proofs.YtefpoidnklflnaaGreatDoor.Cl
