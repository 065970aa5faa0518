/- Part 15 of the walks and plain laws that the last text joins. -/
import Derived.Test.YteadpgiffpfmnaaGreatDoorQ13
import Derived.Test.YteadpgiffpfmnaaGreatDoorQ14
set_option maxRecDepth 100000
set_option maxHeartbeats 16000000
set_option linter.unusedVariables false
set_option linter.unusedSimpArgs false
namespace Go.Proofs.YteadpgiffpfmnaaGreatDoor.Cl
open Go.RowKit Hp Slot RowL Life
def YSPost (W : World) (tb mb wb : Nat) (lo ro : Option Nat) (t : Ty.Ty) (ws : List Int) (tc : Int) : Ending → World → Prop :=
 YPost W tb mb wb lo ro (.tuple #[]) (t.step ws).1 (t.step ws).2.1 (tc + (t.step ws).2.2)
theorem y_begin {W : World} {tb mb wb : Nat} {lo ro : Option Nat} {t : Ty.Ty} {ws : List Int} {tc : Int} (h : TyAt W tb mb wb lo ro t ws tc) (hok : Ty.TyOk t ws.length) (ht : 0 ≤ tc ∧ tc ≤ 4000000000000000000) (hk : t.st = 0) : Calls Tryz.prog 60 #[.pointer (some ⟨tb, 0, none⟩), .pointer (some ⟨mb, 0, none⟩)] W (YSPost W tb mb wb lo ro t ws tc):=by
 unfold YSPost
 have hc : Small t.cf:=⟨hok.c.w, hok.c.s⟩
 have hx:=rd_some (ws:=ws) (i:=2) (by have:=hok.len; omega)
 have hld : ∀ W, CAt W mb wb ws tc → Calls Tryz.prog 90 #[.pointer (some ⟨mb, 0, none⟩), .i 2] W _:=fun W h => load_any h ht 2 _ hx
 rw [Ty.st_0 hk]
 generalize Tk.rd ws 2 = x at *
 have H:=Lib.hid h
 have hld:=hld W h.mem
 clear h hx
 go_enter Tryz.func60, Tryz.ntmps60
 go_wp2_with fail
 refine (hld).mono ?_
 rintro e w5 ⟨rfl, hM5, hC5⟩
 have h5:=(H.out).mems hC5 hM5
 have q5:=((TR.refl (W:=W) (tb:=tb) (mb:=mb) (wb:=wb) (lo:=lo) (ro:=ro))).mem hC5
 have f5_6 : w5.cell? ⟨tb, 6, none⟩ = some (.i t.st):=h5.cell 6
 have f5_7 : w5.cell? ⟨tb, 7, none⟩ = some (.i t.epoch):=h5.cell 7
 have f5_f6:=h5.frozen 6
 have f5_f7:=h5.frozen 7
 have H5:=Lib.hid (h5)
 have Q5:=Lib.hid (q5)
 clear h5 q5 hM5 hC5
 go_wp2_with fail
 first | go_end0 | refine bodyPost_ret (results_none rfl _ _ _) rfl ?_
 have h6:=(H5.out).put 7 (.i x) { t with epoch:=x } rfl rfl rfl rfl
 have q6:=(Q5.out).set 7 (.i x)
 have h7:=(h6).put 6 (.i 1) { t with epoch:=x, st:=1 } rfl rfl rfl rfl
 have q7:=(q6).set 6 (.i 1)
 exact ⟨rfl, lo, ro, h7, q7⟩
theorem y_pin {W : World} {tb mb wb : Nat} {lo ro : Option Nat} {t : Ty.Ty} {ws : List Int} {tc : Int} (h : TyAt W tb mb wb lo ro t ws tc) (hok : Ty.TyOk t ws.length) (ht : 0 ≤ tc ∧ tc ≤ 4000000000000000000) (hk : t.st = 1) : Calls Tryz.prog 61 #[.pointer (some ⟨tb, 0, none⟩), .pointer (some ⟨mb, 0, none⟩)] W (YSPost W tb mb wb lo ro t ws tc):=by
 unfold YSPost
 have hc : Small t.cf:=⟨hok.c.w, hok.c.s⟩
 have hpl : Ty.pc t.w < ws.length:=by have:=hok.len; have:=hok.w; unfold Ty.pc; omega
 have hpn:=fun W => pin_any W t.cf t.w hc.w hok.w
 have hpc : (3 + (t.w : Int)) = ((Ty.pc t.w : Nat) : Int):=by unfold Ty.pc; omega
 simp only [hpc, Conf.Cf.val, Conf.Cf.cells] at hpn
 clear hpc
 rw [Ty.st_1 hk]
 have hxp:=rd_some hpl
 have hst:=fun W (h : CAt W mb wb ws tc) => store_any h ht (Ty.pc t.w) _ hxp (wrap64 (t.epoch + 1))
 have hpw:=fun W => pword_any W t.epoch
 have e4_0 : W.cell? ⟨tb, 0, none⟩ = some (.i t.cf.workers):=h.cell 0
 have e4_1 : W.cell? ⟨tb, 1, none⟩ = some (.i t.cf.slots):=h.cell 1
 have e4_2 : W.cell? ⟨tb, 2, none⟩ = some (.i t.cf.streams):=h.cell 2
 have e4_3 : W.cell? ⟨tb, 3, none⟩ = some (.i t.cf.waiters):=h.cell 3
 have e4_4 : W.cell? ⟨tb, 4, none⟩ = some (.i t.cf.uses):=h.cell 4
 have e4_5 : W.cell? ⟨tb, 5, none⟩ = some (.i t.w):=h.cell 5
 have e4_7 : W.cell? ⟨tb, 7, none⟩ = some (.i t.epoch):=h.cell 7
 have H:=Lib.hid h
 clear h hxp
 go_enter Tryz.func61, Tryz.ntmps61
 go_wp2_with fail
 go_region_held3 (fun w' => w'.cell? ⟨tb, 0, none⟩ = some (.i t.cf.workers) ∧ w'.cell? ⟨tb, 1, none⟩ = some (.i t.cf.slots) ∧ w'.cell? ⟨tb, 2, none⟩ = some (.i t.cf.streams) ∧ w'.cell? ⟨tb, 3, none⟩ = some (.i t.cf.waiters) ∧ w'.cell? ⟨tb, 4, none⟩ = some (.i t.cf.uses) ∧ w'.cell? ⟨tb, 5, none⟩ = some (.i t.w) ∧ w'.cell? ⟨tb, 7, none⟩ = some (.i t.epoch)) (first | go_keep | (refine ⟨?_, ?_, ?_, ?_, ?_, ?_, ?_⟩ <;> first | assumption | (rw [World.cell?_setCell_other _ _ _ _ (by simp)]; assumption)))
  ((first
  | (go_at_call 91; refine (hpn _).mono ?_; rintro e w5 ⟨rfl, hb5⟩; have h5:=((H.out).below (Below.refl _ _).drew).below hb5; have z5_0 : w5.cell? ⟨tb, 0, none⟩ = some (.i t.cf.workers):=h5.cell 0; have z5_1 : w5.cell? ⟨tb, 1, none⟩ = some (.i t.cf.slots):=h5.cell 1; have z5_2 : w5.cell? ⟨tb, 2, none⟩ = some (.i t.cf.streams):=h5.cell 2; have z5_3 : w5.cell? ⟨tb, 3, none⟩ = some (.i t.cf.waiters):=h5.cell 3; have z5_4 : w5.cell? ⟨tb, 4, none⟩ = some (.i t.cf.uses):=h5.cell 4; have z5_5 : w5.cell? ⟨tb, 5, none⟩ = some (.i t.w):=h5.cell 5; have z5_7 : w5.cell? ⟨tb, 7, none⟩ = some (.i t.epoch):=h5.cell 7)
  | (go_at_call 92; refine (hpw _).mono ?_; rintro e w6 ⟨rfl, rfl⟩; have h6:=h5; have z6_0 : w5.cell? ⟨tb, 0, none⟩ = some (.i t.cf.workers):=h6.cell 0; have z6_1 : w5.cell? ⟨tb, 1, none⟩ = some (.i t.cf.slots):=h6.cell 1; have z6_2 : w5.cell? ⟨tb, 2, none⟩ = some (.i t.cf.streams):=h6.cell 2; have z6_3 : w5.cell? ⟨tb, 3, none⟩ = some (.i t.cf.waiters):=h6.cell 3; have z6_4 : w5.cell? ⟨tb, 4, none⟩ = some (.i t.cf.uses):=h6.cell 4; have z6_5 : w5.cell? ⟨tb, 5, none⟩ = some (.i t.w):=h6.cell 5; have z6_7 : w5.cell? ⟨tb, 7, none⟩ = some (.i t.epoch):=h6.cell 7)
  | (go_at_call 36; refine (hst _ h6.mem).mono ?_; rintro e w7 ⟨rfl, hM7, hC7⟩; have h7:=h6.mems hC7 hM7; have z7_0 : w7.cell? ⟨tb, 0, none⟩ = some (.i t.cf.workers):=h7.cell 0; have z7_1 : w7.cell? ⟨tb, 1, none⟩ = some (.i t.cf.slots):=h7.cell 1; have z7_2 : w7.cell? ⟨tb, 2, none⟩ = some (.i t.cf.streams):=h7.cell 2; have z7_3 : w7.cell? ⟨tb, 3, none⟩ = some (.i t.cf.waiters):=h7.cell 3; have z7_4 : w7.cell? ⟨tb, 4, none⟩ = some (.i t.cf.uses):=h7.cell 4; have z7_5 : w7.cell? ⟨tb, 5, none⟩ = some (.i t.w):=h7.cell 5; have z7_7 : w7.cell? ⟨tb, 7, none⟩ = some (.i t.epoch):=h7.cell 7)))
 have q7:=(((((TR.refl (W:=W) (tb:=tb) (mb:=mb) (wb:=wb) (lo:=lo) (ro:=ro))).below (Below.refl _ _).drew).below hb5).mem hC7)
 have H7:=Lib.hid (h7)
 have Q7:=Lib.hid (q7)
 clear h7 q7 hC7 hM7 h6 h5 hb5
 have i7_6 : w7.cell? ⟨tb, 6, none⟩ = some (.i t.st):=H7.out.cell 6
 have i7_f6:=H7.out.frozen 6
 go_wp2_with fail
 first | go_end0 | refine bodyPost_ret (results_none rfl _ _ _) rfl ?_
 have h8:=(H7.out).put 6 (.i 2) { t with st:=2 } rfl rfl rfl rfl
 have q8:=(Q7.out).set 6 (.i 2)
 exact ⟨rfl, lo, ro, h8, q8⟩
theorem y_isClosed {W : World} {tb mb wb : Nat} {lo ro : Option Nat} {t : Ty.Ty} {ws : List Int} {tc : Int} (h : TyAt W tb mb wb lo ro t ws tc) (hok : Ty.TyOk t ws.length) (ht : 0 ≤ tc ∧ tc ≤ 4000000000000000000) (hk : t.st = 2) : Calls Tryz.prog 62 #[.pointer (some ⟨tb, 0, none⟩), .pointer (some ⟨mb, 0, none⟩)] W (YSPost W tb mb wb lo ro t ws tc):=by
 unfold YSPost
 have hc : Small t.cf:=⟨hok.c.w, hok.c.s⟩
 have hx:=rd_some (ws:=ws) (i:=0) (by have:=hok.len; omega)
 have hld : ∀ W, CAt W mb wb ws tc → Calls Tryz.prog 90 #[.pointer (some ⟨mb, 0, none⟩), .i 0] W _:=fun W h => load_any h ht 0 _ hx
 rw [Ty.st_2 hk]
 generalize Tk.rd ws 0 = x at *
 have H:=Lib.hid h
 have hld:=hld W h.mem
 clear h hx
 go_enter Tryz.func62, Tryz.ntmps62
 go_wp2_with fail
 refine (hld).mono ?_
 rintro e w5 ⟨rfl, hM5, hC5⟩
 have h5:=(H.out).mems hC5 hM5
 have q5:=((TR.refl (W:=W) (tb:=tb) (mb:=mb) (wb:=wb) (lo:=lo) (ro:=ro))).mem hC5
 have f5_8 : w5.cell? ⟨tb, 8, none⟩ = some (.i t.closed):=h5.cell 8
 have f5_f8:=h5.frozen 8
 have H5:=Lib.hid (h5)
 have Q5:=Lib.hid (q5)
 clear h5 q5 hM5 hC5
 have h6:=(H5.out).put 8 (.i x) { t with closed:=x } rfl rfl rfl rfl
 have q6:=(Q5.out).set 8 (.i x)
 have s_8 : (w5.setCell ⟨tb, 8, none⟩ (.i x)).cell? ⟨tb, 8, none⟩ = some (.i x):=h6.cell 8
 have hcl:=ysearch_any h6 3 4 x
 have H6:=Lib.hid (h6)
 have Q6:=Lib.hid (q6)
 clear h6 q6
 go_wp2_with fail
 refine (hcl).mono ?_
 rintro e w7 ⟨rfl, lo7, ro7, h7, r7⟩
 have q7:=(Q6.out).trans r7
 have H7:=Lib.hid (h7)
 have Q7:=Lib.hid (q7)
 clear h7 q7 r7
 go_wp2_with fail
 first | go_end0 | refine bodyPost_ret (results_none rfl _ _ _) rfl ?_
 exact ⟨rfl, lo7, ro7, H7.out, Q7.out⟩
theorem y_unpin {W : World} {tb mb wb : Nat} {lo ro : Option Nat} {t : Ty.Ty} {ws : List Int} {tc : Int} (h : TyAt W tb mb wb lo ro t ws tc) (hok : Ty.TyOk t ws.length) (ht : 0 ≤ tc ∧ tc ≤ 4000000000000000000) (hk : t.st = 15) : Calls Tryz.prog 75 #[.pointer (some ⟨tb, 0, none⟩), .pointer (some ⟨mb, 0, none⟩)] W (YSPost W tb mb wb lo ro t ws tc):=by
 unfold YSPost
 have hc : Small t.cf:=⟨hok.c.w, hok.c.s⟩
 have hpl : Ty.pc t.w < ws.length:=by have:=hok.len; have:=hok.w; unfold Ty.pc; omega
 have hpn:=fun W => pin_any W t.cf t.w hc.w hok.w
 have hpc : (3 + (t.w : Int)) = ((Ty.pc t.w : Nat) : Int):=by unfold Ty.pc; omega
 simp only [hpc, Conf.Cf.val, Conf.Cf.cells] at hpn
 clear hpc
 rw [Ty.st_15 hk]
 have hxp:=rd_some hpl
 have hst:=fun W (h : CAt W mb wb ws tc) => store_any h ht (Ty.pc t.w) _ hxp 0
 have e4_0 : W.cell? ⟨tb, 0, none⟩ = some (.i t.cf.workers):=h.cell 0
 have e4_1 : W.cell? ⟨tb, 1, none⟩ = some (.i t.cf.slots):=h.cell 1
 have e4_2 : W.cell? ⟨tb, 2, none⟩ = some (.i t.cf.streams):=h.cell 2
 have e4_3 : W.cell? ⟨tb, 3, none⟩ = some (.i t.cf.waiters):=h.cell 3
 have e4_4 : W.cell? ⟨tb, 4, none⟩ = some (.i t.cf.uses):=h.cell 4
 have e4_5 : W.cell? ⟨tb, 5, none⟩ = some (.i t.w):=h.cell 5
 have H:=Lib.hid h
 clear h hxp
 go_enter Tryz.func75, Tryz.ntmps75
 go_wp2_with fail
 go_region_held3 (fun w' => w'.cell? ⟨tb, 0, none⟩ = some (.i t.cf.workers) ∧ w'.cell? ⟨tb, 1, none⟩ = some (.i t.cf.slots) ∧ w'.cell? ⟨tb, 2, none⟩ = some (.i t.cf.streams) ∧ w'.cell? ⟨tb, 3, none⟩ = some (.i t.cf.waiters) ∧ w'.cell? ⟨tb, 4, none⟩ = some (.i t.cf.uses) ∧ w'.cell? ⟨tb, 5, none⟩ = some (.i t.w)) (first | go_keep | (refine ⟨?_, ?_, ?_, ?_, ?_, ?_⟩ <;> first | assumption | (rw [World.cell?_setCell_other _ _ _ _ (by simp)]; assumption)))
  ((first
  | (go_at_call 91; refine (hpn _).mono ?_; rintro e w5 ⟨rfl, hb5⟩; have h5:=((H.out).below (Below.refl _ _).drew).below hb5; have z5_0 : w5.cell? ⟨tb, 0, none⟩ = some (.i t.cf.workers):=h5.cell 0; have z5_1 : w5.cell? ⟨tb, 1, none⟩ = some (.i t.cf.slots):=h5.cell 1; have z5_2 : w5.cell? ⟨tb, 2, none⟩ = some (.i t.cf.streams):=h5.cell 2; have z5_3 : w5.cell? ⟨tb, 3, none⟩ = some (.i t.cf.waiters):=h5.cell 3; have z5_4 : w5.cell? ⟨tb, 4, none⟩ = some (.i t.cf.uses):=h5.cell 4; have z5_5 : w5.cell? ⟨tb, 5, none⟩ = some (.i t.w):=h5.cell 5)
  | (go_at_call 36; refine (hst _ h5.mem).mono ?_; rintro e w6 ⟨rfl, hM6, hC6⟩; have h6:=h5.mems hC6 hM6; have z6_0 : w6.cell? ⟨tb, 0, none⟩ = some (.i t.cf.workers):=h6.cell 0; have z6_1 : w6.cell? ⟨tb, 1, none⟩ = some (.i t.cf.slots):=h6.cell 1; have z6_2 : w6.cell? ⟨tb, 2, none⟩ = some (.i t.cf.streams):=h6.cell 2; have z6_3 : w6.cell? ⟨tb, 3, none⟩ = some (.i t.cf.waiters):=h6.cell 3; have z6_4 : w6.cell? ⟨tb, 4, none⟩ = some (.i t.cf.uses):=h6.cell 4; have z6_5 : w6.cell? ⟨tb, 5, none⟩ = some (.i t.w):=h6.cell 5)))
 have q6:=(((((TR.refl (W:=W) (tb:=tb) (mb:=mb) (wb:=wb) (lo:=lo) (ro:=ro))).below (Below.refl _ _).drew).below hb5).mem hC6)
 have H6:=Lib.hid (h6)
 have Q6:=Lib.hid (q6)
 clear h6 q6 hC6 hM6 h5 hb5
 have g6_6 : w6.cell? ⟨tb, 6, none⟩ = some (.i t.st):=H6.out.cell 6
 have g6_f6:=H6.out.frozen 6
 go_wp2_with fail
 first | go_end0 | refine bodyPost_ret (results_none rfl _ _ _) rfl ?_
 have h7:=(H6.out).put 6 (.i 16) { t with st:=16 } rfl rfl rfl rfl
 have q7:=(Q6.out).set 6 (.i 16)
 exact ⟨rfl, lo, ro, h7, q7⟩
theorem y_again {W : World} {tb mb wb : Nat} {lo ro : Option Nat} {t : Ty.Ty} {ws : List Int} {tc : Int} (h : TyAt W tb mb wb lo ro t ws tc) (hok : Ty.TyOk t ws.length) (ht : 0 ≤ tc ∧ tc ≤ 4000000000000000000) (hk : t.st = 16) : Calls Tryz.prog 76 #[.pointer (some ⟨tb, 0, none⟩), .pointer (some ⟨mb, 0, none⟩)] W (YSPost W tb mb wb lo ro t ws tc):=by
 unfold YSPost
 have hc : Small t.cf:=⟨hok.c.w, hok.c.s⟩
 have hx:=rd_some (ws:=ws) (i:=2) (by have:=hok.len; omega)
 have hld : ∀ W, CAt W mb wb ws tc → Calls Tryz.prog 90 #[.pointer (some ⟨mb, 0, none⟩), .i 2] W _:=fun W h => load_any h ht 2 _ hx
 rw [Ty.st_16 hk]
 generalize Tk.rd ws 2 = x at *
 by_cases hq : x = t.epoch
 ·rw [if_pos hq]
  subst hq
  have e4_6 : W.cell? ⟨tb, 6, none⟩ = some (.i t.st):=h.cell 6
  have e4_f6:=h.frozen 6
  have h5:=(h).put 6 (.i 0) { t with st:=0 } rfl rfl rfl rfl
  have q5:=((TR.refl (W:=W) (tb:=tb) (mb:=mb) (wb:=wb) (lo:=lo) (ro:=ro))).set 6 (.i 0)
  have s_7 : (W.setCell ⟨tb, 6, none⟩ (.i 0)).cell? ⟨tb, 7, none⟩ = some (.i t.epoch):=h5.cell 7
  have H5:=Lib.hid (h5)
  have Q5:=Lib.hid (q5)
  clear h h5 q5 hx
  go_enter Tryz.func76, Tryz.ntmps76
  go_wp2_with fail
  go_region_held3 (fun w' => w'.cell? ⟨tb, 7, none⟩ = some (.i t.epoch)) (first | go_keep | assumption | (rw [World.cell?_setCell_other _ _ _ _ (by simp)]; assumption))
   ((first
   | (go_at_call 90; refine (hld _ ((H5.out).below (Below.refl _ _).drew).mem).mono ?_; rintro e w6 ⟨rfl, hM6, hC6⟩; have h6:=((H5.out).below (Below.refl _ _).drew).mems hC6 hM6; have z6_7 : w6.cell? ⟨tb, 7, none⟩ = some (.i t.epoch):=h6.cell 7)))
  have q6:=(((Q5.out).below (Below.refl _ _).drew).mem hC6)
  have H6:=Lib.hid (h6)
  have Q6:=Lib.hid (q6)
  clear h6 q6 hC6 hM6
  have g6_6 : w6.cell? ⟨tb, 6, none⟩ = some (.i 0):=H6.out.cell 6
  have g6_f6:=H6.out.frozen 6
  go_wp2_with fail
  first | go_end0 | refine bodyPost_ret (results_none rfl _ _ _) rfl ?_
  have h7:=(H6.out).put 6 (.i 17) { t with st:=17 } rfl rfl rfl rfl
  have q7:=(Q6.out).set 6 (.i 17)
  exact ⟨rfl, lo, ro, h7, q7⟩
 ·rw [if_neg hq]
  have hq2 : (x == t.epoch) = false:=by simpa using hq
  have e4_6 : W.cell? ⟨tb, 6, none⟩ = some (.i t.st):=h.cell 6
  have e4_f6:=h.frozen 6
  have h5:=(h).put 6 (.i 0) { t with st:=0 } rfl rfl rfl rfl
  have q5:=((TR.refl (W:=W) (tb:=tb) (mb:=mb) (wb:=wb) (lo:=lo) (ro:=ro))).set 6 (.i 0)
  have s_7 : (W.setCell ⟨tb, 6, none⟩ (.i 0)).cell? ⟨tb, 7, none⟩ = some (.i t.epoch):=h5.cell 7
  have H5:=Lib.hid (h5)
  have Q5:=Lib.hid (q5)
  clear h h5 q5 hx
  go_enter Tryz.func76, Tryz.ntmps76
  go_wp2_with fail
  go_region_held3 (fun w' => w'.cell? ⟨tb, 7, none⟩ = some (.i t.epoch)) (first | go_keep | assumption | (rw [World.cell?_setCell_other _ _ _ _ (by simp)]; assumption))
   ((first
   | (go_at_call 90; refine (hld _ ((H5.out).below (Below.refl _ _).drew).mem).mono ?_; rintro e w6 ⟨rfl, hM6, hC6⟩; have h6:=((H5.out).below (Below.refl _ _).drew).mems hC6 hM6; have z6_7 : w6.cell? ⟨tb, 7, none⟩ = some (.i t.epoch):=h6.cell 7)))
  have q6:=(((Q5.out).below (Below.refl _ _).drew).mem hC6)
  have H6:=Lib.hid (h6)
  have Q6:=Lib.hid (q6)
  clear h6 q6 hC6 hM6
  have g6_6 : w6.cell? ⟨tb, 6, none⟩ = some (.i 0):=H6.out.cell 6
  have g6_f6:=H6.out.frozen 6
  go_wp2_with fail
  first | go_end0 | refine bodyPost_ret (results_none rfl _ _ _) rfl ?_
  exact ⟨rfl, lo, ro, H6.out, Q6.out⟩
theorem TyAt.looked {W W' : World} {tb mb wb : Nat} {lo ro : Option Nat} {t : Ty.Ty} {ws : List Int} {tc : Int} (h : TyAt W tb mb wb lo ro t ws tc) {fb : Nat} (hl : lo = some fb) (hc : Chg (fun k => k = fb) W W') {f : Tk.Fd} (hf : FdAt W' fb t.cf f) : TyAt W' tb mb wb lo ro { t with look:=some f } ws tc :=
 h.fstep hl (hc.mono fun _ _ e => .inl e) hf (h.mem.chg hc (fun e => (h.la fb hl).1.m e.symm) (fun e => (h.la fb hl).1.w e.symm))
theorem TR.looked {W w w' : World} {tb mb wb fb : Nat} {lo ro l1 r1 : Option Nat} (h : TR W tb mb wb lo ro w l1 r1) (hl : l1 = some fb) (hc : Chg (fun k => k = fb) w w') : TR W tb mb wb lo ro w' l1 r1 :=
 h.chg hc (fun k e => .inl (.inr (.inl (by rw [hl, e]))))
theorem y_sweep {W : World} {tb mb wb : Nat} {lo ro : Option Nat} {t : Ty.Ty} {ws : List Int} {tc : Int} (h : TyAt W tb mb wb lo ro t ws tc) (hok : Ty.TyOk t ws.length) (ht : 0 ≤ tc ∧ tc ≤ 4000000000000000000) (hk : t.st = 3) : Calls Tryz.prog 63 #[.pointer (some ⟨tb, 0, none⟩), .pointer (some ⟨mb, 0, none⟩)] W (YSPost W tb mb wb lo ro t ws tc):=by
 unfold YSPost
 have hc : Small t.cf:=⟨hok.c.w, hok.c.s⟩
 obtain ⟨f, hl⟩:=hok.has (by omega) (by omega)
 obtain ⟨f', i', wd', hf', hi', he⟩:=hok.seek hl ws
 have hsk:=yseek_any h hok ht (by omega) (by omega)
 rw [Ty.st_3 hk]
 generalize t.seek ws = q at *
 obtain ⟨b1, b2, t', n⟩:=q
 dsimp only at he hsk ⊢
 subst he
 have H:=Lib.hid h
 clear h hl
 cases b1
 ·rw [if_neg (by simp)]
  cases b2
  ·rw [if_neg (by simp)]
   go_enter Tryz.func63, Tryz.ntmps63
   go_wp2_with fail
   refine (hsk).mono ?_
   rintro e w5 ⟨rfl, lo5, ro5, h5, r5⟩
   have q5:=((TR.refl (W:=W) (tb:=tb) (mb:=mb) (wb:=wb) (lo:=lo) (ro:=ro))).trans r5
   have H5:=Lib.hid (h5)
   have Q5:=Lib.hid (q5)
   clear h5 q5 r5
   clear hsk
   go_wp2_with fail
   first | go_end0 | refine bodyPost_ret (results_none rfl _ _ _) rfl ?_
   exact ⟨rfl, lo5, ro5, H5.out, Q5.out⟩
  ·rw [if_pos rfl]
   go_enter Tryz.func63, Tryz.ntmps63
   go_wp2_with fail
   refine (hsk).mono ?_
   rintro e w5 ⟨rfl, lo5, ro5, h5, r5⟩
   have q5:=((TR.refl (W:=W) (tb:=tb) (mb:=mb) (wb:=wb) (lo:=lo) (ro:=ro))).trans r5
   have f5_5 : w5.cell? ⟨tb, 5, none⟩ = some (.i t.w):=h5.cell 5
   have H5:=Lib.hid (h5)
   have Q5:=Lib.hid (q5)
   clear h5 q5 r5
   have hcl:=ysearch_any H5.out 5 5 t.w
   clear hsk
   go_wp2_with fail
   refine (hcl).mono ?_
   rintro e w6 ⟨rfl, lo6, ro6, h6, r6⟩
   have q6:=(Q5.out).trans r6
   have H6:=Lib.hid (h6)
   have Q6:=Lib.hid (q6)
   clear h6 q6 r6
   go_wp2_with fail
   first | go_end0 | refine bodyPost_ret (results_none rfl _ _ _) rfl ?_
   exact ⟨rfl, lo6, ro6, H6.out, Q6.out⟩
 ·rw [if_pos rfl]
  have hrn:=fun W => rnew_any W t.cf i' wd' hc hi'
  simp only [Conf.Cf.val, Conf.Cf.cells] at hrn
  go_enter Tryz.func63, Tryz.ntmps63
  go_wp2_with fail
  refine (hsk).mono ?_
  rintro e w5 ⟨rfl, lo5, ro5, h5, r5⟩
  have q5:=((TR.refl (W:=W) (tb:=tb) (mb:=mb) (wb:=wb) (lo:=lo) (ro:=ro))).trans r5
  have f5_0 : w5.cell? ⟨tb, 0, none⟩ = some (.i t.cf.workers):=h5.cell 0
  have f5_1 : w5.cell? ⟨tb, 1, none⟩ = some (.i t.cf.slots):=h5.cell 1
  have f5_2 : w5.cell? ⟨tb, 2, none⟩ = some (.i t.cf.streams):=h5.cell 2
  have f5_3 : w5.cell? ⟨tb, 3, none⟩ = some (.i t.cf.waiters):=h5.cell 3
  have f5_4 : w5.cell? ⟨tb, 4, none⟩ = some (.i t.cf.uses):=h5.cell 4
  have f5_11 : w5.cell? ⟨tb, 11, none⟩ = some (.i i'):=h5.cell 11
  have f5_12 : w5.cell? ⟨tb, 12, none⟩ = some (.i wd'):=h5.cell 12
  have f5_15 : w5.cell? ⟨tb, 15, none⟩ = some (ptrOf ro5):=h5.cell 15
  have f5_f15:=h5.frozen 15
  have H5:=Lib.hid (h5)
  have Q5:=Lib.hid (q5)
  clear h5 q5 r5
  clear hsk
  go_wp2_with fail
  go_region_held3 (fun w' => w'.cell? ⟨tb, 0, none⟩ = some (.i t.cf.workers) ∧ w'.cell? ⟨tb, 1, none⟩ = some (.i t.cf.slots) ∧ w'.cell? ⟨tb, 2, none⟩ = some (.i t.cf.streams) ∧ w'.cell? ⟨tb, 3, none⟩ = some (.i t.cf.waiters) ∧ w'.cell? ⟨tb, 4, none⟩ = some (.i t.cf.uses) ∧ w'.cell? ⟨tb, 11, none⟩ = some (.i i') ∧ w'.cell? ⟨tb, 12, none⟩ = some (.i wd')) (first | go_keep | (refine ⟨?_, ?_, ?_, ?_, ?_, ?_, ?_⟩ <;> first | assumption | (rw [World.cell?_setCell_other _ _ _ _ (by simp)]; assumption)))
   ((first
   | (go_at_call 95; refine (hrn _).mono ?_; rintro e w6 ⟨rb6, rfl, hR6, hge6, hb6⟩; have h6:=((H5.out).below (Below.refl _ _).drew).below hb6; have z6_0 : w6.cell? ⟨tb, 0, none⟩ = some (.i t.cf.workers):=h6.cell 0; have z6_1 : w6.cell? ⟨tb, 1, none⟩ = some (.i t.cf.slots):=h6.cell 1; have z6_2 : w6.cell? ⟨tb, 2, none⟩ = some (.i t.cf.streams):=h6.cell 2; have z6_3 : w6.cell? ⟨tb, 3, none⟩ = some (.i t.cf.waiters):=h6.cell 3; have z6_4 : w6.cell? ⟨tb, 4, none⟩ = some (.i t.cf.uses):=h6.cell 4; have z6_11 : w6.cell? ⟨tb, 11, none⟩ = some (.i i'):=h6.cell 11; have z6_12 : w6.cell? ⟨tb, 12, none⟩ = some (.i wd'):=h6.cell 12; have z6_15 : w6.cell? ⟨tb, 15, none⟩ = some (ptrOf ro5):=h6.cell 15; have z6_f15:=h6.frozen 15)))
  have q6:=(((Q5.out).below (Below.refl _ _).drew).below hb6)
  have H6:=Lib.hid (h6)
  have Q6:=Lib.hid (q6)
  obtain ⟨n1, n2, n3, n4⟩:=((H5.out).below (Below.refl _ _).drew).newApart hge6
  have h11:=(H6.out).putRet hR6 n1 n2 n4
  have q11 : TR W tb mb wb lo ro (w6.setCell ⟨tb, 15, none⟩ (.pointer (some ⟨rb6, 0, none⟩))) lo5 (some rb6):=⟨(Q6.out).1, .inr ⟨rb6, rfl, Nat.le_trans (show W.heap.size ≤ w5.heap.size from Q5.out.2.2.size) hge6⟩, (Q6.out).2.2.setCell ⟨tb, 15, none⟩ _ (fun _ => .inl (.inl rfl))⟩
  have m6_6 : (w6.setCell ⟨tb, 15, none⟩ (.pointer (some ⟨rb6, 0, none⟩))).cell? ⟨tb, 6, none⟩ = some (.i t.st):=h11.cell 6
  have m6_f6:=h11.frozen 6
  have H11:=Lib.hid h11
  have Q11:=Lib.hid q11
  clear h11 q11 n1 n2 n3 n4 hR6 hb6 hge6 h6
  go_wp2_with fail
  first | go_end0 | refine bodyPost_ret (results_none rfl _ _ _) rfl ?_
  have h7:=(H11.out).put 6 (.i 4) { t with look:=some f', i:=i', word:=wd', rt:=some (Tk.Rt.new (Tk.sc t.cf i') wd'), st:=4 } rfl rfl rfl rfl
  have q7:=(Q11.out).set 6 (.i 4)
  exact ⟨rfl, lo5, some rb6, h7, q7⟩
theorem y_goes {W : World} {tb mb wb : Nat} {lo ro : Option Nat} {t : Ty.Ty} {ws : List Int} {tc : Int} (h : TyAt W tb mb wb lo ro t ws tc) (hok : Ty.TyOk t ws.length) (ht : 0 ≤ tc ∧ tc ≤ 4000000000000000000) (hk : t.st = 4) : Calls Tryz.prog 64 #[.pointer (some ⟨tb, 0, none⟩), .pointer (some ⟨mb, 0, none⟩)] W (YSPost W tb mb wb lo ro t ws tc):=by
 unfold YSPost
 have hc : Small t.cf:=⟨hok.c.w, hok.c.s⟩
 obtain ⟨r, hl⟩:=hok.hasr hk
 have hro:=hok.rt r hl
 obtain ⟨rb, rfl, hR⟩:=h.ret r hl
 have hA:=h.ra rb rfl
 have hrt : t.ret = r:=by unfold Ty.Ty.ret; rw [hl]; rfl
 have hst:=rstep_any hR h.mem hA.1 ht h.laid hro.1 hro.2 (by have:=hok.len; omega)
 obtain ⟨f, hf⟩:=hok.has (by omega) (by omega)
 have hag : t.again = { t with look:=some f.again }:=by unfold Ty.Ty.again Ty.Ty.fd; rw [hf]; rfl
 rw [Ty.st_4 hk, hrt]
 clear hR hrt hl hro
 generalize r.step ws = q at *
 obtain ⟨b, r', ws', n⟩:=q
 dsimp only at *
 have c15 : W.cell? ⟨tb, 15, none⟩ = some (.pointer (some ⟨rb, 0, none⟩)):=h.cell 15
 have H:=Lib.hid h
 clear h
 cases b
 ·rw [if_neg (by simp)]
  go_enter Tryz.func64, Tryz.ntmps64
  go_wp2_with fail
  refine hst.mono ?_
  rintro e w5 ⟨rfl, hR5, hM5, hC5⟩
  have h5:=H.out.rstep rfl hC5 hR5 hM5
  have q5:=(TR.refl (W:=W) (tb:=tb) (mb:=mb) (wb:=wb) (lo:=lo) (ro:=some rb)).chg hC5 (fun k e => e.elim (fun e => .inl (.inr (.inr (by rw [e])))) .inr)
  have H5:=Lib.hid h5
  have Q5:=Lib.hid q5
  clear h5 q5 hst c15 hR5 hM5 hC5
  go_wp2_with fail
  first | go_end0 | refine bodyPost_ret (results_none rfl _ _ _) rfl ?_
  exact ⟨rfl, lo, some rb, H5.out, Q5.out⟩
 ·rw [if_pos rfl, hag]
  go_enter Tryz.func64, Tryz.ntmps64
  go_wp2_with fail
  refine hst.mono ?_
  rintro e w5 ⟨rfl, hR5, hM5, hC5⟩
  have h5:=H.out.rstep rfl hC5 hR5 hM5
  have q5:=(TR.refl (W:=W) (tb:=tb) (mb:=mb) (wb:=wb) (lo:=lo) (ro:=some rb)).chg hC5 (fun k e => e.elim (fun e => .inl (.inr (.inr (by rw [e])))) .inr)
  obtain ⟨fb, hlo, hF5⟩:=h5.look f hf
  have d10 : w5.cell? ⟨tb, 10, none⟩ = some (.pointer (some ⟨fb, 0, none⟩)):=(h5.cell 10).trans (by rw [hlo]; rfl)
  have hcl:=again_any hF5
  have H5:=Lib.hid h5
  have Q5:=Lib.hid q5
  clear h5 q5 hst c15 hR5 hM5 hC5 hF5
  go_wp2_with fail
  refine hcl.mono ?_
  rintro e w6 ⟨rfl, hF6, hC6⟩
  have h6:=H5.out.looked hlo hC6 hF6
  have q6:=Q5.out.looked hlo hC6
  have e6 : w6.cell? ⟨tb, 6, none⟩ = some (.i t.st):=h6.cell 6
  have ef6:=h6.frozen 6
  have H6:=Lib.hid h6
  have Q6:=Lib.hid q6
  clear h6 q6 hcl hF6 hC6 d10
  go_wp2_with fail
  first | go_end0 | refine bodyPost_ret (results_none rfl _ _ _) rfl ?_
  exact ⟨rfl, lo, some rb, H6.out.put 6 (.i 3) { t with look:=some f.again, rt:=some r', st:=3 } rfl rfl rfl rfl, Q6.out.set 6 (.i 3)⟩
theorem y_old {W : World} {tb mb wb : Nat} {lo ro : Option Nat} {t : Ty.Ty} {ws : List Int} {tc : Int} (h : TyAt W tb mb wb lo ro t ws tc) (hok : Ty.TyOk t ws.length) (ht : 0 ≤ tc ∧ tc ≤ 4000000000000000000) (hk : t.st = 5) : Calls Tryz.prog 65 #[.pointer (some ⟨tb, 0, none⟩), .pointer (some ⟨mb, 0, none⟩)] W (YSPost W tb mb wb lo ro t ws tc):=by
 unfold YSPost
 have hc : Small t.cf:=⟨hok.c.w, hok.c.s⟩
 obtain ⟨f, hl⟩:=hok.has (by omega) (by omega)
 obtain ⟨f', i', wd', hf', hi', he⟩:=hok.seek hl ws
 have hsk:=yseek_any h hok ht (by omega) (by omega)
 rw [Ty.st_5 hk]
 generalize t.seek ws = q at *
 obtain ⟨b1, b2, t', n⟩:=q
 dsimp only at he hsk ⊢
 subst he
 have H:=Lib.hid h
 clear h hl
 cases b1
 ·rw [if_neg (by simp)]
  cases b2
  ·rw [if_neg (by simp)]
   go_enter Tryz.func65, Tryz.ntmps65
   go_wp2_with fail
   refine (hsk).mono ?_
   rintro e w5 ⟨rfl, lo5, ro5, h5, r5⟩
   have q5:=((TR.refl (W:=W) (tb:=tb) (mb:=mb) (wb:=wb) (lo:=lo) (ro:=ro))).trans r5
   have H5:=Lib.hid (h5)
   have Q5:=Lib.hid (q5)
   clear h5 q5 r5
   clear hsk
   go_wp2_with fail
   first | go_end0 | refine bodyPost_ret (results_none rfl _ _ _) rfl ?_
   exact ⟨rfl, lo5, ro5, H5.out, Q5.out⟩
  ·rw [if_pos rfl]
   by_cases hcl0 : t.closed = 0
   ·rw [if_neg (by simpa using hcl0)]
    dsimp only
    go_enter Tryz.func65, Tryz.ntmps65
    go_wp2_with fail
    refine hsk.mono ?_
    rintro e w5 ⟨rfl, lo5, ro5, h5, r5⟩
    have q5:=((TR.refl (W:=W) (tb:=tb) (mb:=mb) (wb:=wb) (lo:=lo) (ro:=ro))).trans r5
    have c8 : w5.cell? ⟨tb, 8, none⟩ = some (.i 0):=(h5.cell 8).trans (by show some (Value.int .i64 t.closed) = _; rw [hcl0])
    have f5_6 : w5.cell? ⟨tb, 6, none⟩ = some (.i t.st):=h5.cell 6
    have f5_f6:=h5.frozen 6
    have H5:=Lib.hid (h5)
    have Q5:=Lib.hid (q5)
    clear h5 q5 r5 hsk
    go_wp2_with fail
    first | go_end0 | refine bodyPost_ret (results_none rfl _ _ _) rfl ?_
    have h6:=(H5.out).put 6 (.i 8) { t with look:=some f', i:=i', word:=wd', st:=8 } rfl rfl rfl rfl
    have q6:=(Q5.out).set 6 (.i 8)
    exact ⟨rfl, lo5, ro5, h6, q6⟩
   ·rw [if_pos hcl0]
    dsimp only
    have hcl1 : (t.closed != 0) = true:=by simpa using hcl0
    have hcl2 : (t.closed == 0) = false:=by simpa using hcl0
    go_enter Tryz.func65, Tryz.ntmps65
    go_wp2_with fail
    refine hsk.mono ?_
    rintro e w5 ⟨rfl, lo5, ro5, h5, r5⟩
    have q5:=((TR.refl (W:=W) (tb:=tb) (mb:=mb) (wb:=wb) (lo:=lo) (ro:=ro))).trans r5
    have c8 : w5.cell? ⟨tb, 8, none⟩ = some (.i t.closed):=(h5.cell 8)
    have f5_6 : w5.cell? ⟨tb, 6, none⟩ = some (.i t.st):=h5.cell 6
    have f5_f6:=h5.frozen 6
    have H5:=Lib.hid (h5)
    have Q5:=Lib.hid (q5)
    clear h5 q5 r5 hsk
    go_wp2_with fail
    first | go_end0 | refine bodyPost_ret (results_none rfl _ _ _) rfl ?_
    have h6:=(H5.out).put 6 (.i 15) { t with look:=some f', i:=i', word:=wd', st:=15 } rfl rfl rfl rfl
    have q6:=(Q5.out).set 6 (.i 15)
    exact ⟨rfl, lo5, ro5, h6, q6⟩
 ·rw [if_pos rfl]
  have hw:=hok.w
  have hcl:=fun (w : World) (l5 r5 : Option Nat) (h : TyAt w tb mb wb l5 r5 { t with look:=some f', i:=i', word:=wd', other:=-1, st:=6 } ws (tc + n)) => yanother_any h ⟨hw, hc.w.2⟩ ⟨by simp, by simp only; omega⟩
  generalize Ty.Ty.another { t with look:=some f', i:=i', word:=wd', other:=-1, st:=6 } = a at *
  obtain ⟨a1, a2⟩:=a
  dsimp only at *
  cases a1
  ·rw [if_neg (by simp)]
   go_enter Tryz.func65, Tryz.ntmps65
   go_wp2_with fail
   refine (hsk).mono ?_
   rintro e w5 ⟨rfl, lo5, ro5, h5, r5⟩
   have q5:=((TR.refl (W:=W) (tb:=tb) (mb:=mb) (wb:=wb) (lo:=lo) (ro:=ro))).trans r5
   have f5_13 : w5.cell? ⟨tb, 13, none⟩ = some (.i t.other):=h5.cell 13
   have f5_6 : w5.cell? ⟨tb, 6, none⟩ = some (.i t.st):=h5.cell 6
   have f5_f13:=h5.frozen 13
   have f5_f6:=h5.frozen 6
   have H5:=Lib.hid (h5)
   have Q5:=Lib.hid (q5)
   clear h5 q5 r5
   clear hsk
   have h6:=(H5.out).put 13 (.i (-1)) { t with look:=some f', i:=i', word:=wd', other:=-1 } rfl rfl rfl rfl
   have q6:=(Q5.out).set 13 (.i (-1))
   have h7:=(h6).put 6 (.i 6) { t with look:=some f', i:=i', word:=wd', other:=-1, st:=6 } rfl rfl rfl rfl
   have q7:=(q6).set 6 (.i 6)
   have hcl:=hcl _ _ _ h7
   have H7:=Lib.hid (h7)
   have Q7:=Lib.hid (q7)
   clear h7 q7 h6 q6
   go_wp2_with fail
   refine hcl.mono ?_
   rintro e w8 ⟨rfl, lo8, ro8, h8, r8⟩
   have q8:=(Q7.out).trans r8
   have g6 : w8.cell? ⟨tb, 6, none⟩ = some (.i a2.st):=h8.cell 6
   have gf6:=h8.frozen 6
   have H8:=Lib.hid (h8)
   have Q8:=Lib.hid (q8)
   clear h8 q8 r8 hcl
   go_wp2_with fail
   first | go_end0 | refine bodyPost_ret (results_none rfl _ _ _) rfl ?_
   have h9:=(H8.out).put 6 (.i 7) { a2 with st:=7 } rfl rfl rfl rfl
   have q9:=(Q8.out).set 6 (.i 7)
   exact ⟨rfl, lo8, ro8, h9, q9⟩
  ·rw [if_pos rfl]
   go_enter Tryz.func65, Tryz.ntmps65
   go_wp2_with fail
   refine (hsk).mono ?_
   rintro e w5 ⟨rfl, lo5, ro5, h5, r5⟩
   have q5:=((TR.refl (W:=W) (tb:=tb) (mb:=mb) (wb:=wb) (lo:=lo) (ro:=ro))).trans r5
   have f5_13 : w5.cell? ⟨tb, 13, none⟩ = some (.i t.other):=h5.cell 13
   have f5_6 : w5.cell? ⟨tb, 6, none⟩ = some (.i t.st):=h5.cell 6
   have f5_f13:=h5.frozen 13
   have f5_f6:=h5.frozen 6
   have H5:=Lib.hid (h5)
   have Q5:=Lib.hid (q5)
   clear h5 q5 r5
   clear hsk
   have h6:=(H5.out).put 13 (.i (-1)) { t with look:=some f', i:=i', word:=wd', other:=-1 } rfl rfl rfl rfl
   have q6:=(Q5.out).set 13 (.i (-1))
   have h7:=(h6).put 6 (.i 6) { t with look:=some f', i:=i', word:=wd', other:=-1, st:=6 } rfl rfl rfl rfl
   have q7:=(q6).set 6 (.i 6)
   have hcl:=hcl _ _ _ h7
   have H7:=Lib.hid (h7)
   have Q7:=Lib.hid (q7)
   clear h7 q7 h6 q6
   go_wp2_with fail
   refine hcl.mono ?_
   rintro e w8 ⟨rfl, lo8, ro8, h8, r8⟩
   have q8:=(Q7.out).trans r8
   have H8:=Lib.hid (h8)
   have Q8:=Lib.hid (q8)
   clear h8 q8 r8 hcl
   go_wp2_with fail
   first | go_end0 | refine bodyPost_ret (results_none rfl _ _ _) rfl ?_
   exact ⟨rfl, lo8, ro8, H8.out, Q8.out⟩
theorem y_some {W : World} {tb mb wb : Nat} {lo ro : Option Nat} {t : Ty.Ty} {ws : List Int} {tc : Int} (h : TyAt W tb mb wb lo ro t ws tc) (hok : Ty.TyOk t ws.length) (ht : 0 ≤ tc ∧ tc ≤ 4000000000000000000) (hk : t.st = 9) : Calls Tryz.prog 69 #[.pointer (some ⟨tb, 0, none⟩), .pointer (some ⟨mb, 0, none⟩)] W (YSPost W tb mb wb lo ro t ws tc):=by
 unfold YSPost
 have hc : Small t.cf:=⟨hok.c.w, hok.c.s⟩
 obtain ⟨f, hl⟩:=hok.has (by omega) (by omega)
 obtain ⟨f', i', wd', hf', hi', he⟩:=hok.seek hl ws
 have hsk:=yseek_any h hok ht (by omega) (by omega)
 rw [Ty.st_9 hk]
 generalize t.seek ws = q at *
 obtain ⟨b1, b2, t', n⟩:=q
 dsimp only at he hsk ⊢
 subst he
 have H:=Lib.hid h
 clear h hl
 cases b1
 ·rw [if_neg (by simp)]
  cases b2
  ·rw [if_neg (by simp)]
   go_enter Tryz.func69, Tryz.ntmps69
   go_wp2_with fail
   refine (hsk).mono ?_
   rintro e w5 ⟨rfl, lo5, ro5, h5, r5⟩
   have q5:=((TR.refl (W:=W) (tb:=tb) (mb:=mb) (wb:=wb) (lo:=lo) (ro:=ro))).trans r5
   have H5:=Lib.hid (h5)
   have Q5:=Lib.hid (q5)
   clear h5 q5 r5
   clear hsk
   go_wp2_with fail
   first | go_end0 | refine bodyPost_ret (results_none rfl _ _ _) rfl ?_
   exact ⟨rfl, lo5, ro5, H5.out, Q5.out⟩
  ·rw [if_pos rfl]
   go_enter Tryz.func69, Tryz.ntmps69
   go_wp2_with fail
   refine (hsk).mono ?_
   rintro e w5 ⟨rfl, lo5, ro5, h5, r5⟩
   have q5:=((TR.refl (W:=W) (tb:=tb) (mb:=mb) (wb:=wb) (lo:=lo) (ro:=ro))).trans r5
   have f5_6 : w5.cell? ⟨tb, 6, none⟩ = some (.i t.st):=h5.cell 6
   have f5_f6:=h5.frozen 6
   have H5:=Lib.hid (h5)
   have Q5:=Lib.hid (q5)
   clear h5 q5 r5
   clear hsk
   go_wp2_with fail
   first | go_end0 | refine bodyPost_ret (results_none rfl _ _ _) rfl ?_
   have h6:=(H5.out).put 6 (.i 15) { t with look:=some f', i:=i', word:=wd', st:=15 } rfl rfl rfl rfl
   have q6:=(Q5.out).set 6 (.i 15)
   exact ⟨rfl, lo5, ro5, h6, q6⟩
 ·rw [if_pos rfl]
  go_enter Tryz.func69, Tryz.ntmps69
  go_wp2_with fail
  refine (hsk).mono ?_
  rintro e w5 ⟨rfl, lo5, ro5, h5, r5⟩
  have q5:=((TR.refl (W:=W) (tb:=tb) (mb:=mb) (wb:=wb) (lo:=lo) (ro:=ro))).trans r5
  have f5_6 : w5.cell? ⟨tb, 6, none⟩ = some (.i t.st):=h5.cell 6
  have f5_f6:=h5.frozen 6
  have H5:=Lib.hid (h5)
  have Q5:=Lib.hid (q5)
  clear h5 q5 r5
  clear hsk
  go_wp2_with fail
  first | go_end0 | refine bodyPost_ret (results_none rfl _ _ _) rfl ?_
  have h6:=(H5.out).put 6 (.i 10) { t with look:=some f', i:=i', word:=wd', st:=10 } rfl rfl rfl rfl
  have q6:=(Q5.out).set 6 (.i 10)
  exact ⟨rfl, lo5, ro5, h6, q6⟩
theorem y_clear {W : World} {tb mb wb : Nat} {lo ro : Option Nat} {t : Ty.Ty} {ws : List Int} {tc : Int} (h : TyAt W tb mb wb lo ro t ws tc) (hok : Ty.TyOk t ws.length) (ht : 0 ≤ tc ∧ tc ≤ 4000000000000000000) (hk : t.st = 7) : Calls Tryz.prog 67 #[.pointer (some ⟨tb, 0, none⟩), .pointer (some ⟨mb, 0, none⟩)] W (YSPost W tb mb wb lo ro t ws tc):=by
 unfold YSPost
 have hc : Small t.cf:=⟨hok.c.w, hok.c.s⟩
 have hi:=hok.i
 have hlen : Tk.sc t.cf t.i < ws.length:=by have:=hok.len; unfold Tk.sc; omega
 have hsl:=fun W => slot_any W t.cf t.i hc.w ⟨by have:=hc.s; unfold Tk.ns at hi; omega, hc.s.2⟩
 have hsc : (3 + 2 * t.cf.workers + (t.i : Int)) = ((Tk.sc t.cf t.i : Nat) : Int):=by have:=hc.w; unfold Tk.sc; omega
 simp only [hsc, Conf.Cf.val, Conf.Cf.cells] at hsl
 clear hsc
 obtain ⟨f, hf⟩:=hok.has (by omega) (by omega)
 have hfo:=hok.look f hf
 have hgo : t.go = { t with look:=some f.go }:=by unfold Ty.Ty.go Ty.Ty.fd; rw [hf]; rfl
 have hag : t.again = { t with look:=some f.again }:=by unfold Ty.Ty.again Ty.Ty.fd; rw [hf]; rfl
 have hat : f.at' ≤ 1000:=by have:=hfo.2.1; have:=hc.s; unfold Tk.ns at *; omega
 rw [Ty.st_7 hk]
 have hsw:=yswap_any h hc ht hok.i hlen 12 (by simp [DoneY]) t.w
 dsimp only
 rw [hgo]
 generalize t.swap 12 t.w ws = q at *
 obtain ⟨b, ws', n⟩:=q
 dsimp only at *
 have e4_5 : W.cell? ⟨tb, 5, none⟩ = some (.i t.w):=h.cell 5
 have H:=Lib.hid h
 clear h hsl
 go_enter Tryz.func67, Tryz.ntmps67
 go_wp2_with fail
 refine hsw.mono ?_
 rintro e w5 ⟨rfl, lo5, ro5, h5, r5⟩
 have q5:=((TR.refl (W:=W) (tb:=tb) (mb:=mb) (wb:=wb) (lo:=lo) (ro:=ro))).trans r5
 obtain ⟨fb5, hlo5, hF5⟩:=h5.look f hf
 have l5_10 : w5.cell? ⟨tb, 10, none⟩ = some (.pointer (some ⟨fb5, 0, none⟩)):=(h5.cell 10).trans (by first | (rw [hlo5]; rfl) | (show some (ptrOf _) = _; rw [hlo5]; rfl))
 have hlk5:=go_any hF5 hat
 clear hF5
 have H5:=Lib.hid (h5)
 have Q5:=Lib.hid (q5)
 clear h5 q5 r5 hsw
 go_wp2_with fail
 refine hlk5.mono ?_
 rintro e w6 ⟨rfl, hF6, hC6⟩
 have h6:=(H5.out).looked hlo5 hC6 hF6
 have q6:=(Q5.out).looked hlo5 hC6
 have g6_6 : w6.cell? ⟨tb, 6, none⟩ = some (.i t.st):=h6.cell 6
 have g6_f6:=h6.frozen 6
 have H6:=Lib.hid (h6)
 have Q6:=Lib.hid (q6)
 clear h6 q6 hF6 hC6 hlk5 l5_10
 go_wp2_with fail
 first | go_end0 | refine bodyPost_ret (results_none rfl _ _ _) rfl ?_
 have h7:=(H6.out).put 6 (.i 5) { t with look:=some f.go, st:=5 } rfl rfl rfl rfl
 have q7:=(Q6.out).set 6 (.i 5)
 exact ⟨rfl, lo5, ro5, h7, q7⟩
theorem y_keep {W : World} {tb mb wb : Nat} {lo ro : Option Nat} {t : Ty.Ty} {ws : List Int} {tc : Int} (h : TyAt W tb mb wb lo ro t ws tc) (hok : Ty.TyOk t ws.length) (ht : 0 ≤ tc ∧ tc ≤ 4000000000000000000) (hk : t.st = 10) : Calls Tryz.prog 70 #[.pointer (some ⟨tb, 0, none⟩), .pointer (some ⟨mb, 0, none⟩)] W (YSPost W tb mb wb lo ro t ws tc):=by
 unfold YSPost
 have hc : Small t.cf:=⟨hok.c.w, hok.c.s⟩
 have hi:=hok.i
 have hlen : Tk.sc t.cf t.i < ws.length:=by have:=hok.len; unfold Tk.sc; omega
 have hsl:=fun W => slot_any W t.cf t.i hc.w ⟨by have:=hc.s; unfold Tk.ns at hi; omega, hc.s.2⟩
 have hsc : (3 + 2 * t.cf.workers + (t.i : Int)) = ((Tk.sc t.cf t.i : Nat) : Int):=by have:=hc.w; unfold Tk.sc; omega
 simp only [hsc, Conf.Cf.val, Conf.Cf.cells] at hsl
 clear hsc
 obtain ⟨f, hf⟩:=hok.has (by omega) (by omega)
 have hfo:=hok.look f hf
 have hgo : t.go = { t with look:=some f.go }:=by unfold Ty.Ty.go Ty.Ty.fd; rw [hf]; rfl
 have hag : t.again = { t with look:=some f.again }:=by unfold Ty.Ty.again Ty.Ty.fd; rw [hf]; rfl
 have hat : f.at' ≤ 1000:=by have:=hfo.2.1; have:=hc.s; unfold Tk.ns at *; omega
 rw [Ty.st_10 hk]
 have his:=yis_any h
 dsimp only
 by_cases e2 : t.is = 2
 ·rw [if_pos e2]
  rw [e2] at his
  have hsw:=fun w (h : TyAt w tb mb wb lo ro t ws tc) => yswap_any h hc ht hok.i hlen 5 (by simp [DoneY]) t.head
  generalize t.swap 5 t.head ws = q at *
  obtain ⟨b, ws', n⟩:=q
  dsimp only at *
  have H:=Lib.hid h
  clear h hsl
  rw [hag]
  cases b
  ·rw [if_neg (by simp)]
   go_enter Tryz.func70, Tryz.ntmps70
   go_wp2_with fail
   refine his.mono ?_
   rintro e w5 ⟨rfl, hb5⟩
   have h5:=(H.out).below hb5
   have q5:=((TR.refl (W:=W) (tb:=tb) (mb:=mb) (wb:=wb) (lo:=lo) (ro:=ro))).below hb5
   have f5_14 : w5.cell? ⟨tb, 14, none⟩ = some (.i t.head):=h5.cell 14
   have hsw:=hsw _ h5
   have H5:=Lib.hid (h5)
   have Q5:=Lib.hid (q5)
   clear h5 q5 hb5 his
   go_wp2_with fail
   refine hsw.mono ?_
   rintro e w6 ⟨rfl, lo6, ro6, h6, r6⟩
   have q6:=(Q5.out).trans r6
   obtain ⟨fb6, hlo6, hF6⟩:=h6.look f hf
   have l6_10 : w6.cell? ⟨tb, 10, none⟩ = some (.pointer (some ⟨fb6, 0, none⟩)):=(h6.cell 10).trans (by first | (rw [hlo6]; rfl) | (show some (ptrOf _) = _; rw [hlo6]; rfl))
   have hlk6:=again_any hF6
   clear hF6
   have H6:=Lib.hid (h6)
   have Q6:=Lib.hid (q6)
   clear h6 q6 r6 hsw
   go_wp2_with fail
   refine hlk6.mono ?_
   rintro e w7 ⟨rfl, hF7, hC7⟩
   have h7:=(H6.out).looked hlo6 hC7 hF7
   have q7:=(Q6.out).looked hlo6 hC7
   have i7_6 : w7.cell? ⟨tb, 6, none⟩ = some (.i t.st):=h7.cell 6
   have i7_f6:=h7.frozen 6
   have H7:=Lib.hid (h7)
   have Q7:=Lib.hid (q7)
   clear h7 q7 hF7 hC7 hlk6 l6_10
   go_wp2_with fail
   first | go_end0 | refine bodyPost_ret (results_none rfl _ _ _) rfl ?_
   have h8:=(H7.out).put 6 (.i 9) { t with look:=some f.again, st:=9 } rfl rfl rfl rfl
   have q8:=(Q7.out).set 6 (.i 9)
   exact ⟨rfl, lo6, ro6, h8, q8⟩
  ·rw [if_pos rfl]
   go_enter Tryz.func70, Tryz.ntmps70
   go_wp2_with fail
   refine his.mono ?_
   rintro e w5 ⟨rfl, hb5⟩
   have h5:=(H.out).below hb5
   have q5:=((TR.refl (W:=W) (tb:=tb) (mb:=mb) (wb:=wb) (lo:=lo) (ro:=ro))).below hb5
   have f5_14 : w5.cell? ⟨tb, 14, none⟩ = some (.i t.head):=h5.cell 14
   have hsw:=hsw _ h5
   have H5:=Lib.hid (h5)
   have Q5:=Lib.hid (q5)
   clear h5 q5 hb5 his
   go_wp2_with fail
   refine hsw.mono ?_
   rintro e w6 ⟨rfl, lo6, ro6, h6, r6⟩
   have q6:=(Q5.out).trans r6
   have g6_6 : w6.cell? ⟨tb, 6, none⟩ = some (.i t.st):=h6.cell 6
   have g6_f6:=h6.frozen 6
   have H6:=Lib.hid (h6)
   have Q6:=Lib.hid (q6)
   clear h6 q6 r6 hsw
   go_wp2_with fail
   first | go_end0 | refine bodyPost_ret (results_none rfl _ _ _) rfl ?_
   have h7:=(H6.out).put 6 (.i 11) { t with st:=11 } rfl rfl rfl rfl
   have q7:=(Q6.out).set 6 (.i 11)
   exact ⟨rfl, lo6, ro6, h7, q7⟩
 ·rw [if_neg e2]
  have e3 : (t.is == 2) = false:=by simpa using e2
  have hsw:=fun w (h : TyAt w tb mb wb lo ro t ws tc) => yswap_any h hc ht hok.i hlen 7 (by simp [DoneY]) t.head
  generalize t.swap 7 t.head ws = q at *
  obtain ⟨b, ws', n⟩:=q
  dsimp only at *
  have H:=Lib.hid h
  clear h hsl
  rw [hag]
  cases b
  ·rw [if_neg (by simp)]
   go_enter Tryz.func70, Tryz.ntmps70
   go_wp2_with fail
   refine his.mono ?_
   rintro e w5 ⟨rfl, hb5⟩
   have h5:=(H.out).below hb5
   have q5:=((TR.refl (W:=W) (tb:=tb) (mb:=mb) (wb:=wb) (lo:=lo) (ro:=ro))).below hb5
   have f5_14 : w5.cell? ⟨tb, 14, none⟩ = some (.i t.head):=h5.cell 14
   have hsw:=hsw _ h5
   have H5:=Lib.hid (h5)
   have Q5:=Lib.hid (q5)
   clear h5 q5 hb5 his
   go_wp2_with fail
   refine hsw.mono ?_
   rintro e w6 ⟨rfl, lo6, ro6, h6, r6⟩
   have q6:=(Q5.out).trans r6
   obtain ⟨fb6, hlo6, hF6⟩:=h6.look f hf
   have l6_10 : w6.cell? ⟨tb, 10, none⟩ = some (.pointer (some ⟨fb6, 0, none⟩)):=(h6.cell 10).trans (by first | (rw [hlo6]; rfl) | (show some (ptrOf _) = _; rw [hlo6]; rfl))
   have hlk6:=again_any hF6
   clear hF6
   have H6:=Lib.hid (h6)
   have Q6:=Lib.hid (q6)
   clear h6 q6 r6 hsw
   go_wp2_with fail
   refine hlk6.mono ?_
   rintro e w7 ⟨rfl, hF7, hC7⟩
   have h7:=(H6.out).looked hlo6 hC7 hF7
   have q7:=(Q6.out).looked hlo6 hC7
   have i7_6 : w7.cell? ⟨tb, 6, none⟩ = some (.i t.st):=h7.cell 6
   have i7_f6:=h7.frozen 6
   have H7:=Lib.hid (h7)
   have Q7:=Lib.hid (q7)
   clear h7 q7 hF7 hC7 hlk6 l6_10
   go_wp2_with fail
   first | go_end0 | refine bodyPost_ret (results_none rfl _ _ _) rfl ?_
   have h8:=(H7.out).put 6 (.i 9) { t with look:=some f.again, st:=9 } rfl rfl rfl rfl
   have q8:=(Q7.out).set 6 (.i 9)
   exact ⟨rfl, lo6, ro6, h8, q8⟩
  ·rw [if_pos rfl]
   go_enter Tryz.func70, Tryz.ntmps70
   go_wp2_with fail
   refine his.mono ?_
   rintro e w5 ⟨rfl, hb5⟩
   have h5:=(H.out).below hb5
   have q5:=((TR.refl (W:=W) (tb:=tb) (mb:=mb) (wb:=wb) (lo:=lo) (ro:=ro))).below hb5
   have f5_14 : w5.cell? ⟨tb, 14, none⟩ = some (.i t.head):=h5.cell 14
   have hsw:=hsw _ h5
   have H5:=Lib.hid (h5)
   have Q5:=Lib.hid (q5)
   clear h5 q5 hb5 his
   go_wp2_with fail
   refine hsw.mono ?_
   rintro e w6 ⟨rfl, lo6, ro6, h6, r6⟩
   have q6:=(Q5.out).trans r6
   have g6_6 : w6.cell? ⟨tb, 6, none⟩ = some (.i t.st):=h6.cell 6
   have g6_f6:=h6.frozen 6
   have H6:=Lib.hid (h6)
   have Q6:=Lib.hid (q6)
   clear h6 q6 r6 hsw
   go_wp2_with fail
   first | go_end0 | refine bodyPost_ret (results_none rfl _ _ _) rfl ?_
   have h7:=(H6.out).put 6 (.i 11) { t with st:=11 } rfl rfl rfl rfl
   have q7:=(Q6.out).set 6 (.i 11)
   exact ⟨rfl, lo6, ro6, h7, q7⟩
theorem y_unkeep {W : World} {tb mb wb : Nat} {lo ro : Option Nat} {t : Ty.Ty} {ws : List Int} {tc : Int} (h : TyAt W tb mb wb lo ro t ws tc) (hok : Ty.TyOk t ws.length) (ht : 0 ≤ tc ∧ tc ≤ 4000000000000000000) (hk : t.st = 14) : Calls Tryz.prog 74 #[.pointer (some ⟨tb, 0, none⟩), .pointer (some ⟨mb, 0, none⟩)] W (YSPost W tb mb wb lo ro t ws tc):=by
 unfold YSPost
 have hc : Small t.cf:=⟨hok.c.w, hok.c.s⟩
 have hi:=hok.i
 have hlen : Tk.sc t.cf t.i < ws.length:=by have:=hok.len; unfold Tk.sc; omega
 have hsl:=fun W => slot_any W t.cf t.i hc.w ⟨by have:=hc.s; unfold Tk.ns at hi; omega, hc.s.2⟩
 have hsc : (3 + 2 * t.cf.workers + (t.i : Int)) = ((Tk.sc t.cf t.i : Nat) : Int):=by have:=hc.w; unfold Tk.sc; omega
 simp only [hsc, Conf.Cf.val, Conf.Cf.cells] at hsl
 clear hsc
 rw [Ty.st_14 hk]
 have his:=yis_any h
 dsimp only
 by_cases e2 : t.is = 4
 ·rw [if_pos e2]
  rw [e2] at his
  have hsw:=fun w (h : TyAt w tb mb wb lo ro { t with st:=13 } ws tc) => yswap_any h hc ht hok.i hlen 6 (by simp [DoneY]) t.w
  have hsq : Ty.Ty.swap { t with st:=13 } 6 t.w ws = t.swap 6 t.w ws:=rfl
  rw [hsq] at hsw
  clear hsq
  generalize t.swap 6 t.w ws = q at *
  obtain ⟨b, ws', n⟩:=q
  dsimp only at *
  have H:=Lib.hid h
  clear h hsl
  cases b
  ·rw [if_neg (by simp)]
   go_enter Tryz.func74, Tryz.ntmps74
   go_wp2_with fail
   refine his.mono ?_
   rintro e w5 ⟨rfl, hb5⟩
   have h5:=(H.out).below hb5
   have q5:=((TR.refl (W:=W) (tb:=tb) (mb:=mb) (wb:=wb) (lo:=lo) (ro:=ro))).below hb5
   have f5_6 : w5.cell? ⟨tb, 6, none⟩ = some (.i t.st):=h5.cell 6
   have f5_f6:=h5.frozen 6
   have h5p:=h5.put 6 (.i 13) { t with st:=13 } rfl rfl rfl rfl
   have q5p:=q5.set 6 (.i 13)
   have s_5 : (w5.setCell ⟨tb, 6, none⟩ (.i 13)).cell? ⟨tb, 5, none⟩ = some (.i t.w):=h5p.cell 5
   have hsw:=hsw _ h5p
   have H5:=Lib.hid (h5p)
   have Q5:=Lib.hid (q5p)
   clear h5 q5 hb5 his h5p q5p
   go_wp2_with fail
   refine hsw.mono ?_
   rintro e w6 ⟨rfl, lo6, ro6, h6, r6⟩
   have q6:=(Q5.out).trans r6
   have H6:=Lib.hid (h6)
   have Q6:=Lib.hid (q6)
   clear h6 q6 r6 hsw
   go_wp2_with fail
   first | go_end0 | refine bodyPost_ret (results_none rfl _ _ _) rfl ?_
   exact ⟨rfl, lo6, ro6, H6.out, Q6.out⟩
  ·rw [if_pos rfl]
   go_enter Tryz.func74, Tryz.ntmps74
   go_wp2_with fail
   refine his.mono ?_
   rintro e w5 ⟨rfl, hb5⟩
   have h5:=(H.out).below hb5
   have q5:=((TR.refl (W:=W) (tb:=tb) (mb:=mb) (wb:=wb) (lo:=lo) (ro:=ro))).below hb5
   have f5_6 : w5.cell? ⟨tb, 6, none⟩ = some (.i t.st):=h5.cell 6
   have f5_f6:=h5.frozen 6
   have h5p:=h5.put 6 (.i 13) { t with st:=13 } rfl rfl rfl rfl
   have q5p:=q5.set 6 (.i 13)
   have s_5 : (w5.setCell ⟨tb, 6, none⟩ (.i 13)).cell? ⟨tb, 5, none⟩ = some (.i t.w):=h5p.cell 5
   have hsw:=hsw _ h5p
   have H5:=Lib.hid (h5p)
   have Q5:=Lib.hid (q5p)
   clear h5 q5 hb5 his h5p q5p
   go_wp2_with fail
   refine hsw.mono ?_
   rintro e w6 ⟨rfl, lo6, ro6, h6, r6⟩
   have q6:=(Q5.out).trans r6
   have g6_6 : w6.cell? ⟨tb, 6, none⟩ = some (.i 13):=h6.cell 6
   have g6_f6:=h6.frozen 6
   have H6:=Lib.hid (h6)
   have Q6:=Lib.hid (q6)
   clear h6 q6 r6 hsw
   go_wp2_with fail
   first | go_end0 | refine bodyPost_ret (results_none rfl _ _ _) rfl ?_
   have h7:=(H6.out).put 6 (.i 2) { t with st:=2 } rfl rfl rfl rfl
   have q7:=(Q6.out).set 6 (.i 2)
   exact ⟨rfl, lo6, ro6, h7, q7⟩
 ·rw [if_neg e2]
  have e3 : (t.is == 4) = false:=by simpa using e2
  have hsw:=fun w (h : TyAt w tb mb wb lo ro { t with st:=13 } ws tc) => yswap_any h hc ht hok.i hlen 8 (by simp [DoneY]) t.w
  have hsq : Ty.Ty.swap { t with st:=13 } 8 t.w ws = t.swap 8 t.w ws:=rfl
  rw [hsq] at hsw
  clear hsq
  generalize t.swap 8 t.w ws = q at *
  obtain ⟨b, ws', n⟩:=q
  dsimp only at *
  have H:=Lib.hid h
  clear h hsl
  cases b
  ·rw [if_neg (by simp)]
   go_enter Tryz.func74, Tryz.ntmps74
   go_wp2_with fail
   refine his.mono ?_
   rintro e w5 ⟨rfl, hb5⟩
   have h5:=(H.out).below hb5
   have q5:=((TR.refl (W:=W) (tb:=tb) (mb:=mb) (wb:=wb) (lo:=lo) (ro:=ro))).below hb5
   have f5_6 : w5.cell? ⟨tb, 6, none⟩ = some (.i t.st):=h5.cell 6
   have f5_f6:=h5.frozen 6
   have h5p:=h5.put 6 (.i 13) { t with st:=13 } rfl rfl rfl rfl
   have q5p:=q5.set 6 (.i 13)
   have s_5 : (w5.setCell ⟨tb, 6, none⟩ (.i 13)).cell? ⟨tb, 5, none⟩ = some (.i t.w):=h5p.cell 5
   have hsw:=hsw _ h5p
   have H5:=Lib.hid (h5p)
   have Q5:=Lib.hid (q5p)
   clear h5 q5 hb5 his h5p q5p
   go_wp2_with fail
   refine hsw.mono ?_
   rintro e w6 ⟨rfl, lo6, ro6, h6, r6⟩
   have q6:=(Q5.out).trans r6
   have H6:=Lib.hid (h6)
   have Q6:=Lib.hid (q6)
   clear h6 q6 r6 hsw
   go_wp2_with fail
   first | go_end0 | refine bodyPost_ret (results_none rfl _ _ _) rfl ?_
   exact ⟨rfl, lo6, ro6, H6.out, Q6.out⟩
  ·rw [if_pos rfl]
   go_enter Tryz.func74, Tryz.ntmps74
   go_wp2_with fail
   refine his.mono ?_
   rintro e w5 ⟨rfl, hb5⟩
   have h5:=(H.out).below hb5
   have q5:=((TR.refl (W:=W) (tb:=tb) (mb:=mb) (wb:=wb) (lo:=lo) (ro:=ro))).below hb5
   have f5_6 : w5.cell? ⟨tb, 6, none⟩ = some (.i t.st):=h5.cell 6
   have f5_f6:=h5.frozen 6
   have h5p:=h5.put 6 (.i 13) { t with st:=13 } rfl rfl rfl rfl
   have q5p:=q5.set 6 (.i 13)
   have s_5 : (w5.setCell ⟨tb, 6, none⟩ (.i 13)).cell? ⟨tb, 5, none⟩ = some (.i t.w):=h5p.cell 5
   have hsw:=hsw _ h5p
   have H5:=Lib.hid (h5p)
   have Q5:=Lib.hid (q5p)
   clear h5 q5 hb5 his h5p q5p
   go_wp2_with fail
   refine hsw.mono ?_
   rintro e w6 ⟨rfl, lo6, ro6, h6, r6⟩
   have q6:=(Q5.out).trans r6
   have g6_6 : w6.cell? ⟨tb, 6, none⟩ = some (.i 13):=h6.cell 6
   have g6_f6:=h6.frozen 6
   have H6:=Lib.hid (h6)
   have Q6:=Lib.hid (q6)
   clear h6 q6 r6 hsw
   go_wp2_with fail
   first | go_end0 | refine bodyPost_ret (results_none rfl _ _ _) rfl ?_
   have h7:=(H6.out).put 6 (.i 2) { t with st:=2 } rfl rfl rfl rfl
   have q7:=(Q6.out).set 6 (.i 2)
   exact ⟨rfl, lo6, ro6, h7, q7⟩
theorem y_pop {W : World} {tb mb wb : Nat} {lo ro : Option Nat} {t : Ty.Ty} {ws : List Int} {tc : Int} (h : TyAt W tb mb wb lo ro t ws tc) (hok : Ty.TyOk t ws.length) (ht : 0 ≤ tc ∧ tc ≤ 4000000000000000000) (hk : t.st = 11) : Calls Tryz.prog 71 #[.pointer (some ⟨tb, 0, none⟩), .pointer (some ⟨mb, 0, none⟩)] W (YSPost W tb mb wb lo ro t ws tc):=by
 unfold YSPost
 have hc : Small t.cf:=⟨hok.c.w, hok.c.s⟩
 have hpo:=fun W => Line.pop_any W t.queue
 have hx:=rd_some (ws:=ws) (i:=1) (by have:=hok.len; omega)
 rw [Ty.st_11 hk]
 unfold Tk.cas
 by_cases e1 : Tk.rd ws 1 = t.queue
 ·rw [if_pos e1]
  dsimp only
  rw [if_pos rfl]
  rw [e1] at hx
  have hcs : ∀ W, CAt W mb wb ws tc → Calls Tryz.prog 105 #[.pointer (some ⟨mb, 0, none⟩), .i 1, .i t.queue, .i (t.queue / 16)] W _:=fun W h => cas_eq h ht 1 t.queue hx (t.queue / 16)
  have e4_6 : W.cell? ⟨tb, 6, none⟩ = some (.i t.st):=h.cell 6
  have e4_f6:=h.frozen 6
  have h5:=(h).put 6 (.i 13) { t with st:=13 } rfl rfl rfl rfl
  have q5:=((TR.refl (W:=W) (tb:=tb) (mb:=mb) (wb:=wb) (lo:=lo) (ro:=ro))).set 6 (.i 13)
  have s_9 : (W.setCell ⟨tb, 6, none⟩ (.i 13)).cell? ⟨tb, 9, none⟩ = some (.i t.queue):=h5.cell 9
  have H5:=Lib.hid (h5)
  have Q5:=Lib.hid (q5)
  clear h h5 q5 hx
  go_enter Tryz.func71, Tryz.ntmps71
  go_wp2_with fail
  go_region_held3 (fun w' => w'.cell? ⟨tb, 9, none⟩ = some (.i t.queue)) (first | go_keep | assumption | (rw [World.cell?_setCell_other _ _ _ _ (by simp)]; assumption))
   ((first
   | (go_at_call 106; refine (hpo _).mono ?_; rintro e w6 ⟨rfl, rfl⟩; have h6:=((H5.out).below (Below.refl _ _).drew); have z6_9 : (W.setCell ⟨tb, 6, none⟩ (.i 13)).cell? ⟨tb, 9, none⟩ = some (.i t.queue):=h6.cell 9)
   | (go_at_call 105; refine (hcs _ h6.mem).mono ?_; rintro e w7 ⟨rfl, hM7, hC7⟩; have h7:=h6.mems hC7 hM7; have z7_9 : w7.cell? ⟨tb, 9, none⟩ = some (.i t.queue):=h7.cell 9)))
  have q7:=(((Q5.out).below (Below.refl _ _).drew).mem hC7)
  have H7:=Lib.hid (h7)
  have Q7:=Lib.hid (q7)
  clear h7 q7 hC7 hM7 h6
  have i7_6 : w7.cell? ⟨tb, 6, none⟩ = some (.i 13):=H7.out.cell 6
  have i7_f6:=H7.out.frozen 6
  go_wp2_with fail
  first | go_end0 | refine bodyPost_ret (results_none rfl _ _ _) rfl ?_
  have h8:=(H7.out).put 6 (.i 12) { t with st:=12 } rfl rfl rfl rfl
  have q8:=(Q7.out).set 6 (.i 12)
  exact ⟨rfl, lo, ro, h8, q8⟩
 ·rw [if_neg e1]
  dsimp only
  rw [if_neg (by simp)]
  have hcs : ∀ W, CAt W mb wb ws tc → Calls Tryz.prog 105 #[.pointer (some ⟨mb, 0, none⟩), .i 1, .i t.queue, .i (t.queue / 16)] W _:=fun W h => cas_ne h ht 1 _ hx t.queue (t.queue / 16) e1
  have e4_6 : W.cell? ⟨tb, 6, none⟩ = some (.i t.st):=h.cell 6
  have e4_f6:=h.frozen 6
  have h5:=(h).put 6 (.i 13) { t with st:=13 } rfl rfl rfl rfl
  have q5:=((TR.refl (W:=W) (tb:=tb) (mb:=mb) (wb:=wb) (lo:=lo) (ro:=ro))).set 6 (.i 13)
  have s_9 : (W.setCell ⟨tb, 6, none⟩ (.i 13)).cell? ⟨tb, 9, none⟩ = some (.i t.queue):=h5.cell 9
  have H5:=Lib.hid (h5)
  have Q5:=Lib.hid (q5)
  clear h h5 q5 hx
  go_enter Tryz.func71, Tryz.ntmps71
  go_wp2_with fail
  go_region_held3 (fun w' => w'.cell? ⟨tb, 9, none⟩ = some (.i t.queue)) (first | go_keep | assumption | (rw [World.cell?_setCell_other _ _ _ _ (by simp)]; assumption))
   ((first
   | (go_at_call 106; refine (hpo _).mono ?_; rintro e w6 ⟨rfl, rfl⟩; have h6:=((H5.out).below (Below.refl _ _).drew); have z6_9 : (W.setCell ⟨tb, 6, none⟩ (.i 13)).cell? ⟨tb, 9, none⟩ = some (.i t.queue):=h6.cell 9)
   | (go_at_call 105; refine (hcs _ h6.mem).mono ?_; rintro e w7 ⟨rfl, hM7, hC7⟩; have h7:=h6.mems hC7 hM7; have z7_9 : w7.cell? ⟨tb, 9, none⟩ = some (.i t.queue):=h7.cell 9)))
  have q7:=(((Q5.out).below (Below.refl _ _).drew).mem hC7)
  have H7:=Lib.hid (h7)
  have Q7:=Lib.hid (q7)
  clear h7 q7 hC7 hM7 h6
  have i7_6 : w7.cell? ⟨tb, 6, none⟩ = some (.i 13):=H7.out.cell 6
  have i7_f6:=H7.out.frozen 6
  go_wp2_with fail
  first | go_end0 | refine bodyPost_ret (results_none rfl _ _ _) rfl ?_
  exact ⟨rfl, lo, ro, H7.out, Q7.out⟩
theorem y_grant {W : World} {tb mb wb : Nat} {lo ro : Option Nat} {t : Ty.Ty} {ws : List Int} {tc : Int} (h : TyAt W tb mb wb lo ro t ws tc) (hok : Ty.TyOk t ws.length) (ht : 0 ≤ tc ∧ tc ≤ 4000000000000000000) (hk : t.st = 12) : Calls Tryz.prog 72 #[.pointer (some ⟨tb, 0, none⟩), .pointer (some ⟨mb, 0, none⟩)] W (YSPost W tb mb wb lo ro t ws tc):=by
 unfold YSPost
 have hc : Small t.cf:=⟨hok.c.w, hok.c.s⟩
 have hh:=hok.head (by omega) (by omega)
 obtain ⟨hn, hhn⟩ : ∃ hn : Nat, t.head = hn:=⟨t.head.toNat, by omega⟩
 have htn : t.head.toNat = hn:=by omega
 have hgl : Ty.gc t.cf hn < ws.length:=by have:=hok.len; unfold Ty.gc; omega
 have hgr:=fun W => grant_any W t.cf hn hc.w (by omega)
 have hgc : (3 + t.cf.workers + (hn : Int)) = ((Ty.gc t.cf hn : Nat) : Int):=by have:=hc.w; unfold Ty.gc; omega
 simp only [hgc, Conf.Cf.val, Conf.Cf.cells] at hgr
 have hi1 : wrap64 ((t.i : Int) + 1) = (t.i : Int) + 1:=by have:=hok.i; have:=hc.s; unfold Tk.ns at *; unfold wrap64; omega
 clear hgc
 rw [Ty.st_12 hk]
 rw [htn]
 have hxp:=rd_some hgl
 have hst:=fun W (h : CAt W mb wb ws tc) => store_any h ht (Ty.gc t.cf hn) _ hxp ((t.i : Int) + 1)
 have hi2 : IntKind.i64.wrap ((t.i : Int) + 1) = (t.i : Int) + 1:=by have:=hok.i; have:=hc.s; rw [IntKind.wrap_i64]; unfold Tk.ns at *; omega
 have hcell14 : ∀ {w : World}, TyAt w tb mb wb lo ro t ws tc → w.cell? ⟨tb, 14, none⟩ = some (.i hn):=fun h => (h.cell 14).trans (by show some (Value.int .i64 t.head) = _; rw [hhn])
 have hcell14' : ∀ {w : World} {ws' : List Int} {tc' : Int}, TyAt w tb mb wb lo ro t ws' tc' → w.cell? ⟨tb, 14, none⟩ = some (.i hn):=fun h => (h.cell 14).trans (by show some (Value.int .i64 t.head) = _; rw [hhn])
 have e4_0 : W.cell? ⟨tb, 0, none⟩ = some (.i t.cf.workers):=h.cell 0
 have e4_1 : W.cell? ⟨tb, 1, none⟩ = some (.i t.cf.slots):=h.cell 1
 have e4_2 : W.cell? ⟨tb, 2, none⟩ = some (.i t.cf.streams):=h.cell 2
 have e4_3 : W.cell? ⟨tb, 3, none⟩ = some (.i t.cf.waiters):=h.cell 3
 have e4_4 : W.cell? ⟨tb, 4, none⟩ = some (.i t.cf.uses):=h.cell 4
 have e4_11 : W.cell? ⟨tb, 11, none⟩ = some (.i t.i):=h.cell 11
 have e4_14:=hcell14 h
 have H:=Lib.hid h
 clear h hxp hgl hcell14
 go_enter Tryz.func72, Tryz.ntmps72
 go_wp2_with fail
 go_region_held3 (fun w' => w'.cell? ⟨tb, 0, none⟩ = some (.i t.cf.workers) ∧ w'.cell? ⟨tb, 1, none⟩ = some (.i t.cf.slots) ∧ w'.cell? ⟨tb, 2, none⟩ = some (.i t.cf.streams) ∧ w'.cell? ⟨tb, 3, none⟩ = some (.i t.cf.waiters) ∧ w'.cell? ⟨tb, 4, none⟩ = some (.i t.cf.uses) ∧ w'.cell? ⟨tb, 11, none⟩ = some (.i t.i) ∧ w'.cell? ⟨tb, 14, none⟩ = some (.i hn)) (first | go_keep | (refine ⟨?_, ?_, ?_, ?_, ?_, ?_, ?_⟩ <;> first | assumption | (rw [World.cell?_setCell_other _ _ _ _ (by simp)]; assumption)))
  ((first
  | (go_at_call 107; refine (hgr _).mono ?_; rintro e w5 ⟨rfl, hb5⟩; have h5:=((H.out).below (Below.refl _ _).drew).below hb5; have z5_0 : w5.cell? ⟨tb, 0, none⟩ = some (.i t.cf.workers):=h5.cell 0; have z5_1 : w5.cell? ⟨tb, 1, none⟩ = some (.i t.cf.slots):=h5.cell 1; have z5_2 : w5.cell? ⟨tb, 2, none⟩ = some (.i t.cf.streams):=h5.cell 2; have z5_3 : w5.cell? ⟨tb, 3, none⟩ = some (.i t.cf.waiters):=h5.cell 3; have z5_4 : w5.cell? ⟨tb, 4, none⟩ = some (.i t.cf.uses):=h5.cell 4; have z5_11 : w5.cell? ⟨tb, 11, none⟩ = some (.i t.i):=h5.cell 11; have z5_14 : w5.cell? ⟨tb, 14, none⟩ = some (.i hn):=hcell14' h5)
  | (go_at_call 36; refine (hst _ h5.mem).mono ?_; rintro e w6 ⟨rfl, hM6, hC6⟩; have h6:=h5.mems hC6 hM6; have z6_0 : w6.cell? ⟨tb, 0, none⟩ = some (.i t.cf.workers):=h6.cell 0; have z6_1 : w6.cell? ⟨tb, 1, none⟩ = some (.i t.cf.slots):=h6.cell 1; have z6_2 : w6.cell? ⟨tb, 2, none⟩ = some (.i t.cf.streams):=h6.cell 2; have z6_3 : w6.cell? ⟨tb, 3, none⟩ = some (.i t.cf.waiters):=h6.cell 3; have z6_4 : w6.cell? ⟨tb, 4, none⟩ = some (.i t.cf.uses):=h6.cell 4; have z6_11 : w6.cell? ⟨tb, 11, none⟩ = some (.i t.i):=h6.cell 11; have z6_14 : w6.cell? ⟨tb, 14, none⟩ = some (.i hn):=hcell14' h6)))
 have q6:=(((((TR.refl (W:=W) (tb:=tb) (mb:=mb) (wb:=wb) (lo:=lo) (ro:=ro))).below (Below.refl _ _).drew).below hb5).mem hC6)
 have H6:=Lib.hid (h6)
 have Q6:=Lib.hid (q6)
 clear h6 q6 hC6 hM6 h5 hb5
 have g6_6 : w6.cell? ⟨tb, 6, none⟩ = some (.i t.st):=H6.out.cell 6
 have g6_f6:=H6.out.frozen 6
 go_wp2_with fail
 first | go_end0 | refine bodyPost_ret (results_none rfl _ _ _) rfl ?_
 have h7:=(H6.out).put 6 (.i 8) { t with st:=8 } rfl rfl rfl rfl
 have q7:=(Q6.out).set 6 (.i 8)
 exact ⟨rfl, lo, ro, h7, q7⟩
theorem y_back {W : World} {tb mb wb : Nat} {lo ro : Option Nat} {t : Ty.Ty} {ws : List Int} {tc : Int} (h : TyAt W tb mb wb lo ro t ws tc) (hok : Ty.TyOk t ws.length) (ht : 0 ≤ tc ∧ tc ≤ 4000000000000000000) (hk : t.st = 13) : Calls Tryz.prog 73 #[.pointer (some ⟨tb, 0, none⟩), .pointer (some ⟨mb, 0, none⟩)] W (YSPost W tb mb wb lo ro t ws tc):=by
 unfold YSPost
 have hc : Small t.cf:=⟨hok.c.w, hok.c.s⟩
 have hi:=hok.i
 have hlen : Tk.sc t.cf t.i < ws.length:=by have:=hok.len; unfold Tk.sc; omega
 have hsl:=fun W => slot_any W t.cf t.i hc.w ⟨by have:=hc.s; unfold Tk.ns at hi; omega, hc.s.2⟩
 have hsc : (3 + 2 * t.cf.workers + (t.i : Int)) = ((Tk.sc t.cf t.i : Nat) : Int):=by have:=hc.w; unfold Tk.sc; omega
 simp only [hsc, Conf.Cf.val, Conf.Cf.cells] at hsl
 clear hsc
 have hx:=rd_some hlen
 have hld:=fun W (h : CAt W mb wb ws tc) => load_any h ht (Tk.sc t.cf t.i) _ hx
 rw [Ty.st_13 hk]
 dsimp only
 generalize Tk.rd ws (Tk.sc t.cf t.i) = x at *
 have e4_0 : W.cell? ⟨tb, 0, none⟩ = some (.i t.cf.workers):=h.cell 0
 have e4_1 : W.cell? ⟨tb, 1, none⟩ = some (.i t.cf.slots):=h.cell 1
 have e4_2 : W.cell? ⟨tb, 2, none⟩ = some (.i t.cf.streams):=h.cell 2
 have e4_3 : W.cell? ⟨tb, 3, none⟩ = some (.i t.cf.waiters):=h.cell 3
 have e4_4 : W.cell? ⟨tb, 4, none⟩ = some (.i t.cf.uses):=h.cell 4
 have e4_11 : W.cell? ⟨tb, 11, none⟩ = some (.i t.i):=h.cell 11
 have H:=Lib.hid h
 clear h hx hi hlen
 by_cases hq : Ty.Ty.is { t with word:=x } = 4 ∨ Ty.Ty.is { t with word:=x } = 5
 ·rw [if_pos hq]
  go_enter Tryz.func73, Tryz.ntmps73
  go_wp2_with fail
  go_region_held3 (fun w' => w'.cell? ⟨tb, 0, none⟩ = some (.i t.cf.workers) ∧ w'.cell? ⟨tb, 1, none⟩ = some (.i t.cf.slots) ∧ w'.cell? ⟨tb, 2, none⟩ = some (.i t.cf.streams) ∧ w'.cell? ⟨tb, 3, none⟩ = some (.i t.cf.waiters) ∧ w'.cell? ⟨tb, 4, none⟩ = some (.i t.cf.uses) ∧ w'.cell? ⟨tb, 11, none⟩ = some (.i t.i)) (first | go_keep | (refine ⟨?_, ?_, ?_, ?_, ?_, ?_⟩ <;> first | assumption | (rw [World.cell?_setCell_other _ _ _ _ (by simp)]; assumption)))
   ((first
   | (go_at_call 108; refine (hsl _).mono ?_; rintro e w5 ⟨rfl, hb5⟩; have h5:=((H.out).below (Below.refl _ _).drew).below hb5; have z5_0 : w5.cell? ⟨tb, 0, none⟩ = some (.i t.cf.workers):=h5.cell 0; have z5_1 : w5.cell? ⟨tb, 1, none⟩ = some (.i t.cf.slots):=h5.cell 1; have z5_2 : w5.cell? ⟨tb, 2, none⟩ = some (.i t.cf.streams):=h5.cell 2; have z5_3 : w5.cell? ⟨tb, 3, none⟩ = some (.i t.cf.waiters):=h5.cell 3; have z5_4 : w5.cell? ⟨tb, 4, none⟩ = some (.i t.cf.uses):=h5.cell 4; have z5_11 : w5.cell? ⟨tb, 11, none⟩ = some (.i t.i):=h5.cell 11)
   | (go_at_call 90; refine (hld _ h5.mem).mono ?_; rintro e w6 ⟨rfl, hM6, hC6⟩; have h6:=h5.mems hC6 hM6; have z6_0 : w6.cell? ⟨tb, 0, none⟩ = some (.i t.cf.workers):=h6.cell 0; have z6_1 : w6.cell? ⟨tb, 1, none⟩ = some (.i t.cf.slots):=h6.cell 1; have z6_2 : w6.cell? ⟨tb, 2, none⟩ = some (.i t.cf.streams):=h6.cell 2; have z6_3 : w6.cell? ⟨tb, 3, none⟩ = some (.i t.cf.waiters):=h6.cell 3; have z6_4 : w6.cell? ⟨tb, 4, none⟩ = some (.i t.cf.uses):=h6.cell 4; have z6_11 : w6.cell? ⟨tb, 11, none⟩ = some (.i t.i):=h6.cell 11; have z6_12 : w6.cell? ⟨tb, 12, none⟩ = some (.i t.word):=h6.cell 12; have z6_f12:=h6.frozen 12)))
  have q6:=(((((TR.refl (W:=W) (tb:=tb) (mb:=mb) (wb:=wb) (lo:=lo) (ro:=ro))).below (Below.refl _ _).drew).below hb5).mem hC6)
  have H6:=Lib.hid (h6)
  have Q6:=Lib.hid (q6)
  clear h6 q6 hC6 hM6 h5 hb5
  have h7:=(H6.out).put 12 (.i x) { t with word:=x } rfl rfl rfl rfl
  have q7:=(Q6.out).set 12 (.i x)
  have i7_6 : (w6.setCell ⟨tb, 12, none⟩ (.i x)).cell? ⟨tb, 6, none⟩ = some (.i t.st):=h7.cell 6
  have i7_f6:=h7.frozen 6
  have h8:=(h7).put 6 (.i 8) { t with word:=x, st:=8 } rfl rfl rfl rfl
  have q8:=(q7).set 6 (.i 8)
  have his:=yis_any h8
  have his2 : Ty.Ty.is { t with word:=x, st:=8 } = Ty.Ty.is { t with word:=x }:=rfl
  rw [his2] at his
  clear his2
  have H8:=Lib.hid (h8)
  have Q8:=Lib.hid (q8)
  clear h8 q8 h7 q7
  generalize Ty.Ty.is { t with word:=x } = v at *
  rcases hq with rfl | rfl
  ·go_wp2_with fail
   refine (his).mono ?_
   rintro e w9 ⟨rfl, hb9⟩
   have h9:=(H8.out).below hb9
   have q9:=(Q8.out).below hb9
   have k9_6 : w9.cell? ⟨tb, 6, none⟩ = some (.i 8):=h9.cell 6
   have k9_f6:=h9.frozen 6
   have H9:=Lib.hid (h9)
   have Q9:=Lib.hid (q9)
   clear h9 q9 hb9
   clear his
   go_wp2_with fail
   first | go_end0 | refine bodyPost_ret (results_none rfl _ _ _) rfl ?_
   have h10:=(H9.out).put 6 (.i 14) { t with word:=x, st:=14 } rfl rfl rfl rfl
   have q10:=(Q9.out).set 6 (.i 14)
   exact ⟨rfl, lo, ro, h10, q10⟩
  ·go_wp2_with fail
   refine (his).mono ?_
   rintro e w9 ⟨rfl, hb9⟩
   have h9:=(H8.out).below hb9
   have q9:=(Q8.out).below hb9
   have k9_6 : w9.cell? ⟨tb, 6, none⟩ = some (.i 8):=h9.cell 6
   have k9_f6:=h9.frozen 6
   have H9:=Lib.hid (h9)
   have Q9:=Lib.hid (q9)
   clear h9 q9 hb9
   clear his
   go_wp2_with fail
   first | go_end0 | refine bodyPost_ret (results_none rfl _ _ _) rfl ?_
   have h10:=(H9.out).put 6 (.i 14) { t with word:=x, st:=14 } rfl rfl rfl rfl
   have q10:=(Q9.out).set 6 (.i 14)
   exact ⟨rfl, lo, ro, h10, q10⟩
 ·rw [if_neg hq]
  go_enter Tryz.func73, Tryz.ntmps73
  go_wp2_with fail
  go_region_held3 (fun w' => w'.cell? ⟨tb, 0, none⟩ = some (.i t.cf.workers) ∧ w'.cell? ⟨tb, 1, none⟩ = some (.i t.cf.slots) ∧ w'.cell? ⟨tb, 2, none⟩ = some (.i t.cf.streams) ∧ w'.cell? ⟨tb, 3, none⟩ = some (.i t.cf.waiters) ∧ w'.cell? ⟨tb, 4, none⟩ = some (.i t.cf.uses) ∧ w'.cell? ⟨tb, 11, none⟩ = some (.i t.i)) (first | go_keep | (refine ⟨?_, ?_, ?_, ?_, ?_, ?_⟩ <;> first | assumption | (rw [World.cell?_setCell_other _ _ _ _ (by simp)]; assumption)))
   ((first
   | (go_at_call 108; refine (hsl _).mono ?_; rintro e w5 ⟨rfl, hb5⟩; have h5:=((H.out).below (Below.refl _ _).drew).below hb5; have z5_0 : w5.cell? ⟨tb, 0, none⟩ = some (.i t.cf.workers):=h5.cell 0; have z5_1 : w5.cell? ⟨tb, 1, none⟩ = some (.i t.cf.slots):=h5.cell 1; have z5_2 : w5.cell? ⟨tb, 2, none⟩ = some (.i t.cf.streams):=h5.cell 2; have z5_3 : w5.cell? ⟨tb, 3, none⟩ = some (.i t.cf.waiters):=h5.cell 3; have z5_4 : w5.cell? ⟨tb, 4, none⟩ = some (.i t.cf.uses):=h5.cell 4; have z5_11 : w5.cell? ⟨tb, 11, none⟩ = some (.i t.i):=h5.cell 11)
   | (go_at_call 90; refine (hld _ h5.mem).mono ?_; rintro e w6 ⟨rfl, hM6, hC6⟩; have h6:=h5.mems hC6 hM6; have z6_0 : w6.cell? ⟨tb, 0, none⟩ = some (.i t.cf.workers):=h6.cell 0; have z6_1 : w6.cell? ⟨tb, 1, none⟩ = some (.i t.cf.slots):=h6.cell 1; have z6_2 : w6.cell? ⟨tb, 2, none⟩ = some (.i t.cf.streams):=h6.cell 2; have z6_3 : w6.cell? ⟨tb, 3, none⟩ = some (.i t.cf.waiters):=h6.cell 3; have z6_4 : w6.cell? ⟨tb, 4, none⟩ = some (.i t.cf.uses):=h6.cell 4; have z6_11 : w6.cell? ⟨tb, 11, none⟩ = some (.i t.i):=h6.cell 11; have z6_12 : w6.cell? ⟨tb, 12, none⟩ = some (.i t.word):=h6.cell 12; have z6_f12:=h6.frozen 12)))
  have q6:=(((((TR.refl (W:=W) (tb:=tb) (mb:=mb) (wb:=wb) (lo:=lo) (ro:=ro))).below (Below.refl _ _).drew).below hb5).mem hC6)
  have H6:=Lib.hid (h6)
  have Q6:=Lib.hid (q6)
  clear h6 q6 hC6 hM6 h5 hb5
  have h7:=(H6.out).put 12 (.i x) { t with word:=x } rfl rfl rfl rfl
  have q7:=(Q6.out).set 12 (.i x)
  have i7_6 : (w6.setCell ⟨tb, 12, none⟩ (.i x)).cell? ⟨tb, 6, none⟩ = some (.i t.st):=h7.cell 6
  have i7_f6:=h7.frozen 6
  have h8:=(h7).put 6 (.i 8) { t with word:=x, st:=8 } rfl rfl rfl rfl
  have q8:=(q7).set 6 (.i 8)
  have his:=yis_any h8
  have his2 : Ty.Ty.is { t with word:=x, st:=8 } = Ty.Ty.is { t with word:=x }:=rfl
  rw [his2] at his
  clear his2
  have H8:=Lib.hid (h8)
  have Q8:=Lib.hid (q8)
  clear h8 q8 h7 q7
  generalize Ty.Ty.is { t with word:=x } = v at *
  have v4 : ¬ v = 4:=fun e => hq (.inl e)
  have v5 : ¬ v = 5:=fun e => hq (.inr e)
  have v4b : (v == 4) = false:=by simpa using v4
  have v5b : (v == 5) = false:=by simpa using v5
  go_wp2_with fail
  refine (his).mono ?_
  rintro e w9 ⟨rfl, hb9⟩
  have h9:=(H8.out).below hb9
  have q9:=(Q8.out).below hb9
  have H9:=Lib.hid (h9)
  have Q9:=Lib.hid (q9)
  clear h9 q9 hb9
  clear his
  go_wp2_with fail
  first | go_end0 | refine bodyPost_ret (results_none rfl _ _ _) rfl ?_
  exact ⟨rfl, lo, ro, H9.out, Q9.out⟩
theorem y_pins {W : World} {tb mb wb : Nat} {lo ro : Option Nat} {t : Ty.Ty} {ws : List Int} {tc : Int} (h : TyAt W tb mb wb lo ro t ws tc) (hok : Ty.TyOk t ws.length) (ht : 0 ≤ tc ∧ tc ≤ 4000000000000000000) (hk : t.st = 6) (hp : ∀ o : Nat, o < t.cf.workers.toNat → Tk.rd ws (Ty.pc o) ≤ 9223372036854775807) : Calls Tryz.prog 66 #[.pointer (some ⟨tb, 0, none⟩), .pointer (some ⟨mb, 0, none⟩)] W (YSPost W tb mb wb lo ro t ws tc):=by
 unfold YSPost
 have hc : Small t.cf:=⟨hok.c.w, hok.c.s⟩
 have ho:=hok.other hk
 obtain ⟨on, hon⟩ : ∃ on : Nat, t.other = on:=⟨t.other.toNat, by omega⟩
 have hton : t.other.toNat = on:=by omega
 have hpl : Ty.pc on < ws.length:=by have:=hok.len; unfold Ty.pc; omega
 have hpn:=fun W => pin_any W t.cf on hc.w (by omega)
 have hpc : (3 + (on : Int)) = ((Ty.pc on : Nat) : Int):=by unfold Ty.pc; omega
 simp only [hpc, Conf.Cf.val, Conf.Cf.cells] at hpn
 clear hpc
 obtain ⟨f, hf⟩:=hok.has (by omega) (by omega)
 have hfo:=hok.look f hf
 have hgo : t.go = { t with look:=some f.go }:=by unfold Ty.Ty.go Ty.Ty.fd; rw [hf]; rfl
 have hag : t.again = { t with look:=some f.again }:=by unfold Ty.Ty.again Ty.Ty.fd; rw [hf]; rfl
 have hat : f.at' ≤ 1000:=by have:=hfo.2.1; have:=hc.s; unfold Tk.ns at *; omega
 have hx:=rd_some hpl
 have hld:=fun W (h : CAt W mb wb ws tc) => load_any h ht (Ty.pc on) _ hx
 rw [Ty.st_6 hk]
 dsimp only
 rw [hton]
 have hxp:=hp on (by omega)
 generalize Tk.rd ws (Ty.pc on) = x at *
 rw [hgo]
 have hdc:=fun W hL => decode_val W t.word hL
 have hep : t.ep = ((dec t.word).getD S.zero).epoch:=by unfold Ty.Ty.ep; cases dec t.word <;> rfl
 rw [hep]
 generalize (dec t.word).isSome = sb1 at *
 generalize (dec t.word).getD S.zero = s at *
 have hbl:=fun W => pblocks_any W x s.epoch hxp
 generalize Ty.blocks x s.epoch = bl at *
 have hw:=hok.w
 have hcell13 : ∀ {w : World} {ws' : List Int} {tc' : Int}, TyAt w tb mb wb lo ro t ws' tc' → w.cell? ⟨tb, 13, none⟩ = some (.i on):=fun h => (h.cell 13).trans (by show some (Value.int .i64 t.other) = _; rw [hon])
 have e4_0 : W.cell? ⟨tb, 0, none⟩ = some (.i t.cf.workers):=h.cell 0
 have e4_1 : W.cell? ⟨tb, 1, none⟩ = some (.i t.cf.slots):=h.cell 1
 have e4_2 : W.cell? ⟨tb, 2, none⟩ = some (.i t.cf.streams):=h.cell 2
 have e4_3 : W.cell? ⟨tb, 3, none⟩ = some (.i t.cf.waiters):=h.cell 3
 have e4_4 : W.cell? ⟨tb, 4, none⟩ = some (.i t.cf.uses):=h.cell 4
 have e4_13 : W.cell? ⟨tb, 13, none⟩ = some (.i on):=hcell13 h
 have H:=Lib.hid h
 clear h hx hpl hep
 cases bl
 ·rw [if_neg (by simp)]
  have hcl:=fun w (h : TyAt w tb mb wb lo ro t ws (tc + 1)) => yanother_any h ⟨hw, hc.w.2⟩ (by omega)
  generalize t.another = a at *
  obtain ⟨a1, a2⟩:=a
  dsimp only at *
  cases a1
  ·rw [if_neg (by simp)]
   go_enter Tryz.func66, Tryz.ntmps66
   go_wp2_with fail
   go_region_held3 (fun w' => w'.cell? ⟨tb, 0, none⟩ = some (.i t.cf.workers) ∧ w'.cell? ⟨tb, 1, none⟩ = some (.i t.cf.slots) ∧ w'.cell? ⟨tb, 2, none⟩ = some (.i t.cf.streams) ∧ w'.cell? ⟨tb, 3, none⟩ = some (.i t.cf.waiters) ∧ w'.cell? ⟨tb, 4, none⟩ = some (.i t.cf.uses) ∧ w'.cell? ⟨tb, 13, none⟩ = some (.i on)) (first | go_keep | (refine ⟨?_, ?_, ?_, ?_, ?_, ?_⟩ <;> first | assumption | (rw [World.cell?_setCell_other _ _ _ _ (by simp)]; assumption)))
    ((first
    | (go_at_call 91; refine (hpn _).mono ?_; rintro e w5 ⟨rfl, hb5⟩; have h5:=((H.out).below (Below.refl _ _).drew).below hb5; have z5_0 : w5.cell? ⟨tb, 0, none⟩ = some (.i t.cf.workers):=h5.cell 0; have z5_1 : w5.cell? ⟨tb, 1, none⟩ = some (.i t.cf.slots):=h5.cell 1; have z5_2 : w5.cell? ⟨tb, 2, none⟩ = some (.i t.cf.streams):=h5.cell 2; have z5_3 : w5.cell? ⟨tb, 3, none⟩ = some (.i t.cf.waiters):=h5.cell 3; have z5_4 : w5.cell? ⟨tb, 4, none⟩ = some (.i t.cf.uses):=h5.cell 4; have z5_13 : w5.cell? ⟨tb, 13, none⟩ = some (.i on):=hcell13 h5)
    | (go_at_call 90; refine (hld _ h5.mem).mono ?_; rintro e w6 ⟨rfl, hM6, hC6⟩; have h6:=h5.mems hC6 hM6; have z6_0 : w6.cell? ⟨tb, 0, none⟩ = some (.i t.cf.workers):=h6.cell 0; have z6_1 : w6.cell? ⟨tb, 1, none⟩ = some (.i t.cf.slots):=h6.cell 1; have z6_2 : w6.cell? ⟨tb, 2, none⟩ = some (.i t.cf.streams):=h6.cell 2; have z6_3 : w6.cell? ⟨tb, 3, none⟩ = some (.i t.cf.waiters):=h6.cell 3; have z6_4 : w6.cell? ⟨tb, 4, none⟩ = some (.i t.cf.uses):=h6.cell 4; have z6_13 : w6.cell? ⟨tb, 13, none⟩ = some (.i on):=hcell13 h6)))
   have q6:=(((((TR.refl (W:=W) (tb:=tb) (mb:=mb) (wb:=wb) (lo:=lo) (ro:=ro))).below (Below.refl _ _).drew).below hb5).mem hC6)
   have H6:=Lib.hid (h6)
   have Q6:=Lib.hid (q6)
   clear h6 q6 hC6 hM6 h5 hb5
   have g6_12 : w6.cell? ⟨tb, 12, none⟩ = some (.i t.word):=H6.out.cell 12
   have hD:=hdc _ (H6.out).laid
   go_wp2_with fail
   refine (hD).mono ?_
   rintro e w7 ⟨rfl, hb7⟩
   have h7:=(H6.out).below hb7
   have q7:=(Q6.out).below hb7
   have H7:=Lib.hid (h7)
   have Q7:=Lib.hid (q7)
   clear h7 q7 hb7
   dsimp only
   go_step
   refine gl (.tuple #[s.val, .bool sb1]) ?_
   refine gl s.val ?_
   refine gl (.bool sb1) ?_
   refine gbox (ob:=.cells zero9 41) (Z:=zero9) (cs:=s.cells) (t:=41) 41 (.tmp 5) (.tmp 24) rfl ?_
   refine gl (.bool sb1) ?_
   try simp only [Act.put, sA, sZ, sS]
   rw [setRow_new]
   have hb9 : Below w7.heap.size w7 (w7.alloc (.cells s.cells 41)):=(Below.refl _ _).alloc (Nat.le_refl _) _
   have hs9 : RowAt (w7.alloc (.cells s.cells 41)) w7.heap.size s.cells 41:=heap_alloc_new w7 _
   have h9:=(H7.out).below hb9
   have q9:=(Q7.out).below hb9
   generalize (w7.alloc (.cells s.cells 41)) = w9 at *
   generalize w7.heap.size = sb at *
   have s7 : w9.cell? ⟨sb, 7, none⟩ = some (.i s.epoch):=RowAt.cell hs9 7
   have H9:=Lib.hid h9
   have Q9:=Lib.hid q9
   clear h9 q9 hb9 hs9 hdc hD
   go_wp2_with fail
   refine (hbl _).mono ?_
   rintro e w10 ⟨rfl, rfl⟩
   have hcl:=hcl _ H9.out
   go_wp2_with fail
   refine hcl.mono ?_
   rintro e w8 ⟨rfl, lo8, ro8, h8, r8⟩
   have q8:=(Q9.out).trans r8
   have g6 : w8.cell? ⟨tb, 6, none⟩ = some (.i a2.st):=h8.cell 6
   have gf6:=h8.frozen 6
   have H8:=Lib.hid (h8)
   have Q8:=Lib.hid (q8)
   clear h8 q8 r8 hcl
   go_wp2_with fail
   first | go_end0 | refine bodyPost_ret (results_none rfl _ _ _) rfl ?_
   have h9:=(H8.out).put 6 (.i 7) { a2 with st:=7 } rfl rfl rfl rfl
   have q9:=(Q8.out).set 6 (.i 7)
   exact ⟨rfl, lo8, ro8, h9, q9⟩
  ·rw [if_pos rfl]
   go_enter Tryz.func66, Tryz.ntmps66
   go_wp2_with fail
   go_region_held3 (fun w' => w'.cell? ⟨tb, 0, none⟩ = some (.i t.cf.workers) ∧ w'.cell? ⟨tb, 1, none⟩ = some (.i t.cf.slots) ∧ w'.cell? ⟨tb, 2, none⟩ = some (.i t.cf.streams) ∧ w'.cell? ⟨tb, 3, none⟩ = some (.i t.cf.waiters) ∧ w'.cell? ⟨tb, 4, none⟩ = some (.i t.cf.uses) ∧ w'.cell? ⟨tb, 13, none⟩ = some (.i on)) (first | go_keep | (refine ⟨?_, ?_, ?_, ?_, ?_, ?_⟩ <;> first | assumption | (rw [World.cell?_setCell_other _ _ _ _ (by simp)]; assumption)))
    ((first
    | (go_at_call 91; refine (hpn _).mono ?_; rintro e w5 ⟨rfl, hb5⟩; have h5:=((H.out).below (Below.refl _ _).drew).below hb5; have z5_0 : w5.cell? ⟨tb, 0, none⟩ = some (.i t.cf.workers):=h5.cell 0; have z5_1 : w5.cell? ⟨tb, 1, none⟩ = some (.i t.cf.slots):=h5.cell 1; have z5_2 : w5.cell? ⟨tb, 2, none⟩ = some (.i t.cf.streams):=h5.cell 2; have z5_3 : w5.cell? ⟨tb, 3, none⟩ = some (.i t.cf.waiters):=h5.cell 3; have z5_4 : w5.cell? ⟨tb, 4, none⟩ = some (.i t.cf.uses):=h5.cell 4; have z5_13 : w5.cell? ⟨tb, 13, none⟩ = some (.i on):=hcell13 h5)
    | (go_at_call 90; refine (hld _ h5.mem).mono ?_; rintro e w6 ⟨rfl, hM6, hC6⟩; have h6:=h5.mems hC6 hM6; have z6_0 : w6.cell? ⟨tb, 0, none⟩ = some (.i t.cf.workers):=h6.cell 0; have z6_1 : w6.cell? ⟨tb, 1, none⟩ = some (.i t.cf.slots):=h6.cell 1; have z6_2 : w6.cell? ⟨tb, 2, none⟩ = some (.i t.cf.streams):=h6.cell 2; have z6_3 : w6.cell? ⟨tb, 3, none⟩ = some (.i t.cf.waiters):=h6.cell 3; have z6_4 : w6.cell? ⟨tb, 4, none⟩ = some (.i t.cf.uses):=h6.cell 4; have z6_13 : w6.cell? ⟨tb, 13, none⟩ = some (.i on):=hcell13 h6)))
   have q6:=(((((TR.refl (W:=W) (tb:=tb) (mb:=mb) (wb:=wb) (lo:=lo) (ro:=ro))).below (Below.refl _ _).drew).below hb5).mem hC6)
   have H6:=Lib.hid (h6)
   have Q6:=Lib.hid (q6)
   clear h6 q6 hC6 hM6 h5 hb5
   have g6_12 : w6.cell? ⟨tb, 12, none⟩ = some (.i t.word):=H6.out.cell 12
   have hD:=hdc _ (H6.out).laid
   go_wp2_with fail
   refine (hD).mono ?_
   rintro e w7 ⟨rfl, hb7⟩
   have h7:=(H6.out).below hb7
   have q7:=(Q6.out).below hb7
   have H7:=Lib.hid (h7)
   have Q7:=Lib.hid (q7)
   clear h7 q7 hb7
   dsimp only
   go_step
   refine gl (.tuple #[s.val, .bool sb1]) ?_
   refine gl s.val ?_
   refine gl (.bool sb1) ?_
   refine gbox (ob:=.cells zero9 41) (Z:=zero9) (cs:=s.cells) (t:=41) 41 (.tmp 5) (.tmp 24) rfl ?_
   refine gl (.bool sb1) ?_
   try simp only [Act.put, sA, sZ, sS]
   rw [setRow_new]
   have hb9 : Below w7.heap.size w7 (w7.alloc (.cells s.cells 41)):=(Below.refl _ _).alloc (Nat.le_refl _) _
   have hs9 : RowAt (w7.alloc (.cells s.cells 41)) w7.heap.size s.cells 41:=heap_alloc_new w7 _
   have h9:=(H7.out).below hb9
   have q9:=(Q7.out).below hb9
   generalize (w7.alloc (.cells s.cells 41)) = w9 at *
   generalize w7.heap.size = sb at *
   have s7 : w9.cell? ⟨sb, 7, none⟩ = some (.i s.epoch):=RowAt.cell hs9 7
   have H9:=Lib.hid h9
   have Q9:=Lib.hid q9
   clear h9 q9 hb9 hs9 hdc hD
   go_wp2_with fail
   refine (hbl _).mono ?_
   rintro e w10 ⟨rfl, rfl⟩
   have hcl:=hcl _ H9.out
   go_wp2_with fail
   refine hcl.mono ?_
   rintro e w8 ⟨rfl, lo8, ro8, h8, r8⟩
   have q8:=(Q9.out).trans r8
   have H8:=Lib.hid (h8)
   have Q8:=Lib.hid (q8)
   clear h8 q8 r8 hcl
   go_wp2_with fail
   first | go_end0 | refine bodyPost_ret (results_none rfl _ _ _) rfl ?_
   exact ⟨rfl, lo8, ro8, H8.out, Q8.out⟩
 ·rw [if_pos rfl]
  go_enter Tryz.func66, Tryz.ntmps66
  go_wp2_with fail
  go_region_held3 (fun w' => w'.cell? ⟨tb, 0, none⟩ = some (.i t.cf.workers) ∧ w'.cell? ⟨tb, 1, none⟩ = some (.i t.cf.slots) ∧ w'.cell? ⟨tb, 2, none⟩ = some (.i t.cf.streams) ∧ w'.cell? ⟨tb, 3, none⟩ = some (.i t.cf.waiters) ∧ w'.cell? ⟨tb, 4, none⟩ = some (.i t.cf.uses) ∧ w'.cell? ⟨tb, 13, none⟩ = some (.i on)) (first | go_keep | (refine ⟨?_, ?_, ?_, ?_, ?_, ?_⟩ <;> first | assumption | (rw [World.cell?_setCell_other _ _ _ _ (by simp)]; assumption)))
   ((first
   | (go_at_call 91; refine (hpn _).mono ?_; rintro e w5 ⟨rfl, hb5⟩; have h5:=((H.out).below (Below.refl _ _).drew).below hb5; have z5_0 : w5.cell? ⟨tb, 0, none⟩ = some (.i t.cf.workers):=h5.cell 0; have z5_1 : w5.cell? ⟨tb, 1, none⟩ = some (.i t.cf.slots):=h5.cell 1; have z5_2 : w5.cell? ⟨tb, 2, none⟩ = some (.i t.cf.streams):=h5.cell 2; have z5_3 : w5.cell? ⟨tb, 3, none⟩ = some (.i t.cf.waiters):=h5.cell 3; have z5_4 : w5.cell? ⟨tb, 4, none⟩ = some (.i t.cf.uses):=h5.cell 4; have z5_13 : w5.cell? ⟨tb, 13, none⟩ = some (.i on):=hcell13 h5)
   | (go_at_call 90; refine (hld _ h5.mem).mono ?_; rintro e w6 ⟨rfl, hM6, hC6⟩; have h6:=h5.mems hC6 hM6; have z6_0 : w6.cell? ⟨tb, 0, none⟩ = some (.i t.cf.workers):=h6.cell 0; have z6_1 : w6.cell? ⟨tb, 1, none⟩ = some (.i t.cf.slots):=h6.cell 1; have z6_2 : w6.cell? ⟨tb, 2, none⟩ = some (.i t.cf.streams):=h6.cell 2; have z6_3 : w6.cell? ⟨tb, 3, none⟩ = some (.i t.cf.waiters):=h6.cell 3; have z6_4 : w6.cell? ⟨tb, 4, none⟩ = some (.i t.cf.uses):=h6.cell 4; have z6_13 : w6.cell? ⟨tb, 13, none⟩ = some (.i on):=hcell13 h6)))
  have q6:=(((((TR.refl (W:=W) (tb:=tb) (mb:=mb) (wb:=wb) (lo:=lo) (ro:=ro))).below (Below.refl _ _).drew).below hb5).mem hC6)
  have H6:=Lib.hid (h6)
  have Q6:=Lib.hid (q6)
  clear h6 q6 hC6 hM6 h5 hb5
  have g6_12 : w6.cell? ⟨tb, 12, none⟩ = some (.i t.word):=H6.out.cell 12
  have hD:=hdc _ (H6.out).laid
  go_wp2_with fail
  refine (hD).mono ?_
  rintro e w7 ⟨rfl, hb7⟩
  have h7:=(H6.out).below hb7
  have q7:=(Q6.out).below hb7
  have H7:=Lib.hid (h7)
  have Q7:=Lib.hid (q7)
  clear h7 q7 hb7
  dsimp only
  go_step
  refine gl (.tuple #[s.val, .bool sb1]) ?_
  refine gl s.val ?_
  refine gl (.bool sb1) ?_
  refine gbox (ob:=.cells zero9 41) (Z:=zero9) (cs:=s.cells) (t:=41) 41 (.tmp 5) (.tmp 24) rfl ?_
  refine gl (.bool sb1) ?_
  try simp only [Act.put, sA, sZ, sS]
  rw [setRow_new]
  have hb9 : Below w7.heap.size w7 (w7.alloc (.cells s.cells 41)):=(Below.refl _ _).alloc (Nat.le_refl _) _
  have hs9 : RowAt (w7.alloc (.cells s.cells 41)) w7.heap.size s.cells 41:=heap_alloc_new w7 _
  have h9:=(H7.out).below hb9
  have q9:=(Q7.out).below hb9
  generalize (w7.alloc (.cells s.cells 41)) = w9 at *
  generalize w7.heap.size = sb at *
  have s7 : w9.cell? ⟨sb, 7, none⟩ = some (.i s.epoch):=RowAt.cell hs9 7
  have H9:=Lib.hid h9
  have Q9:=Lib.hid q9
  clear h9 q9 hb9 hs9 hdc hD
  go_wp2_with fail
  refine (hbl _).mono ?_
  rintro e w10 ⟨rfl, rfl⟩
  obtain ⟨fb7, hlo7, hF7⟩:=H9.out.look f hf
  have l7_10 : w9.cell? ⟨tb, 10, none⟩ = some (.pointer (some ⟨fb7, 0, none⟩)):=(H9.out.cell 10).trans (by first | (rw [hlo7]; rfl) | (show some (ptrOf _) = _; rw [hlo7]; rfl))
  have hlk7:=go_any hF7 hat
  clear hF7
  go_wp2_with fail
  refine hlk7.mono ?_
  rintro e w8 ⟨rfl, hF8, hC8⟩
  have h8:=(H9.out).looked hlo7 hC8 hF8
  have q8:=(Q9.out).looked hlo7 hC8
  have j8_6 : w8.cell? ⟨tb, 6, none⟩ = some (.i t.st):=h8.cell 6
  have j8_f6:=h8.frozen 6
  have H8:=Lib.hid (h8)
  have Q8:=Lib.hid (q8)
  clear h8 q8 hF8 hC8 hlk7 l7_10
  go_wp2_with fail
  first | go_end0 | refine bodyPost_ret (results_none rfl _ _ _) rfl ?_
  have h9:=(H8.out).put 6 (.i 5) { t with look:=some f.go, st:=5 } rfl rfl rfl rfl
  have q9:=(Q8.out).set 6 (.i 5)
  exact ⟨rfl, lo, ro, h9, q9⟩
theorem y_line {W : World} {tb mb wb : Nat} {lo ro : Option Nat} {t : Ty.Ty} {ws : List Int} {tc : Int} (h : TyAt W tb mb wb lo ro t ws tc) (hok : Ty.TyOk t ws.length) (ht : 0 ≤ tc ∧ tc ≤ 4000000000000000000) (hk : t.st = 8) (hq : Tk.rd ws 1 ≤ 9223372036854775807) : Calls Tryz.prog 68 #[.pointer (some ⟨tb, 0, none⟩), .pointer (some ⟨mb, 0, none⟩)] W (YSPost W tb mb wb lo ro t ws tc):=by
 unfold YSPost
 have hc : Small t.cf:=⟨hok.c.w, hok.c.s⟩
 have hx:=rd_some (ws:=ws) (i:=1) (by have:=hok.len; omega)
 have hld : ∀ W, CAt W mb wb ws tc → Calls Tryz.prog 90 #[.pointer (some ⟨mb, 0, none⟩), .i 1] W _:=fun W h => load_any h ht 1 _ hx
 rw [Ty.st_8 hk]
 have hxq:=hq
 generalize Tk.rd ws 1 = x at *
 have hhd:=fun W => Line.head_any W x hxq
 have H:=Lib.hid h
 have hld:=hld W h.mem
 clear h hx
 by_cases e0 : 0 < x
 ·rw [if_pos e0]
  dsimp only
  simp only [if_pos e0] at hhd
  go_enter Tryz.func68, Tryz.ntmps68
  go_wp2_with fail
  refine (hld).mono ?_
  rintro e w5 ⟨rfl, hM5, hC5⟩
  have h5:=(H.out).mems hC5 hM5
  have q5:=((TR.refl (W:=W) (tb:=tb) (mb:=mb) (wb:=wb) (lo:=lo) (ro:=ro))).mem hC5
  have f5_9 : w5.cell? ⟨tb, 9, none⟩ = some (.i t.queue):=h5.cell 9
  have f5_f9:=h5.frozen 9
  have H5:=Lib.hid (h5)
  have Q5:=Lib.hid (q5)
  clear h5 q5 hM5 hC5
  have h6:=(H5.out).put 9 (.i x) { t with queue:=x } rfl rfl rfl rfl
  have q6:=(Q5.out).set 9 (.i x)
  have s_9 : (w5.setCell ⟨tb, 9, none⟩ (.i x)).cell? ⟨tb, 9, none⟩ = some (.i x):=h6.cell 9
  have H6:=Lib.hid (h6)
  have Q6:=Lib.hid (q6)
  clear h6 q6 hld
  go_wp2_with fail
  refine (hhd _).mono ?_
  rintro e w7 ⟨rfl, hb7⟩
  have h7:=(H6.out).below hb7
  have q7:=(Q6.out).below hb7
  have i7_14 : w7.cell? ⟨tb, 14, none⟩ = some (.i t.head):=h7.cell 14
  have i7_f14:=h7.frozen 14
  have H7:=Lib.hid (h7)
  have Q7:=Lib.hid (q7)
  clear h7 q7 hb7
  clear hhd
  have h8:=(H7.out).put 14 (.i (x % 16 - 1)) { t with queue:=x, head:=x % 16 - 1 } rfl rfl rfl rfl
  have q8:=(Q7.out).set 14 (.i (x % 16 - 1))
  have s2_5 : (w7.setCell ⟨tb, 14, none⟩ (.i (x % 16 - 1))).cell? ⟨tb, 5, none⟩ = some (.i t.w):=h8.cell 5
  have hcl:=ysearch_any h8 9 3 t.w
  have H8:=Lib.hid (h8)
  have Q8:=Lib.hid (q8)
  clear h8 q8
  go_wp2_with fail
  refine (hcl).mono ?_
  rintro e w9 ⟨rfl, lo9, ro9, h9, r9⟩
  have q9:=(Q8.out).trans r9
  have H9:=Lib.hid (h9)
  have Q9:=Lib.hid (q9)
  clear h9 q9 r9
  go_wp2_with fail
  first | go_end0 | refine bodyPost_ret (results_none rfl _ _ _) rfl ?_
  exact ⟨rfl, lo9, ro9, H9.out, Q9.out⟩
 ·rw [if_neg e0]
  dsimp only
  simp only [if_neg e0] at hhd
  go_enter Tryz.func68, Tryz.ntmps68
  go_wp2_with fail
  refine (hld).mono ?_
  rintro e w5 ⟨rfl, hM5, hC5⟩
  have h5:=(H.out).mems hC5 hM5
  have q5:=((TR.refl (W:=W) (tb:=tb) (mb:=mb) (wb:=wb) (lo:=lo) (ro:=ro))).mem hC5
  have f5_9 : w5.cell? ⟨tb, 9, none⟩ = some (.i t.queue):=h5.cell 9
  have f5_f9:=h5.frozen 9
  have H5:=Lib.hid (h5)
  have Q5:=Lib.hid (q5)
  clear h5 q5 hM5 hC5
  have h6:=(H5.out).put 9 (.i x) { t with queue:=x } rfl rfl rfl rfl
  have q6:=(Q5.out).set 9 (.i x)
  have s_9 : (w5.setCell ⟨tb, 9, none⟩ (.i x)).cell? ⟨tb, 9, none⟩ = some (.i x):=h6.cell 9
  have H6:=Lib.hid (h6)
  have Q6:=Lib.hid (q6)
  clear h6 q6 hld
  go_wp2_with fail
  refine (hhd _).mono ?_
  rintro e w7 ⟨rfl, hb7⟩
  have h7:=(H6.out).below hb7
  have q7:=(Q6.out).below hb7
  have i7_6 : w7.cell? ⟨tb, 6, none⟩ = some (.i t.st):=h7.cell 6
  have i7_f6:=h7.frozen 6
  have H7:=Lib.hid (h7)
  have Q7:=Lib.hid (q7)
  clear h7 q7 hb7
  clear hhd
  go_wp2_with fail
  first | go_end0 | refine bodyPost_ret (results_none rfl _ _ _) rfl ?_
  have h8:=(H7.out).put 6 (.i 15) { t with queue:=x, st:=15 } rfl rfl rfl rfl
  have q8:=(Q7.out).set 6 (.i 15)
  exact ⟨rfl, lo, ro, h8, q8⟩
def tyfuns : List Value:=[.func (.func 60) #[] #[], .func (.func 61) #[] #[], .func (.func 62) #[] #[], .func (.func 63) #[] #[], .func (.func 64) #[] #[], .func (.func 65) #[] #[], .func (.func 66) #[] #[], .func (.func 67) #[] #[], .func (.func 68) #[] #[], .func (.func 69) #[] #[], .func (.func 70) #[] #[], .func (.func 71) #[] #[], .func (.func 72) #[] #[], .func (.func 73) #[] #[], .func (.func 74) #[] #[], .func (.func 75) #[] #[], .func (.func 76) #[] #[], .func (.func 77) #[] #[]]
abbrev nil18 : Array Value:=#[.nilFunc, .nilFunc, .nilFunc, .nilFunc, .nilFunc, .nilFunc, .nilFunc, .nilFunc, .nilFunc, .nilFunc, .nilFunc, .nilFunc, .nilFunc, .nilFunc, .nilFunc, .nilFunc, .nilFunc, .nilFunc]
theorem ystates_any (W : World) : Calls Tryz.prog 43 #[] W fun e W' => e = .returned (.agg ⟨tyfuns⟩) ∧ Below W.heap.size W W':=by
 have hz : RowAt (W.alloc (.cells nil18 90)) W.heap.size nil18 90:=heap_alloc_new W _
 have hB : Below W.heap.size W (W.alloc (.cells nil18 90)):=(Below.refl _ _).alloc (Nat.le_refl _) _
 go_enter Tryz.func43, Tryz.ntmps43
 go_upto_region 1 with (fail)
 refine wp_region_lit ?_
 refine gl (.agg ⟨tyfuns⟩) ?_
 refine gSt hz ⟨tyfuns⟩ 90 (.tmp 0) (.tmp 1) ?_
 go_wp2_with fail
 refine bR1 W.heap.size (hz.set ⟨tyfuns⟩) Tryz.underlying90 ?_
 exact ⟨rfl, bSetRow hB (Nat.le_refl _) _⟩
theorem eq17 (n : Nat) : ((n : Int) == 17) = decide (n = 17):=by
 rw [Bool.eq_iff_iff]
 simp
 omega
theorem ty_index (W : World) {st G : Nat} (hF : tyfuns[st]? = some (.func (.func G) #[] #[])) : (Instr.index 90 (.agg ⟨tyfuns⟩) (.i st)).run Tryz.prog W = .ok (.func (.func G) #[] #[]) W:=by
 have hl : st < 18:=by
  have:=(List.getElem?_eq_some_iff.1 hF).1
  simpa [tyfuns] using this
 have hcases : st = 0 ∨ st = 1 ∨ st = 2 ∨ st = 3 ∨ st = 4 ∨ st = 5 ∨ st = 6 ∨ st = 7 ∨ st = 8 ∨ st = 9 ∨ st = 10 ∨ st = 11 ∨ st = 12 ∨ st = 13 ∨ st = 14 ∨ st = 15 ∨ st = 16 ∨ st = 17:=by omega
 rcases hcases with rfl | rfl | rfl | rfl | rfl | rfl | rfl | rfl | rfl | rfl | rfl | rfl | rfl | rfl | rfl | rfl | rfl | rfl <;> (cases hF; rfl)
structure YMem (t : Ty.Ty) (ws : List Int) : Prop where
 p : ∀ o : Nat, o < t.cf.workers.toNat → Tk.rd ws (Ty.pc o) ≤ 9223372036854775807
 q : Tk.rd ws 1 ≤ 9223372036854775807
theorem ymeth_any {t : Ty.Ty} {ws : List Int} (hok : Ty.TyOk t ws.length) (hm : YMem t ws) : ∃ F, (∀ args w, (callFunc F args).run Tryz.prog w = .ok (.enter F args) w) ∧ tyfuns[t.st]? = some (.func (.func F) #[] #[]) ∧
  ∀ {W : World} {tb mb wb : Nat} {lo ro : Option Nat} {tc : Int}, TyAt W tb mb wb lo ro t ws tc → 0 ≤ tc ∧ tc ≤ 4000000000000000000 → Calls Tryz.prog F #[.pointer (some ⟨tb, 0, none⟩), .pointer (some ⟨mb, 0, none⟩)] W (YSPost W tb mb wb lo ro t ws tc):=by
 have hst:=hok.st
 have hcases : t.st = 0 ∨ t.st = 1 ∨ t.st = 2 ∨ t.st = 3 ∨ t.st = 4 ∨ t.st = 5 ∨ t.st = 6 ∨ t.st = 7 ∨ t.st = 8 ∨ t.st = 9 ∨ t.st = 10 ∨ t.st = 11 ∨ t.st = 12 ∨ t.st = 13 ∨ t.st = 14 ∨ t.st = 15 ∨ t.st = 16 ∨ t.st = 17:=by omega
 rcases hcases with hk | hk | hk | hk | hk | hk | hk | hk | hk | hk | hk | hk | hk | hk | hk | hk | hk | hk
 ·exact ⟨_, enters_of Tryz.func60 (by kernel_rfl) rfl, by rw [hk]; rfl, fun h ht => y_begin h hok ht hk⟩
 ·exact ⟨_, enters_of Tryz.func61 (by kernel_rfl) rfl, by rw [hk]; rfl, fun h ht => y_pin h hok ht hk⟩
 ·exact ⟨_, enters_of Tryz.func62 (by kernel_rfl) rfl, by rw [hk]; rfl, fun h ht => y_isClosed h hok ht hk⟩
 ·exact ⟨_, enters_of Tryz.func63 (by kernel_rfl) rfl, by rw [hk]; rfl, fun h ht => y_sweep h hok ht hk⟩
 ·exact ⟨_, enters_of Tryz.func64 (by kernel_rfl) rfl, by rw [hk]; rfl, fun h ht => y_goes h hok ht hk⟩
 ·exact ⟨_, enters_of Tryz.func65 (by kernel_rfl) rfl, by rw [hk]; rfl, fun h ht => y_old h hok ht hk⟩
 ·exact ⟨_, enters_of Tryz.func66 (by kernel_rfl) rfl, by rw [hk]; rfl, fun h ht => y_pins h hok ht hk hm.p⟩
 ·exact ⟨_, enters_of Tryz.func67 (by kernel_rfl) rfl, by rw [hk]; rfl, fun h ht => y_clear h hok ht hk⟩
 ·exact ⟨_, enters_of Tryz.func68 (by kernel_rfl) rfl, by rw [hk]; rfl, fun h ht => y_line h hok ht hk hm.q⟩
 ·exact ⟨_, enters_of Tryz.func69 (by kernel_rfl) rfl, by rw [hk]; rfl, fun h ht => y_some h hok ht hk⟩
 ·exact ⟨_, enters_of Tryz.func70 (by kernel_rfl) rfl, by rw [hk]; rfl, fun h ht => y_keep h hok ht hk⟩
 ·exact ⟨_, enters_of Tryz.func71 (by kernel_rfl) rfl, by rw [hk]; rfl, fun h ht => y_pop h hok ht hk⟩
 ·exact ⟨_, enters_of Tryz.func72 (by kernel_rfl) rfl, by rw [hk]; rfl, fun h ht => y_grant h hok ht hk⟩
 ·exact ⟨_, enters_of Tryz.func73 (by kernel_rfl) rfl, by rw [hk]; rfl, fun h ht => y_back h hok ht hk⟩
 ·exact ⟨_, enters_of Tryz.func74 (by kernel_rfl) rfl, by rw [hk]; rfl, fun h ht => y_unkeep h hok ht hk⟩
 ·exact ⟨_, enters_of Tryz.func75 (by kernel_rfl) rfl, by rw [hk]; rfl, fun h ht => y_unpin h hok ht hk⟩
 ·exact ⟨_, enters_of Tryz.func76 (by kernel_rfl) rfl, by rw [hk]; rfl, fun h ht => y_again h hok ht hk⟩
 ·refine ⟨_, enters_of Tryz.func77 (by kernel_rfl) rfl, by rw [hk]; rfl, fun h ht => ?_⟩
  unfold YSPost
  rw [Ty.st_17 hk]
  refine (yrest_step h).mono ?_
  rintro e w' ⟨rfl, lo', ro', h', r'⟩
  exact ⟨rfl, lo', ro', by simpa using h', r'⟩
def YStepPost (W : World) (tb mb wb : Nat) (lo ro : Option Nat) (t : Ty.Ty) (ws : List Int) (tc : Int) : Ending → World → Prop :=
 YPost W tb mb wb lo ro (.bool (decide ((t.step ws).1.st = 17))) (t.step ws).1 (t.step ws).2.1 (tc + (t.step ws).2.2)
theorem ystep_any {W : World} {tb mb wb : Nat} {lo ro : Option Nat} {t : Ty.Ty} {ws : List Int} {tc : Int} (h : TyAt W tb mb wb lo ro t ws tc) (hok : Ty.TyOk t ws.length) (hme : YMem t ws) (ht : 0 ≤ tc ∧ tc ≤ 4000000000000000000) : Calls Tryz.prog 29 #[.pointer (some ⟨tb, 0, none⟩), .pointer (some ⟨mb, 0, none⟩)] W (YStepPost W tb mb wb lo ro t ws tc):=by
 unfold YStepPost
 have hst:=hok.st
 obtain ⟨G, hE, hF, hm⟩:=ymeth_any hok hme
 have hm2:=fun w (h : TyAt w tb mb wb lo ro t ws tc) => hm h ht
 unfold YSPost at hm2
 generalize t.step ws = q at *
 obtain ⟨t', ws', n⟩:=q
 dsimp only at *
 have c6 : W.cell? ⟨tb, 6, none⟩ = some (.i t.st):=h.cell 6
 have H:=Lib.hid h
 clear h hm
 go_enter Tryz.func29, Tryz.ntmps29
 go_upto_region 1 with (fail)
 refine wp_region_held_drew (S:=fun w' => True) (by kernel_rfl) trivial (fun hHeld => ?_)
 refine tKg 1 6 hHeld ?_
 try simp only [Act.put, sA, sZ, sS]
 refine tKg 2 7 hHeld ?_
 try simp only [Act.put, sA, sZ, sS]
 refine tKg 3 8 hHeld ?_
 try simp only [Act.put, sA, sZ, sS]
 refine tKg 6 11 hHeld ?_
 try simp only [Act.put, sA, sZ, sS]
 refine tKg 7 12 hHeld ?_
 try simp only [Act.put, sA, sZ, sS]
 refine ready2 (i:=0) (k:=4) (by kernel_rfl) ?_ ?_
 ·refine step_call 43 #[] #[] (some 5) none (by kernel_rfl) (by kernel_rfl) #[] (by kernel_rfl) (enters_of Tryz.func43 (by kernel_rfl) rfl) ?_
  refine (ystates_any _).mono ?_
  rintro e w5 ⟨rfl, hb5⟩
  have h5:=(H.out.below (Below.refl _ _).drew).below hb5
  have Q5:=Lib.hid (((TR.refl (W:=W) (tb:=tb) (mb:=mb) (wb:=wb) (lo:=lo) (ro:=ro)).below (Below.refl _ _).drew).below hb5)
  have hS5:=hm2 w5 h5
  have e6 : w5.cell? ⟨tb, 6, none⟩ = some (.i t.st):=h5.cell 6
  clear h5
  refine ⟨_, rfl, trivial, fun hHeld => ?_⟩
  try simp only [Act.put, sA, sZ, sS]
  refine rK 4 9 (.i t.st) hHeld ?_ (by go_simp; try with_reducible rfl)
  try simp only [Act.put, sA, sZ, sS]
  have hix:=ty_index w5 hF
  refine rK 5 10 (.func (.func G) #[] #[]) hHeld ?_ (by go_simp; try with_reducible rfl)
  try simp only [Act.put, sA, sZ, sS]
  refine rKt (i:=8) G 10 #[.tmp 11, .tmp 12] #[58, 34] (some 13) none #[.pointer (some ⟨tb, 0, none⟩), .pointer (some ⟨mb, 0, none⟩)] hE (by kernel_rfl) ?_
  refine hS5.mono ?_
  rintro e w6 ⟨rfl, lo6, ro6, h6, r6⟩
  refine ⟨_, rfl, trivial, fun hHeld => ?_⟩
  try simp only [Act.put, sA, sZ, sS]
  refine wpAnyH_done (by kernel_rfl) ?_ _
  have q6:=Q5.out.trans r6
  have d6 : w6.cell? ⟨tb, 6, none⟩ = some (.i t'.st):=h6.cell 6
  have H6:=Lib.hid h6
  have Q6:=Lib.hid q6
  clear h6 r6 q6 hS5
  go_wp2_with fail
  go_ret
  exact ⟨Base.ret_bool (eq17 _), lo6, ro6, H6.out, Q6.out⟩
 ·refine step_run (some 9) (.i t.st) (by kernel_rfl) (by kernel_rfl) (by go_simp; try with_reducible rfl) trivial (fun hHeld => ?_)
  try simp only [Act.put, sA, sZ, sS]
  refine rKc (i:=0) 43 #[] #[] (some 5) none #[] (enters_of Tryz.func43 (by kernel_rfl) rfl) ?_
  refine (ystates_any _).mono ?_
  rintro e w5 ⟨rfl, hb5⟩
  have h5:=(H.out.below (Below.refl _ _).drew).below hb5
  have Q5:=Lib.hid (((TR.refl (W:=W) (tb:=tb) (mb:=mb) (wb:=wb) (lo:=lo) (ro:=ro)).below (Below.refl _ _).drew).below hb5)
  have hS5:=hm2 w5 h5
  have e6 : w5.cell? ⟨tb, 6, none⟩ = some (.i t.st):=h5.cell 6
  clear h5
  refine ⟨_, rfl, trivial, fun hHeld => ?_⟩
  try simp only [Act.put, sA, sZ, sS]
  have hix:=ty_index w5 hF
  refine rK 5 10 (.func (.func G) #[] #[]) hHeld ?_ (by go_simp; try with_reducible rfl)
  try simp only [Act.put, sA, sZ, sS]
  refine rKt (i:=8) G 10 #[.tmp 11, .tmp 12] #[58, 34] (some 13) none #[.pointer (some ⟨tb, 0, none⟩), .pointer (some ⟨mb, 0, none⟩)] hE (by kernel_rfl) ?_
  refine hS5.mono ?_
  rintro e w6 ⟨rfl, lo6, ro6, h6, r6⟩
  refine ⟨_, rfl, trivial, fun hHeld => ?_⟩
  try simp only [Act.put, sA, sZ, sS]
  refine wpAnyH_done (by kernel_rfl) ?_ _
  have q6:=Q5.out.trans r6
  have d6 : w6.cell? ⟨tb, 6, none⟩ = some (.i t'.st):=h6.cell 6
  have H6:=Lib.hid h6
  have Q6:=Lib.hid q6
  clear h6 r6 q6 hS5
  go_wp2_with fail
  go_ret
  exact ⟨Base.ret_bool (eq17 _), lo6, ro6, H6.out, Q6.out⟩
theorem yrt_in (c : Conf.Cf) (w : Nat) : Ty.RtIn (Ty.Ty.new c w):=fun r e => by cases e
theorem MemOk.ymem {t : Ty.Ty} {ws : List Int} (h : Ty.MemOk t.cf ws) : YMem t ws:=⟨h.p, h.q⟩
theorem laid_nil (W : World) (c : Conf.Cf) (hr : c.right = true) :
  Calls Tryz.prog 11 #[c.val, .slice none 0 0] W fun e W' => ∃ mb wb, e = .returned (.pointer (some ⟨mb, 0, none⟩)) ∧ CAt W' mb wb (List.replicate (Tk.sc c (Tk.ns c)) 0) 0 ∧ W.heap.size ≤ mb ∧ W.heap.size ≤ wb ∧ Below W.heap.size W W':=by
 have hm:=fun w => mem_any w c hr
 clear hr
 generalize Tk.sc c (Tk.ns c) = N at *
 obtain ⟨cw, cs, cst, cwa, cu⟩:=c
 simp only [Conf.Cf.val, Conf.Cf.cells] at hm
 have hA : Below W.heap.size W (W.alloc (.cells (Ae cw cs cst cwa cu) 30)):=(Below.refl _ _).alloc (Nat.le_refl _) _
 go_enter Tryz.func11, Tryz.ntmps11
 simp only [Conf.Cf.val, Conf.Cf.cells]
 go_wp2_with fail
 refine (hm _).mono ?_
 rintro e w1 ⟨mb, wb, rfl, hM, h1, h2, hb⟩
 have hB:=hA.trans (hb.mono hA.size)
 have hs1:=hA.size
 have hmb : W.heap.size ≤ mb:=by omega
 have hwb : W.heap.size ≤ wb:=by omega
 clear hm hb hA h1 h2 hs1
 have HM:=Lib.hid hM
 have HB:=Lib.hid hB
 clear hM hB
 go_wp2_with fail
 go_loopw [7] (fun i wr => i = .i 0 ∧ CAt wr mb wb (List.replicate N 0) 0 ∧ Below W.heap.size W wr) (fun i _ => 0)
 case atStart => exact ⟨rfl, HM.out, HB.out⟩
 case round =>
  obtain ⟨rfl, hM, hB⟩:=hrel
  have HMk:=Lib.hid hM
  have HBk:=Lib.hid hB
  clear hM hB
  go_wp2_with fail
  go_ret
  exact ⟨mb, wb, rfl, HMk.out, hmb, hwb, HBk.out⟩
def yawC : Conf.Cf:=⟨1, 1, 0, 0, 1⟩
def yaw : Nat → Ty.Ty × List Int × Nat
 | 0 => (Ty.Ty.new yawC 0, List.replicate 6 0, 0)
 | k + 1 => ((Ty.Ty.step (yaw k).1 (yaw k).2.1).1, (Ty.Ty.step (yaw k).1 (yaw k).2.1).2.1, (yaw k).2.2 + (Ty.Ty.step (yaw k).1 (yaw k).2.1).2.2)
theorem yaw_end : (yaw 8).1.st = 17 ∧ (yaw 8).2.2 = 8:=⟨by kernel_rfl, by kernel_rfl⟩
theorem yaw_mid : ∀ k, k < 7 → (yaw (k + 1)).1.st ≠ 17:=by
 have h : (List.range 7).all (fun k => (yaw (k + 1)).1.st != 17) = true:=by kernel_rfl
 intro k hk
 have:=List.all_eq_true.1 h k (by simpa using hk)
 simpa using this
theorem yaw_touch : ∀ k, (yaw k).2.2 ≤ k:=by
 intro k
 induction k with
 | zero => exact Nat.le_refl _
 | succ k ih =>
  have:=Ty.step_touch (yaw k).1 (yaw k).2.1
  show (yaw k).2.2 + _ ≤ k + 1
  omega
theorem yaw_ok : ∀ k, Ty.TyOk (yaw k).1 (yaw k).2.1.length ∧ Ty.MemOk (yaw k).1.cf (yaw k).2.1 ∧ Ty.RtIn (yaw k).1:=by
 intro k
 induction k with
 | zero =>
  refine ⟨Ty.TyOk.new ⟨by decide, by decide⟩ (by decide) (by decide) (by decide), ⟨fun o ho => ?_, by decide, fun j hj => ?_⟩, yrt_in _ _⟩
  ·have : ∀ i, Tk.rd (List.replicate 6 (0 : Int)) i = 0:=fun i => by unfold Tk.rd; rw [List.getD_eq_getElem?_getD, List.getElem?_replicate]; split <;> rfl
   show Tk.rd (List.replicate 6 (0 : Int)) _ ≤ _
   rw [this]; omega
  ·exfalso
   have : ∀ j, Ty.dg 0 j = 0:=by
    intro j
    induction j with
    | zero => rfl
    | succ j ih => exact ih
   have e : Tk.rd (yaw 0).2.1 1 = 0:=rfl
   rw [e, this] at hj
   omega
 | succ k ih =>
  obtain ⟨h1, h2, h3⟩:=ih
  have q:=h1.step h2.qok
  have c:=Ty.step_cf (yaw k).1 (yaw k).2.1
  refine ⟨?_, ?_, h3.step (ws:=(yaw k).2.1) h1.hasr⟩
  ·show Ty.TyOk _ (Ty.Ty.step (yaw k).1 (yaw k).2.1).2.1.length
   rw [q.2]; exact q.1
  ·show Ty.MemOk (Ty.Ty.step (yaw k).1 (yaw k).2.1).1.cf _
   rw [c.1]; exact h2.step h1 h3
theorem TR.toB {W W' : World} {tb mb wb B : Nat} {lo ro : Option Nat} (h : TR W tb mb wb none none W' lo ro) (ht : B ≤ tb) (hm : B ≤ mb) (hw : B ≤ wb) (hB : B ≤ W.heap.size) : Below B W W' :=
 h.2.2.below hB (fun k hk => by rcases hk with (rfl | hk | hk) | rfl | rfl; exact ht; cases hk; cases hk; exact hm; exact hw)
theorem yawake_any (W : World) (hL : Laid W) : Calls Tryz.prog 9 #[] W fun e W' => e = .returned (.bool true) ∧ Below W.heap.size W W':=by
 have hld:=fun w => laid_nil w yawC (by kernel_rfl)
 have hnw:=fun w => ynew_any w yawC 0
 have e6 : Tk.sc yawC (Tk.ns yawC) = 6:=by kernel_rfl
 rw [e6] at hld
 have hcv : yawC.val = .agg (Ae 1 1 0 0 1):=rfl
 rw [hcv] at hld hnw
 have hA : Below W.heap.size W (W.alloc (.cells (Ae 1 1 0 0 1) 30)):=(Below.refl _ _).alloc (Nat.le_refl _) _
 have hrow : RowAt (W.alloc (.cells (Ae 1 1 0 0 1) 30)) W.heap.size (Ae 1 1 0 0 1) 30:=RowAt.new _ _ _
 go_enter Tryz.func9, Tryz.ntmps9
 go_upto_region 2 with (fail)
 generalize (W.alloc (.cells (Ae 1 1 0 0 1) 30)) = w0 at *
 refine wp_region_lit ?_
 refine grow hrow 30 (.tmp 1) Tryz.underlying30 ?_
 try simp only [Act.put, sA, sZ, sS]
 refine gcall 11 #[.tmp 6, .const (.slice none 0 0)] #[30, 31] #[.agg (Ae 1 1 0 0 1), .slice none 0 0] (enters_of Tryz.func11 (by kernel_rfl) rfl) ?_
 refine (hld _).mono ?_
 rintro e w3 ⟨mb, wb, rfl, hM3, hm1, hm2, hb3⟩
 refine ⟨_, rfl, ?_⟩
 have hB3:=hA.trans (hb3.mono hA.size)
 have hr3 : RowAt w3 W.heap.size (Ae 1 1 0 0 1) 30:=RowAt.below hrow hb3
 have hmb : W.heap.size < mb:=by have:=RowAt.lt hrow; omega
 have hwb : W.heap.size < wb:=by have:=RowAt.lt hrow; omega
 have H3:=Lib.hid hM3
 have HB3:=Lib.hid hB3
 clear hld hA hrow hm1 hm2 hb3 hM3 hB3
 dsimp only
 go_upto_region 3 with (fail)
 refine wp_region_lit ?_
 refine grow hr3 30 (.tmp 1) Tryz.underlying30 ?_
 try simp only [Act.put, sA, sZ, sS]
 refine gcall 24 #[.tmp 8, .const (.i 0)] #[30, 3] #[.agg (Ae 1 1 0 0 1), .i 0] (enters_of Tryz.func24 (by kernel_rfl) rfl) ?_
 refine (hnw _).mono ?_
 rintro e w4 ⟨tb, rfl, hT4, ht4, hb4⟩
 refine ⟨_, rfl, ?_⟩
 have hL3 : Laid w3:=hL.stable (HB3.out.block 0 (hL.lt (by decide)))
 have hW0 : 0 < W.heap.size:=hL.lt (by decide)
 have h4:=TyAt.fresh H3.out hL3 (by omega) (by omega) hb4 ht4 hT4 rfl rfl
 have hB4:=HB3.out.trans (hb4.mono HB3.out.size)
 have htb : W.heap.size < tb:=by have:=RowAt.lt hr3; omega
 have H4:=Lib.hid h4
 have HB4:=Lib.hid hB4
 clear h4 hB4 hnw hr3 H3 HB3 hT4 ht4 hb4 hL3
 dsimp only
 go_wp2_with fail
 go_loopw [4] (fun i wr => ∃ (k : Nat) (lo' ro' : Option Nat), k ≤ 7 ∧ i = .i k ∧ RowKit.Hid (TyAt wr tb mb wb lo' ro' (yaw k).1 (yaw k).2.1 (yaw k).2.2) ∧ RowKit.Hid (TR w4 tb mb wb none none wr lo' ro')) (fun i _ => 7 - (intOf i).toNat)
 case atStart => exact ⟨0, none, none, by omega, rfl, H4.out, TR.refl⟩
 case round =>
  obtain ⟨k, lo', ro', hk, rfl, hT, hQ⟩:=hrel
  clear H4
  obtain ⟨hok, hme, hri⟩:=yaw_ok k
  have htc:=yaw_touch k
  have hst:=ystep_any hT.out hok (MemOk.ymem hme) ⟨by omega, by omega⟩
  unfold YStepPost at hst
  have k1 : (k : Int) < 20:=by omega
  by_cases hlt : k < 7
  ·have hd:=yaw_mid k hlt
   have hd2 : decide ((Ty.Ty.step (yaw k).1 (yaw k).2.1).1.st = 17) = false:=decide_eq_false hd
   rw [hd2] at hst
   have htc2 : ((yaw (k + 1)).2.2 : Int) = ((yaw k).2.2 : Int) + ((Ty.Ty.step (yaw k).1 (yaw k).2.1).2.2 : Nat):=Int.natCast_add _ _
   rw [← htc2] at hst
   have hst2 : Calls Tryz.prog 29 #[.pointer (some ⟨tb, 0, none⟩), .pointer (some ⟨mb, 0, none⟩)] wr (YPost wr tb mb wb lo' ro' (.bool false) (yaw (k + 1)).1 (yaw (k + 1)).2.1 (yaw (k + 1)).2.2):=hst
   clear hst hd hd2 htc htc2 hok hme hri hT
   generalize hy : yaw (k + 1) = y at hst2
   have hy:=hy.symm
   have HY:=Lib.hid (show y = yaw (k + 1) from hy)
   clear hy
   go_wp2_with fail
   refine hst2.mono ?_
   rintro e w5 ⟨rfl, lo3, ro3, h3, r3⟩
   have q3 : TR w4 tb mb wb none none w5 lo3 ro3:=hQ.out.trans r3
   have H3:=Lib.hid h3
   have Q3:=Lib.hid q3
   clear hst2 h3 r3 q3
   go_wp2_with fail
   go_roundw
   case rel => exact ⟨k + 1, lo3, ro3, by omega, by go_num, by rw [← HY.out]; exact H3, Q3⟩
   case measure => simp [intOf]; omega
  ·have hke : k = 7:=by omega
   subst hke
   obtain ⟨he1, he2⟩:=yaw_end
   have hd2 : decide ((Ty.Ty.step (yaw 7).1 (yaw 7).2.1).1.st = 17) = true:=decide_eq_true he1
   rw [hd2] at hst
   have htc2 : ((8 : Nat) : Int) = ((yaw 7).2.2 : Int) + ((Ty.Ty.step (yaw 7).1 (yaw 7).2.1).2.2 : Nat):=by rw [← he2]; exact Int.natCast_add _ _
   rw [← htc2] at hst
   have hst2 : Calls Tryz.prog 29 #[.pointer (some ⟨tb, 0, none⟩), .pointer (some ⟨mb, 0, none⟩)] wr (YPost wr tb mb wb lo' ro' (.bool true) (yaw 8).1 (yaw 8).2.1 8):=hst
   clear hst hd2 htc htc2 hok hme hri hT he2
   generalize yaw 8 = y at *
   obtain ⟨y1, y2, y3⟩:=y
   dsimp only at *
   have HE:=Lib.hid he1
   clear he1
   go_wp2_with fail
   refine hst2.mono ?_
   rintro e w5 ⟨rfl, lo5, ro5, h5, r5⟩
   have q5 : TR w4 tb mb wb none none w5 lo5 ro5:=hQ.out.trans r5
   have hsa:=ystate_any h5
   rw [HE.out] at hsa
   have hto:=touched_any h5.mem
   have HB5:=Lib.hid (HB4.out.trans (q5.toB (by omega) (by omega) (by omega) HB4.out.size))
   clear hst2 h5 r5 q5
   go_wp2_with fail
   refine hsa.mono ?_
   rintro e w6 ⟨rfl, rfl⟩
   go_wp2_with fail
   refine hto.mono ?_
   rintro e w7 ⟨rfl, rfl⟩
   go_wp2_with fail
   go_ret
   exact ⟨rfl, HB5.out⟩
structure LwAt (W : World) (c : Conf.Cf) (cb gb : Nat) (ws : List Int) (w : World) : Prop where
 b : Below W.heap.size W w
 cr : RowAt w cb c.cells 30
 wr : WRow w gb ws
 ng : W.heap.size ≤ gb ∧ gb < cb ∧ 0 < W.heap.size
theorem LwAt.keep {W : World} {c : Conf.Cf} {cb gb : Nat} {ws : List Int} {w w' : World} (h : LwAt W c cb gb ws w) (hb : Below (cb + 1) w w') : LwAt W c cb gb ws w' :=
 ⟨h.b.trans (hb.mono (by have:=h.ng; omega)), (hb.block cb (by omega)).trans h.cr, (hb.block gb (by have:=h.ng; omega)).trans h.wr, h.ng⟩
theorem LwAt.lt {W : World} {c : Conf.Cf} {cb gb : Nat} {ws : List Int} {w : World} (h : LwAt W c cb gb ws w) : cb + 1 ≤ w.heap.size:=RowAt.lt h.cr
theorem LwAt.below {W : World} {c : Conf.Cf} {cb gb : Nat} {ws : List Int} {w w' : World} (h : LwAt W c cb gb ws w) (hb : Below w.heap.size w w') : LwAt W c cb gb ws w':=h.keep (hb.mono h.lt)
theorem LwAt.put {W : World} {c : Conf.Cf} {cb gb : Nat} {ws : List Int} {w : World} (h : LwAt W c cb gb ws w) (i : Nat) (x : Int) : LwAt W c cb gb (ws.set i x) (w.setCell ⟨gb, i, none⟩ (.i x)) :=
 ⟨h.b.setCell (p:=⟨gb, i, none⟩) (by show W.heap.size ≤ gb; exact h.ng.1) _, setOther (p:=⟨gb, i, none⟩) h.cr _ (by show cb ≠ gb; have:=h.ng; omega), h.wr.set i x, h.ng⟩
theorem LwAt.ints {W : World} {c : Conf.Cf} {cb gb : Nat} {ws : List Int} {w : World} (h : LwAt W c cb gb ws w) : IntsB w gb 0 ws:=fun k x hx => by rw [Nat.zero_add]; exact h.wr.get hx
theorem IntsB.set {w : World} {g o : Nat} {l : List Int} (h : IntsB w g o l) (i : Nat) (x : Int) : IntsB (w.setCell ⟨g, o + i, none⟩ (.i x)) g o (l.set i x):=by
 intro k y hk
 rw [List.getElem?_set] at hk
 split at hk
 ·rename_i e
  subst e
  split at hk
  ·rename_i hl
   cases hk
   have hc:=h i _ (List.getElem?_eq_getElem hl)
   exact World.cell?_setCell_same' _ _ _ (by rw [hc]; rfl)
  ·cases hk
 ·rename_i e
  rw [World.cell?_setCell_other _ _ _ _ (by first | (simp; done) | (simp; omega))]
  exact h k y hk
theorem IntsB.at {w : World} {g o c : Nat} {l : List Int} (h : IntsB w g o l) (hl : l.length ≤ maxLen) : SliceAt w (.slice (some ⟨g, o, none⟩) l.length c) (l.map (Value.int .i64)) :=
 ⟨_, c, by simp, by simpa using hl, .inr ⟨g, o, rfl, fun j u hu => by
  rw [List.getElem?_map] at hu
  cases hx : l[j]? with
  | none => rw [hx] at hu; cases hu
  | some x => rw [hx] at hu; cases hu; exact h j x hx⟩⟩
theorem IntsB.keep {w w' : World} {g o B : Nat} {l : List Int} (h : IntsB w g o l) (hb : Below B w w') (hg : g < B) : IntsB w' g o l:=fun k x hx => (World.cell?_of_block (w:=w) (hb.block g hg)).trans (h k x hx)
theorem own_ints {w : World} {a : Option Addr} {n c : Nat} {l : List Int} (h : OwnS w (.slice a n c) n 1 (l.map (Value.int .i64))) (h0 : 0 < n) : ∃ g o, a = some ⟨g, o, none⟩ ∧ g < w.heap.size ∧ IntsB w g o l ∧ ∀ j, j < n → w.frozen? ⟨g, o + j, none⟩ = false:=by
 obtain ⟨g, o, cap, e, h1, h2, h3, h4, h5, h6⟩:=h.some h0
 cases e
 exact ⟨g, o, rfl, h3.lt, fun k x hx => h6 k _ (by rw [List.getElem?_map, hx]; rfl), fun j hj => h5 j (by omega)⟩
end Go.Proofs.YteadpgiffpfmnaaGreatDoor.Cl
