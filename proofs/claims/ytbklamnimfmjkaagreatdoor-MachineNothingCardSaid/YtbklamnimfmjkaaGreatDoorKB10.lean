/- Part 10 of the walks and plain laws that the last text joins. -/
import Derived.Test.YtbklamnimfmjkaaGreatDoorKB9
set_option maxRecDepth 100000
set_option maxHeartbeats 16000000
set_option linter.all false
open Go.Proofs.Tryz
namespace Go.Proofs.YtbklamnimfmjkaaGreatDoor
namespace Cl
open Go.RowKit Hp Slot ah ai
theorem xw (W:World) (word:Int) (d:Nat) (more:Int) (hd:gD d) (hL:Laid W):
  Calls prog 271 #[.i word,.i d,.i more] W fun e W'=>
   e=.returned (.tuple #[.i (wG (nx word d 0 more)),.bool (nx word d 0 more).isSome])/\Below W.heap.size W W':=by
 have hdc:=aS W word hL
 cases hdw:dec word with
 | none=>
  rw[hdw]at hdc;rw[zo hdw];simp only[Option.getD_none,Option.isSome_none,wG]at hdc ⊢
  go_enter func271,ntmps271
  go_wp2_with fail;refine hdc.mono ?_;rintro e w5 ⟨rfl,hb5⟩;clear hdc;dsimp only;go_step;refine gl (.tuple #[S.zero.val,.bool false]) ?_;refine gl S.zero.val ?_;refine gl (.bool false) ?_;refine dU (ob:=.cells av 57) (Z:=av) (cs:=S.zero.cells) (t:=57) 57 (.tmp 8) (.tmp 13) rfl ?_;refine gl (.bool false) (ay ?_)
  rw[aG];have hB:Below W.heap.size W (w5.alloc (.cells S.zero.cells 57)):=hb5.alloc hb5.size _;generalize (w5.alloc (.cells S.zero.cells 57))=wa at *;go_wp2_with fail;go_ret2;exact⟨rfl,hB⟩
 | some s=>
  rw[hdw]at hdc;rw[zq hdw];simp only[Option.getD_some,Option.isSome_some]at hdc;have xG:=(gM hdw).1;have hnr:=fun s' (h:Tk.bC s d 0 more=some s')=>Tk.fC hd.x h
  have hnx:=fun w' hL=>yL w' s d 0 more hd xG hL
  generalize Tk.bC s d 0 more=N at *
  go_enter func271,ntmps271
  go_wp2_with fail;refine hdc.mono ?_;rintro e w5 ⟨rfl,hb5⟩;clear hdc;dsimp only;go_step;refine gl (.tuple #[s.val,.bool true]) ?_;refine gl s.val ?_;refine gl (.bool true) ?_;refine dU (ob:=.cells av 57) (Z:=av) (cs:=s.cells) (t:=57) 57 (.tmp 8) (.tmp 13) rfl ?_;refine gl (.bool true) (ay ?_)
  rw[aG];have hB:Below W.heap.size W (w5.alloc (.cells s.cells 57)):=hb5.alloc hb5.size _;have hs:af (w5.alloc (.cells s.cells 57)) w5.heap.size s.cells 57:=heap_alloc_new w5 _;have hsb:=hb5.size;generalize (w5.alloc (.cells s.cells 57))=wa at *;generalize w5.heap.size=sb at *;have VP:∀ w',Below W.heap.size W w'->Laid w':=fun w' hb=>hL.stable (hb.block 0 (hL.lt aT))
  have hnx:=hnx wa (VP _ hB);clear hb5 hL;go_upto_region 4 with(fail);refine wp_region_lit ?_;refine grow hs 57 (.tmp 8) underlying57 ?_;refine gl (.i d) ?_;refine gl (.i more) (ay ?_)
  refine pM 72 #[.tmp 18,.tmp 19,.const (.i 0),.tmp 20] #[57,3,3,3] #[s.val,.i d,.i 0,.i more] (aH func72) ?_;refine hnx.mono ?_;rintro e w6 ⟨rfl,hb6⟩;refine⟨_,rfl,?_⟩;have kS:=hB.trans (hb6.mono hB.size);have hs6:af w6 sb s.cells 57:=af.below (w:=wa) hs hb6;clear hs hnx hb6 hB;dsimp only;refine gl (.tuple #[(N.getD S.zero).val,.bool N.isSome]) ?_;refine gl (N.getD S.zero).val ?_;refine gl (.bool N.isSome) (ay ?_)
  refine uR hs6 (N.getD S.zero).cells 57 (.tmp 8) (.tmp 22) ?_;refine gl (.bool N.isSome) (ay ?_)
  have hs7:af (w6.setRow sb (N.getD S.zero).cells) sb (N.getD S.zero).cells 57:=hs6.set _;have kN:Below W.heap.size W (w6.setRow sb (N.getD S.zero).cells):=bX kS ag _;generalize (w6.setRow sb (N.getD S.zero).cells)=wb at *;clear hs6 kS
  cases N with
  | none=>
   simp only[Option.getD_none,Option.isSome_none,wG]at *;go_wp2_with fail;go_ret2;exact⟨rfl,kN⟩
  | some n=>
   simp only[Option.getD_some,Option.isSome_some,wG]at *;have hen:=fP wb n (VP _ kN) (hnr n rfl);go_upto_region 7 with(fail);refine wp_region_lit ?_;refine grow hs7 57 (.tmp 8) underlying57 (ay ?_)
   refine pM 73 #[.tmp 26] #[57] #[n.val] (aH func73) ?_;refine hen.mono ?_;rintro e w8 ⟨rfl,cZ⟩;refine⟨_,rfl,?_⟩;have SL:=kN.trans (cZ.mono kN.size);clear hs7 kN hen cZ;dsimp only;refine gl (.i n.word) ?_;refine gl (.bool true) ?_;refine gl (.i n.word) ?_;refine gl (.bool true) (ay ?_)
   go_wp2_with fail;go_ret2;exact⟨rfl,SL⟩
variable {ws:List Int}
theorem Po {r:Tk.Rt} (hst:r.st=0):r.step ws=(match nx r.word 11 0 4095 with
  | some s=>if Tk.rd ws r.cell=r.word then (false,{r with word:=s.word,swapped:=true,st:=1},ws.set r.cell s.word,1) else (true,r.end',ws,1)
  | none=>(true,r.end',ws,0)):=by
 have e:Tk.bn r.word 11 0 4095=(nx r.word 11 0 4095).map S.word:=by unfold Tk.bn nx;cases dec r.word<;>rfl
 unfold Tk.Rt.step;rw[hst];simp only[e];cases nx r.word 11 0 4095<;>rfl
theorem Pp {r:Tk.Rt} (hst:r.st=2):r.step ws=(match nx r.word 17 0 r.aJ with
  | some s=>(false,{r with st:=3},(Tk.dF ws r.cell r.word s.word).2,1)
  | none=>(false,{r with st:=3},ws,0)):=by
 have e:Tk.bn r.word 17 0 r.aJ=(nx r.word 17 0 r.aJ).map S.word:=by unfold Tk.bn nx;cases dec r.word<;>rfl
 unfold Tk.Rt.step;rw[hst];simp only[e];cases nx r.word 17 0 r.aJ<;>rfl
theorem IX {W:World} {rb mb wb:Nat} {r:Tk.Rt} {tc:Int} (h:cK W rb r) (hm:bB W mb wb ws tc) (ha:Apart rb mb wb) (ht:0<=tc/\tc<=4000000000000000000) (hL:Laid W) (hc:r.cell < ws.length) (hst:r.st=0):
  Calls prog 257 #[ptr rb,ptr mb] W (jJ W rb mb wb tc (r.step ws)):=by
 have iJ:=xw W r.word 11 4095 (by simp[gD]) hL;rw[Po hst];have hrd:=rd_some hc;have c0:=cC r.cell (h.cell 0);have c1:=cC r.word (h.cell 1);have H:=uH h;have M:=uH hm;have cq:∀ w x,bB w mb wb ws tc->Tk.rd ws r.cell=r.word->Calls prog 166 #[ptr mb,.i r.cell,.i r.word,.i x] w (kR w mb wb (.bool true) (ws.set r.cell x) (tc+1)):=fun w x hm e=>jv hm ht r.cell r.word (by rw[hrd,e]) x
 have cn:∀ w x,bB w mb wb ws tc->Tk.rd ws r.cell≠r.word->Calls prog 166 #[ptr mb,.i r.cell,.i r.word,.i x] w (kR w mb wb (.bool false) ws (tc+1)):=fun w x hm e=>jw hm ht r.cell _ hrd r.word x e
 clear h hm hst hrd hL;generalize nx r.word 11 0 4095=N at *
 cases N with
 | none=>
  simp only[Option.isSome_none,wG]at iJ;dsimp only;clear cq cn
  go_enter func257,ntmps257
  go_wp2_with fail;refine iJ.mono ?_;rintro e w5 ⟨rfl,hb5⟩;have h5:=H.out.below hb5;have m5:=M.out.below hb5;have q5:=aD.aF (F:=fun k=>k=rb\/dJ mb wb k) hb5;have d0:=cC r.cell (h5.cell 0);have d1:=cC r.word (h5.cell 1);clear iJ hb5 c0 c1;go_upto_region 2 with(fail);refine jr (S:=fun w'=>w'.cell? ⟨rb,0,none⟩=some (.i r.cell)/\w'.cell? ⟨rb,1,none⟩=some (.i r.word)) (by exact⟨d0,d1⟩) (fun hHeld=>?_);refine tH 0 15 hHeld ?_;refine tH 1 16 hHeld ?_;refine tH 2 17 hHeld ?_;refine sH 3 (some 18) hHeld ?_;refine sH 4 (some 19) hHeld ?_;refine sH 5 (some 20) hHeld ?_;refine sH 6 (some 21) hHeld ?_;refine sH 7 (some 22) hHeld ?_;refine sH 8 (some 23) hHeld ?_;refine sH 9 (some 24) hHeld ?_;refine sH 10 (some 25) hHeld ?_;refine sH 11 (some 26) hHeld ?_;refine sH 12 (some 27) hHeld ?_;refine sH 13 (some 28) hHeld ?_;refine sH 14 (some 29) hHeld ?_
  refine tH 15 30 hHeld ?_;refine iR ?_;have h5:=h5.below bY;have m5:=m5.below bY;have q5:=q5.drew;have hen:=rQ (mb:=mb) h5;have M5:=uH m5;have C5:=uH q5;clear h5 m5 q5;go_wp2_with fail;refine hen.mono ?_;rintro e w9 ⟨rfl,ym,tQ⟩;have M9:=uH (M5.out.aK tQ (fun e=>ha.m e.symm) (fun e=>ha.w e.symm));have R9:=uH ym;have C9:=uH (C5.out.trans tQ (fun _ _ h=>.inl h));clear hen ym tQ;go_wp2_with fail;go_ret;exact⟨rfl,R9.out,by simpa using M9.out,C9.out⟩
 | some s=>
  simp only[Option.isSome_some,wG]at iJ;dsimp only
  by_cases hx:Tk.rd ws r.cell=r.word
  focus
   rw[if_pos hx];have hq:=fun w hm=>cq w s.word hm hx
  rotate_left
  focus
   rw[if_neg hx];have hq:=fun w hm=>cn w s.word hm hx
  rotate_left
  all_goals
   clear cq cn hx
   go_enter func257,ntmps257
   go_wp2_with fail;refine iJ.mono ?_;rintro e w5 ⟨rfl,hb5⟩;have h5:=H.out.below hb5;have U5:=hq w5.drew ((M.out.below hb5).below bY);have WZ:∀ {w},aD (dJ mb wb) w5.drew w->aD (dJ mb wb) w5 w:=fun h=>(aD.aF bY).trans h (fun _ _ e=>e)
   have d0:=cC r.cell (h5.cell 0);have d1:=cC r.word (h5.cell 1);clear iJ c0 c1 hq;go_upto_region 2 with(fail);refine jr (S:=fun w'=>w'.cell? ⟨rb,0,none⟩=some (.i r.cell)/\w'.cell? ⟨rb,1,none⟩=some (.i r.word)) (by exact⟨d0,d1⟩) (fun hHeld=>?_);refine tH 0 15 hHeld ?_;refine tH 1 16 hHeld ?_;refine tH 2 17 hHeld ?_;refine tH 3 18 hHeld ?_;refine tH 4 19 hHeld ?_;refine tH 5 20 hHeld ?_;refine tH 6 21 hHeld ?_;refine tH 7 22 hHeld ?_;refine tH 8 23 hHeld ?_;refine tH 9 24 hHeld ?_;refine tH 10 25 hHeld ?_;refine tH 11 26 hHeld ?_;refine tH 12 27 hHeld ?_;refine mP (i:=13) 166 #[.tmp 18,.tmp 22,.tmp 26,.tmp 27] #[70,3,3,3] (some 28) (some (2,false)) #[ptr mb,.i r.cell,.i r.word,.i s.word] (aH func166) ?_;refine U5.mono ?_;rintro e w6 ⟨rfl,m6,k6⟩;have h6:=h5.aK (WZ k6) (fun e=>e.elim ha.m ha.w)
   have q6:=(aD.aF (F:=fun k=>k=rb\/dJ mb wb k) hb5).trans (WZ k6) (fun _ _ h=>.inr h);have e0:=cC r.cell (h6.cell 0);have e1:=cC r.word (h6.cell 1);refine⟨_,rfl,⟨e0,e1⟩,fun hHeld=>ay ?_⟩
   refine tH 14 29 hHeld ?_;refine tH 15 30 hHeld ?_;refine iR ?_
  ·have e3:=cV (zL rb r.st) (h6.cell 3);have e4:=cV (.bool r.swapped) (h6.cell 4);have ef1:=h6.frozen 1;have ef3:=h6.frozen 3;have ef4:=h6.frozen 4;have R6:=uH h6;have M6:=uH m6;have C6:=uH q6;clear h5 h6 m6 k6 q6 hb5 U5 d0 d1;go_wp2_with fail;go_ret;exact⟨rfl,((R6.out.vz s.word).Es true).setSt 1,((M6.out.far rb 1 _ (fun e=>ha.m e.symm) (fun e=>ha.w e.symm)).far rb 4 _ (fun e=>ha.m e.symm) (fun e=>ha.w e.symm)).far rb 3 _ (fun e=>ha.m e.symm) (fun e=>ha.w e.symm),((C6.out.setCell _ _ (fun _=>.inl rfl)).setCell _ _ (fun _=>.inl rfl)).setCell ⟨rb,3,none⟩ _ (fun _=>.inl rfl)⟩
  ·clear h5 k6 hb5 U5 d0 d1 e0 e1;have hen:=rQ (mb:=mb) h6;have M5:=uH m6;have C5:=uH q6;clear h6 m6 q6;go_wp2_with fail;refine hen.mono ?_;rintro e w9 ⟨rfl,ym,tQ⟩;have M9:=uH (M5.out.aK tQ (fun e=>ha.m e.symm) (fun e=>ha.w e.symm));have R9:=uH ym;have C9:=uH (C5.out.trans tQ (fun _ _ h=>.inl h));clear hen ym tQ;go_wp2_with fail;go_ret;exact⟨rfl,R9.out,by simpa using M9.out,C9.out⟩
theorem LZ {W:World} {rb mb wb:Nat} {r:Tk.Rt} {tc:Int} (h:cK W rb r) (hm:bB W mb wb ws tc) (ha:Apart rb mb wb) (ht:0<=tc/\tc<=4000000000000000000) (hL:Laid W) (hc:r.cell < ws.length) (hst:r.st=2):
  Calls prog 277 #[ptr rb,ptr mb] W (jJ W rb mb wb tc (r.step ws)):=by
 have iJ:=xw W.drew r.word 17 r.aJ (by simp[gD]) (hL.stable rfl);rw[Pp hst];have hrd:=rd_some hc;have c0:=cC r.cell (h.cell 0);have c1:=cC r.word (h.cell 1);have c2:=cC r.aJ (h.cell 2);have c3:=cV (zL rb r.st) (h.cell 3);have cf3:=h.frozen 3;have H:=uH h;have M:=uH hm
 have cq:∀ w x,bB w mb wb ws tc->∃ b,Calls prog 166 #[ptr mb,.i r.cell,.i r.word,.i x] w (kR w mb wb (.bool b) (Tk.dF ws r.cell r.word x).2 (tc+1)):=by
  intro w x hm;unfold Tk.dF
  by_cases e:Tk.rd ws r.cell=r.word
  ·rw[if_pos e];exact⟨true,jv hm ht r.cell r.word (by rw[hrd,e]) x⟩
  ·rw[if_neg e];exact⟨false,jw hm ht r.cell _ hrd r.word x e⟩
 clear h hm hst hrd hL;generalize nx r.word 17 0 r.aJ=N at *
 cases N with
 | none=>
  simp only[Option.isSome_none,wG]at iJ;dsimp only;clear cq
  go_enter func277,ntmps277
  go_upto_region 1 with(fail);refine jr (S:=fun w'=>w'.cell? ⟨rb,1,none⟩=some (.i r.word)/\w'.cell? ⟨rb,2,none⟩=some (.i r.aJ)) (by exact⟨c1,c2⟩) (fun hHeld=>?_);refine tH 0 8 hHeld ?_;refine tH 1 9 hHeld ?_;refine tH 2 10 hHeld ?_;refine tH 3 11 hHeld ?_;refine tH 4 12 hHeld ?_;refine tH 5 13 hHeld ?_;refine tH 6 14 hHeld ?_;refine tH 7 15 hHeld ?_;refine mP (i:=8) 271 #[.tmp 11,.const (.i 17),.tmp 15] #[3,3,3] (some 16) none #[.i r.word,.i 17,.i r.aJ] (aH func271) ?_;refine iJ.mono ?_;rintro e w5 ⟨rfl,hb5⟩;have hb5:=(Below.refl W.heap.size W).drew.trans hb5;have h5:=H.out.below hb5;have d1:=cC r.word (h5.cell 1);have d2:=cC r.aJ (h5.cell 2);refine⟨_,rfl,⟨d1,d2⟩,fun hHeld=>ay ?_⟩
  refine tH 9 7 hHeld ?_;refine tH 10 17 hHeld ?_;refine tH 11 18 hHeld ?_;refine tH 12 5 hHeld ?_;refine tH 13 6 hHeld ?_;refine iR ?_;have R5:=uH h5;have M5:=uH (M.out.below hb5);have C5:=uH (aD.aF (F:=fun k=>k=rb\/dJ mb wb k) hb5);have d3:=cV (zL rb r.st) (h5.cell 3);have df3:=h5.frozen 3;clear iJ hb5 h5 c0 c1 c2 c3 cf3 d1 d2;go_wp2_with fail;go_ret;exact⟨rfl,R5.out.setSt 3,by simpa using M5.out.far rb 3 _ (fun e=>ha.m e.symm) (fun e=>ha.w e.symm),C5.out.setCell ⟨rb,3,none⟩ _ (fun _=>.inl rfl)⟩
 | some s=>
  simp only[Option.isSome_some,wG]at iJ;dsimp only
  go_enter func277,ntmps277
  go_upto_region 1 with(fail);refine jr (S:=fun w'=>w'.cell? ⟨rb,1,none⟩=some (.i r.word)/\w'.cell? ⟨rb,2,none⟩=some (.i r.aJ)) (by exact⟨c1,c2⟩) (fun hHeld=>?_);refine tH 0 8 hHeld ?_;refine tH 1 9 hHeld ?_;refine tH 2 10 hHeld ?_;refine tH 3 11 hHeld ?_;refine tH 4 12 hHeld ?_;refine tH 5 13 hHeld ?_;refine tH 6 14 hHeld ?_;refine tH 7 15 hHeld ?_;refine mP (i:=8) 271 #[.tmp 11,.const (.i 17),.tmp 15] #[3,3,3] (some 16) none #[.i r.word,.i 17,.i r.aJ] (aH func271) ?_;refine iJ.mono ?_;rintro e w5 ⟨rfl,hb5⟩;have hb5:=(Below.refl W.heap.size W).drew.trans hb5;have h5:=H.out.below hb5;have d1:=cC r.word (h5.cell 1);have d2:=cC r.aJ (h5.cell 2);refine⟨_,rfl,⟨d1,d2⟩,fun hHeld=>ay ?_⟩
  refine tH 9 7 hHeld ?_;refine tH 10 17 hHeld ?_;refine tH 11 18 hHeld ?_;refine tH 12 5 hHeld ?_;refine tH 13 6 hHeld ?_;refine iR ?_;obtain⟨b,U5⟩:=cq w5.drew s.word ((M.out.below hb5).below bY);have d0:=cC r.cell (h5.cell 0);have WZ:∀ {w},aD (dJ mb wb) w5.drew w->aD (dJ mb wb) w5 w:=fun h=>(aD.aF bY).trans h (fun _ _ e=>e)
  clear iJ c0 c1 c2 c3 cf3 cq d2;go_upto_region 3 with(fail);refine jr (S:=fun w'=>w'.cell? ⟨rb,0,none⟩=some (.i r.cell)/\w'.cell? ⟨rb,1,none⟩=some (.i r.word)) (by exact⟨d0,d1⟩) (fun hHeld=>?_);refine tH 0 20 hHeld ?_;refine tH 1 21 hHeld ?_;refine tH 2 22 hHeld ?_;refine tH 3 23 hHeld ?_;refine tH 4 24 hHeld ?_;refine tH 5 25 hHeld ?_;refine tH 6 26 hHeld ?_;refine tH 7 27 hHeld ?_;refine tH 8 28 hHeld ?_;refine tH 9 29 hHeld ?_;refine mP (i:=10) 166 #[.tmp 20,.tmp 24,.tmp 28,.tmp 29] #[70,3,3,3] (some 30) none #[ptr mb,.i r.cell,.i r.word,.i s.word] (aH func166) ?_;refine U5.mono ?_;rintro e w6 ⟨rfl,m6,k6⟩;have h6:=h5.aK (WZ k6) (fun e=>e.elim ha.m ha.w);have e0:=cC r.cell (h6.cell 0);have e1:=cC r.word (h6.cell 1);refine⟨_,rfl,⟨e0,e1⟩,fun hHeld=>ay ?_⟩
  refine iR ?_;have R6:=uH h6;have M6:=uH m6;have C6:=uH ((aD.aF (F:=fun k=>k=rb\/dJ mb wb k) hb5).trans (WZ k6) (fun _ _ h=>.inr h));have e3:=cV (zL rb r.st) (h6.cell 3);have ef3:=h6.frozen 3;clear h5 h6 m6 k6 hb5 U5 d0 d1 e0 e1;go_wp2_with fail;go_ret;exact⟨rfl,R6.out.setSt 3,M6.out.far rb 3 _ (fun e=>ha.m e.symm) (fun e=>ha.w e.symm),C6.out.setCell ⟨rb,3,none⟩ _ (fun _=>.inl rfl)⟩
theorem jS {W:World} {rb mb wb:Nat} {r:Tk.Rt} {tc:Int} (h:cK W rb r) (hm:bB W mb wb ws tc) (ha:Apart rb mb wb) (ht:0<=tc/\tc<=4000000000000000000) (hL:Laid W) (hc:r.cell < ws.length) (hr:r.st<=4) (hl:3<=ws.length):
  Calls prog 168 #[ptr rb,ptr mb] W (jJ W rb mb wb tc (r.step ws)):=by
 have h5:r.st=0\/r.st=1\/r.st=2\/r.st=3\/r.st=4:=ag
 rcases h5 with q | q | q | q | q
 ·exact Et h q (IX h hm ha ht hL hc q)
 ·exact Eu h q (IY h hm ha ht hl q)
 ·exact IZ h q (LZ h hm ha ht hL hc q)
 ·exact Ew h q (I1 h hm ha ht hl q)
 ·refine I4 h q ((rQ h).mono ?_);rintro e w' ⟨rfl,hr',hc'⟩;have hs:r.step ws=(true,r.end',ws,0):=by simp[Tk.Rt.step,q]
  rw[hs];exact⟨rfl,hr',by simpa using hm.aK hc' (fun e=>ha.m e.symm) (fun e=>ha.w e.symm),hc'.mono (fun _ _ e=>.inl e)⟩
end Cl
end Go.Proofs.YtbklamnimfmjkaaGreatDoor
