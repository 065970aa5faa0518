/- Part 11 of the walks and plain laws that the last text joins. -/
import Derived.Test.YtbklamnimfmjkaaGreatDoorKB9
set_option maxRecDepth 100000
set_option maxHeartbeats 16000000
set_option linter.all false
open Go.Proofs.Tryz
namespace Go.Proofs.YtbklamnimfmjkaaGreatDoor
namespace Cl
open Go.RowKit Hp Slot ah ai
theorem Uq {W:World} {tb mb wb:Nat} {lo ro:Option Nat} {t:Tk.Tk} {ws:List Int} {tc:Int} (h:bz W tb mb wb lo ro t ws tc) (hok:Tk.dR t ws) (ht:0<=tc/\tc<=4000000000000000000) (hk:t.st=9) (good:Bool):Calls prog 234 #[ptr tb,ptr mb,.bool good] W (dI W tb mb wb lo ro t ws tc good):=by
 unfold dI;have hc:Small t.cf:=⟨hok.c.w,hok.c.s⟩
 have hlen:=og hok hok.i;rw[Tk.BX hk];cases good
 ·have:True:=trivial
  try rw[if_neg (by simp:¬ (false=true))]
  have hsw:=fun w (h:bz w tb mb wb lo ro t ws tc)=>pE h hc ht t.i hok.i hlen t.word 2 (by simp[gD])
  have hst:=Tk.iY t t.i t.word 2 ws;have e0:(if (false:Bool)=true then 1 else 2)=2:=rfl
  try rw[e0]
  generalize t.swap t.i t.word 2 ws=q at *;obtain⟨b,t',aC,n⟩:=q;dsimp only at *;have hi:t'.i=t.i:=by rcases hst with⟨x,g,e,-⟩ | ⟨e,-⟩<;>rw[e]
  have c8:=cC t.i (h.cell 8);have c9:=cC t.word (h.cell 9);have H:=uH h;have HI:=uH hi;clear h hst hi;cases b
  all_goals
   rw[if_neg au];dsimp only
   go_enter func234,ntmps234
   go_upto_region 3 with(fail);refine jr (S:=fun w'=>w'.cell? ⟨tb,8,none⟩=some (.i t.i)) (by exact c8) (fun hHeld=>?_);refine tH 0 8 hHeld ?_;refine tH 1 9 hHeld ?_;refine tH 2 10 hHeld ?_;refine tH 3 11 hHeld ?_;refine tH 4 12 hHeld ?_;refine tH 5 13 hHeld ?_;refine tH 6 14 hHeld ?_;refine tH 7 15 hHeld ?_;refine tH 8 16 hHeld ?_;refine tH 10 18 hHeld ?_;refine rK 9 17 (.i t.word) hHeld ?_ (by go_simp;try with_reducible rfl)
   try simp only[Act.put,sA,sZ,sS]
   refine mP (i:=11) 264 #[.tmp 8,.tmp 9,.tmp 13,.tmp 17,.tmp 18] #[128,70,3,3,3] (some 19) none #[ptr tb,ptr mb,.i t.i,.i t.word,.i 2] (aH func264) ?_;refine(hsw _ (H.out.below bY)).mono ?_;rintro e w5 ⟨rfl,jZ,iE,h5,r5⟩;have d8:=cC t.i ((h5.cell 8).trans (by show some (Value.int .i64 (t'.i:Int))=_;rw[HI.out]));refine⟨_,rfl,d8,fun hHeld=>ay ?_⟩
   have q5:=((TR.refl (W:=W) (tb:=tb) (mb:=mb) (wb:=wb) (lo:=lo) (ro:=ro)).below bY).trans r5;refine tH 12 20 hHeld ?_
  focus
   refine X8 13 (some 21) hHeld ?_
  rotate_left
  focus
   refine VR 13 21 hHeld ?_
  rotate_left
  all_goals
   try simp only[Act.put,sA,sZ,sS]
   refine tH 14 22 hHeld ?_;refine iR ?_;have hcl:=iL h5 6;have Q5:=uH q5;clear h5 q5 r5 hsw c8 c9 d8 hHeld;go_wp2_with fail;refine hcl.mono ?_;rintro e w6 ⟨rfl,nN,nM,h6,r6⟩;have H6:=uH h6;have Q6:=uH (Q5.out.trans r6);clear hcl h6 r6;go_wp2_with fail
   first | go_end0 | refine bP ?_
   exact⟨rfl,nN,nM,H6.out,Q6.out⟩
 ·have:True:=trivial
  try rw[if_pos (rfl:true=true)]
  have hsw:=fun w (h:bz w tb mb wb lo ro t ws tc)=>pE h hc ht t.i hok.i hlen t.word 1 (by simp[gD])
  have hst:=Tk.iY t t.i t.word 1 ws;have e0:(if (true:Bool)=true then 1 else 2)=1:=rfl
  try rw[e0]
  generalize t.swap t.i t.word 1 ws=q at *;obtain⟨b,t',aC,n⟩:=q;dsimp only at *;have hi:t'.i=t.i:=by rcases hst with⟨x,g,e,-⟩ | ⟨e,-⟩<;>rw[e]
  have c8:=cC t.i (h.cell 8);have c9:=cC t.word (h.cell 9);have H:=uH h;have HI:=uH hi;clear h hst hi;cases b
  focus
   rw[if_neg au]
  rotate_left
  focus
   rw[if_pos au]
  rotate_left
  all_goals
   dsimp only
   go_enter func234,ntmps234
   go_upto_region 3 with(fail);refine jr (S:=fun w'=>w'.cell? ⟨tb,8,none⟩=some (.i t.i)) (by exact c8) (fun hHeld=>?_);refine tH 0 8 hHeld ?_;refine tH 1 9 hHeld ?_;refine tH 2 10 hHeld ?_;refine tH 3 11 hHeld ?_;refine tH 4 12 hHeld ?_;refine tH 5 13 hHeld ?_;refine tH 6 14 hHeld ?_;refine tH 7 15 hHeld ?_;refine tH 8 16 hHeld ?_;refine tH 10 18 hHeld ?_;refine rK 9 17 (.i t.word) hHeld ?_ (by go_simp;try with_reducible rfl)
   try simp only[Act.put,sA,sZ,sS]
   refine mP (i:=11) 264 #[.tmp 8,.tmp 9,.tmp 13,.tmp 17,.tmp 18] #[128,70,3,3,3] (some 19) none #[ptr tb,ptr mb,.i t.i,.i t.word,.i 1] (aH func264) ?_;refine(hsw _ (H.out.below bY)).mono ?_;rintro e w5 ⟨rfl,jZ,iE,h5,r5⟩;have d8:=cC t.i ((h5.cell 8).trans (by show some (Value.int .i64 (t'.i:Int))=_;rw[HI.out]));refine⟨_,rfl,d8,fun hHeld=>ay ?_⟩
   have q5:=((TR.refl (W:=W) (tb:=tb) (mb:=mb) (wb:=wb) (lo:=lo) (ro:=ro)).below bY).trans r5;refine tH 12 20 hHeld ?_
  ·refine sH 13 (some 21) hHeld ?_;refine tH 14 22 hHeld ?_;refine iR ?_;have hcl:=iL h5 6;have Q5:=uH q5;clear h5 q5 r5 hsw c8 c9 d8 hHeld;go_wp2_with fail;refine hcl.mono ?_;rintro e w6 ⟨rfl,nN,nM,h6,r6⟩;have H6:=uH h6;have Q6:=uH (Q5.out.trans r6);clear hcl h6 r6;go_wp2_with fail
   first | go_end0 | refine bP ?_
   exact⟨rfl,nN,nM,H6.out,Q6.out⟩
  ·refine tH 13 21 hHeld ?_;refine tH 14 22 hHeld ?_;refine iR ?_;have e6:=cC t'.st (h5.cell 6);have Yk:=h5.frozen 6;have H5:=uH h5;have Q5:=uH q5;clear h5 q5 r5 hsw c8 c9 d8 hHeld;go_wp2_with fail
   first | go_end0 | refine bP ?_
   exact⟨rfl,jZ,iE,H5.out.put 6 (.i 10) {t' with st:=10} rfl rfl rfl rfl,Q5.out.set 6 _⟩
theorem PG {W:World} {tb mb wb:Nat} {lo ro:Option Nat} {t:Tk.Tk} {ws:List Int} {tc:Int} (h:bz W tb mb wb lo ro t ws tc) (hok:Tk.dR t ws) (ht:0<=tc/\tc<=4000000000000000000) (hk:t.st=13) (good:Bool):Calls prog 238 #[ptr tb,ptr mb,.bool good] W (dI W tb mb wb lo ro t ws tc good):=by
 unfold dI;have hc:Small t.cf:=⟨hok.c.w,hok.c.s⟩
 have hi:=hok.i;have hlen:=og hok hok.i;have hsl:=fun W=>bg W t.cf t.i hc.w ⟨by have:=hc.s;unfold Tk.ns at hi;omega,hc.s.2⟩
 have hsc:(3+2 * t.cf.workers+(t.i:Int))=((Tk.sc t.cf t.i:Nat):Int):=by have:=hc.w;unfold Tk.sc;omega
 simp only[hsc,aj.Cf.val,aj.Cf.cells]at hsl;clear hsc;have hrd:=rd_some hlen;rw[Tk.uB hk];generalize Tk.rd ws (Tk.sc t.cf t.i)=x at *;have hld:=fun W (h:bB W mb wb ws tc)=>aU h ht (Tk.sc t.cf t.i) x hrd
 obtain⟨c0,c1,c2,c3,c4⟩:=cQ t.cf h.cell;have c8:=cC t.i (h.cell 8);have H:=uH h;clear h hrd
 go_enter func238,ntmps238
 go_wp2_with fail
 go_region_held3 (fun w'=>w'.cell? ⟨tb,0,none⟩=some (.i t.cf.workers)/\w'.cell? ⟨tb,1,none⟩=some (.i t.cf.slots)/\w'.cell? ⟨tb,2,none⟩=some (.i t.cf.streams)/\w'.cell? ⟨tb,3,none⟩=some (.i t.cf.waiters)/\w'.cell? ⟨tb,4,none⟩=some (.i t.cf.uses)/\w'.cell? ⟨tb,8,none⟩=some (.i t.i)) (first | go_keep | (refine⟨?_,?_,?_,?_,?_,?_⟩<;>first | assumption | (rw[World.cell?_setCell_other _ _ _ _ au];assumption)))
  ((first
  | (go_at_call 54;refine(hsl _).mono ?_;rintro e w6 ⟨rfl,hb6⟩;have h6:=(H.out.below bY).below hb6;obtain⟨d0,d1,d2,d3,d4⟩:=cQ t.cf h6.cell;have d8:=cC t.i (h6.cell 8))
  | (go_at_call 56;refine(hld _ h6.mem).mono ?_;rintro e w7 ⟨rfl,qQ,eY⟩;have h7:=h6.bU eY qQ;have k9:=h7.frozen 9;have Yj:=cC t.word (h7.cell 9);obtain⟨k0,k1,k2,k3,k4⟩:=cQ t.cf h7.cell;have k8:=cC t.i (h7.cell 8))))
 have q7:=(((TR.refl (W:=W) (tb:=tb) (mb:=mb) (wb:=wb) (lo:=lo) (ro:=ro)).below bY).below hb6).mem eY;have h8:=h7.put 9 (.i x) {t with word:=x} rfl rfl rfl rfl;have q8:=q7.set 9 (.i x);have e6:=cC t.st (h8.cell 6);have Yk:=h8.frozen 6;have H8:=uH h8;have Q8:=uH q8;clear h7 q7 h8 q8 h6 qQ eY hb6 hsl hld;go_wp2_with fail
 first | go_end0 | refine bP ?_
 exact⟨rfl,lo,ro,H8.out.put 6 (.i 14) {t with word:=x,st:=14} rfl rfl rfl rfl,Q8.out.set 6 _⟩
end Cl
end Go.Proofs.YtbklamnimfmjkaaGreatDoor
