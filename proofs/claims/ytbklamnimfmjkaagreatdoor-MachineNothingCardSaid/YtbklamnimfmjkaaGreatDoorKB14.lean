/- Part 14 of the walks and plain laws that the last text joins. -/
import Derived.Test.YtbklamnimfmjkaaGreatDoorKB13
set_option maxRecDepth 100000
set_option maxHeartbeats 16000000
set_option linter.all false
open Go.Proofs.Tryz
namespace Go.Proofs.YtbklamnimfmjkaaGreatDoor
namespace Cl
open Go.RowKit Hp Slot ah ai
def bL (W:World) (tb mb wb:Nat) (lo ro:Option Nat) (t:Ty.Ty) (ws:List Int) (tc:Int):Ending->World->Prop:=
 kY W tb mb wb lo ro (.tuple #[]) (t.step ws).1 (t.step ws).2.1 (tc+(t.step ws).2.2)
variable {tb mb wb:Nat} {lo ro:Option Nat} {ws:List Int} {tc:Int}
theorem PO {W:World} {t:Ty.Ty} (h:bu W tb mb wb lo ro t ws tc) (hok:Ty.eH t ws.length) (ht:0<=tc/\tc<=4000000000000000000) (hk:t.st=0):Calls prog 185 #[ptr tb,ptr mb] W (bL W tb mb wb lo ro t ws tc):=by
 unfold bL;have hc:Small t.cf:=⟨hok.c.w,hok.c.s⟩
 have hx:=rd_some (ws:=ws) (i:=2) (by have:=hok.len;omega);have hld:∀ W,bB W mb wb ws tc->Calls prog 56 #[ptr mb,.i 2] W _:=fun W h=>aU h ht 2 _ hx
 rw[Ty.BM hk];generalize Tk.rd ws 2=x at *;have H:=uH h;have hld:=hld W h.mem;clear h hx
 go_enter func185,ntmps185
 go_wp2_with fail;refine(hld).mono ?_;rintro e w5 ⟨rfl,gq,dS⟩;have h5:=(H.out).bU dS gq;have q5:=((TR.refl (W:=W) (tb:=tb) (mb:=mb) (wb:=wb) (lo:=lo) (ro:=ro))).mem dS;have Ji:=cC t.st (h5.cell 6);have aa4:=cC t.aJ (h5.cell 7);have yP:=h5.frozen 6;have aan:=h5.frozen 7;have H5:=uH (h5);have Q5:=uH (q5);clear h5 q5 gq dS;go_wp2_with fail
 first | go_end0 | refine bP ?_
 have h6:=(H5.out).put 7 (.i x) {t with aJ:=x} rfl rfl rfl rfl;have q6:=(Q5.out).set 7 (.i x);have h7:=(h6).put 6 (.i 1) {t with aJ:=x,st:=1} rfl rfl rfl rfl;have q7:=(q6).set 6 (.i 1);exact⟨rfl,lo,ro,h7,q7⟩
theorem Xm {W:World} {t:Ty.Ty} (h:bu W tb mb wb lo ro t ws tc) (hok:Ty.eH t ws.length) (ht:0<=tc/\tc<=4000000000000000000) (hk:t.st=1):Calls prog 186 #[ptr tb,ptr mb] W (bL W tb mb wb lo ro t ws tc):=by
 unfold bL;have hc:Small t.cf:=⟨hok.c.w,hok.c.s⟩
 have hpl:Ty.pc t.w < ws.length:=by have:=hok.len;have:=hok.w;unfold Ty.pc;omega
 have hpn:=fun W=>vw W t.cf t.w hc.w hok.w
 have hpc:(3+(t.w:Int))=((Ty.pc t.w:Nat):Int):=by unfold Ty.pc;omega
 simp only[hpc,aj.Cf.val,aj.Cf.cells]at hpn;clear hpc;rw[Ty.BN hk];have hxp:=rd_some hpl;have hst:=fun W (h:bB W mb wb ws tc)=>gu h ht (Ty.pc t.w) _ hxp (wrap64 (t.aJ+1))
 have hpw:=fun W=>yl W t.aJ
 obtain⟨PR,PS,PT,PU,PV⟩:=cQ t.cf h.cell;have Xn:=cC t.w (h.cell 5);have aa5:=cC t.aJ (h.cell 7);have H:=uH h;clear h hxp
 go_enter func186,ntmps186
 go_wp2_with fail
 go_region_held3 (fun w'=>w'.cell? ⟨tb,0,none⟩=some (.i t.cf.workers)/\w'.cell? ⟨tb,1,none⟩=some (.i t.cf.slots)/\w'.cell? ⟨tb,2,none⟩=some (.i t.cf.streams)/\w'.cell? ⟨tb,3,none⟩=some (.i t.cf.waiters)/\w'.cell? ⟨tb,4,none⟩=some (.i t.cf.uses)/\w'.cell? ⟨tb,5,none⟩=some (.i t.w)/\w'.cell? ⟨tb,7,none⟩=some (.i t.aJ)) (first | go_keep | (refine⟨?_,?_,?_,?_,?_,?_,?_⟩<;>first | assumption | (rw[World.cell?_setCell_other _ _ _ _ au];assumption)))
  ((first
  | (go_at_call 80;refine(hpn _).mono ?_;rintro e w5 ⟨rfl,hb5⟩;have h5:=((H.out).below bY).below hb5;obtain⟨ME,MF,MG,MH,MI⟩:=cQ t.cf h5.cell;have ZX:=cC t.w (h5.cell 5);have aa6:=cC t.aJ (h5.cell 7))
  | (go_at_call 81;refine(hpw _).mono ?_;rintro e w6 ⟨rfl,rfl⟩;have h6:=h5;obtain⟨Jj,Jk,Jl,Jm,Jn⟩:=cQ t.cf h6.cell;have ZY:=cC t.w (h6.cell 5);have ZZ:=cC t.aJ (h6.cell 7))
  | (go_at_call 57;refine(hst _ h6.mem).mono ?_;rintro e w7 ⟨rfl,qQ,eY⟩;have h7:=h6.bU eY qQ;obtain⟨aa7,aa8,aa9,aba,abb⟩:=cQ t.cf h7.cell;have abd:=cC t.w (h7.cell 5);have abe:=cC t.aJ (h7.cell 7))))
 have q7:=(((((TR.refl (W:=W) (tb:=tb) (mb:=mb) (wb:=wb) (lo:=lo) (ro:=ro))).below bY).below hb5).mem eY)
 have H7:=uH (h7);have Q7:=uH (q7);clear h7 q7 eY qQ h6 h5 hb5;have Jo:=cC t.st (H7.out.cell 6);have yQ:=H7.out.frozen 6;go_wp2_with fail
 first | go_end0 | refine bP ?_
 have h8:=(H7.out).put 6 (.i 2) {t with st:=2} rfl rfl rfl rfl;have q8:=(Q7.out).set 6 (.i 2);exact⟨rfl,lo,ro,h8,q8⟩
theorem EY {W:World} {t:Ty.Ty} (h:bu W tb mb wb lo ro t ws tc) (hok:Ty.eH t ws.length) (ht:0<=tc/\tc<=4000000000000000000) (hk:t.st=2):Calls prog 187 #[ptr tb,ptr mb] W (bL W tb mb wb lo ro t ws tc):=by
 unfold bL;have hc:Small t.cf:=⟨hok.c.w,hok.c.s⟩
 have hx:=rd_some (ws:=ws) (i:=0) (by have:=hok.len;omega);have hld:∀ W,bB W mb wb ws tc->Calls prog 56 #[ptr mb,.i 0] W _:=fun W h=>aU h ht 0 _ hx
 rw[Ty.BO hk];generalize Tk.rd ws 0=x at *;have H:=uH h;have hld:=hld W h.mem;clear h hx
 go_enter func187,ntmps187
 go_wp2_with fail;refine(hld).mono ?_;rintro e w5 ⟨rfl,gq,dS⟩;have h5:=(H.out).bU dS gq;have q5:=((TR.refl (W:=W) (tb:=tb) (mb:=mb) (wb:=wb) (lo:=lo) (ro:=ro))).mem dS;have abf:=cC t.closed (h5.cell 8);have aao:=h5.frozen 8;have H5:=uH (h5);have Q5:=uH (q5);clear h5 q5 gq dS;have h6:=(H5.out).put 8 (.i x) {t with closed:=x} rfl rfl rfl rfl;have q6:=(Q5.out).set 8 (.i x);have s_8:=cC x (h6.cell 8);have hcl:=oo h6 3 4 x;have H6:=uH (h6);have Q6:=uH (q6);clear h6 q6;go_wp2_with fail;refine(hcl).mono ?_;rintro e w7 ⟨rfl,BF,BG,h7,r7⟩;have q7:=(Q6.out).trans r7;have H7:=uH (h7);have Q7:=uH (q7);clear h7 q7 r7;go_wp2_with fail
 first | go_end0 | refine bP ?_
 exact⟨rfl,BF,BG,H7.out,Q7.out⟩
theorem PW {W:World} {t:Ty.Ty} (h:bu W tb mb wb lo ro t ws tc) (hok:Ty.eH t ws.length) (ht:0<=tc/\tc<=4000000000000000000) (hk:t.st=15):Calls prog 200 #[ptr tb,ptr mb] W (bL W tb mb wb lo ro t ws tc):=by
 unfold bL;have hc:Small t.cf:=⟨hok.c.w,hok.c.s⟩
 have hpl:Ty.pc t.w < ws.length:=by have:=hok.len;have:=hok.w;unfold Ty.pc;omega
 have hpn:=fun W=>vw W t.cf t.w hc.w hok.w
 have hpc:(3+(t.w:Int))=((Ty.pc t.w:Nat):Int):=by unfold Ty.pc;omega
 simp only[hpc,aj.Cf.val,aj.Cf.cells]at hpn;clear hpc;rw[Ty.uD hk];have hxp:=rd_some hpl;have hst:=fun W (h:bB W mb wb ws tc)=>gu h ht (Ty.pc t.w) _ hxp 0
 obtain⟨PR,PS,PT,PU,PV⟩:=cQ t.cf h.cell;have Xn:=cC t.w (h.cell 5);have H:=uH h;clear h hxp
 go_enter func200,ntmps200
 go_wp2_with fail
 go_region_held3 (fun w'=>w'.cell? ⟨tb,0,none⟩=some (.i t.cf.workers)/\w'.cell? ⟨tb,1,none⟩=some (.i t.cf.slots)/\w'.cell? ⟨tb,2,none⟩=some (.i t.cf.streams)/\w'.cell? ⟨tb,3,none⟩=some (.i t.cf.waiters)/\w'.cell? ⟨tb,4,none⟩=some (.i t.cf.uses)/\w'.cell? ⟨tb,5,none⟩=some (.i t.w)) (first | go_keep | (refine⟨?_,?_,?_,?_,?_,?_⟩<;>first | assumption | (rw[World.cell?_setCell_other _ _ _ _ au];assumption)))
  ((first
  | (go_at_call 80;refine(hpn _).mono ?_;rintro e w5 ⟨rfl,hb5⟩;have h5:=((H.out).below bY).below hb5;obtain⟨ME,MF,MG,MH,MI⟩:=cQ t.cf h5.cell;have ZX:=cC t.w (h5.cell 5))
  | (go_at_call 57;refine(hst _ h5.mem).mono ?_;rintro e w6 ⟨rfl,jH,fT⟩;have h6:=h5.bU fT jH;obtain⟨Jj,Jk,Jl,Jm,Jn⟩:=cQ t.cf h6.cell;have ZY:=cC t.w (h6.cell 5))))
 have q6:=(((((TR.refl (W:=W) (tb:=tb) (mb:=mb) (wb:=wb) (lo:=lo) (ro:=ro))).below bY).below hb5).mem fT)
 have H6:=uH (h6);have Q6:=uH (q6);clear h6 q6 fT jH h5 hb5;have EZ:=cC t.st (H6.out.cell 6);have xB:=H6.out.frozen 6;go_wp2_with fail
 first | go_end0 | refine bP ?_
 have h7:=(H6.out).put 6 (.i 16) {t with st:=16} rfl rfl rfl rfl;have q7:=(Q6.out).set 6 (.i 16);exact⟨rfl,lo,ro,h7,q7⟩
theorem PX {W:World} {t:Ty.Ty} (h:bu W tb mb wb lo ro t ws tc) (hok:Ty.eH t ws.length) (ht:0<=tc/\tc<=4000000000000000000) (hk:t.st=16):Calls prog 201 #[ptr tb,ptr mb] W (bL W tb mb wb lo ro t ws tc):=by
 unfold bL;have hc:Small t.cf:=⟨hok.c.w,hok.c.s⟩
 have hx:=rd_some (ws:=ws) (i:=2) (by have:=hok.len;omega);have hld:∀ W,bB W mb wb ws tc->Calls prog 56 #[ptr mb,.i 2] W _:=fun W h=>aU h ht 2 _ hx
 rw[Ty.FC hk];generalize Tk.rd ws 2=x at *
 by_cases hq:x=t.aJ
 focus
  rw[if_pos hq];subst hq
 rotate_left
 focus
  rw[if_neg hq];have hq2:(x == t.aJ)=false:=by simpa using hq
 rotate_left
 all_goals
  have Z0:=cC t.st (h.cell 6);have Xo:=h.frozen 6;have h5:=(h).put 6 (.i 0) {t with st:=0} rfl rfl rfl rfl;have q5:=((TR.refl (W:=W) (tb:=tb) (mb:=mb) (wb:=wb) (lo:=lo) (ro:=ro))).set 6 (.i 0);have s_7:=cC t.aJ (h5.cell 7);have H5:=uH (h5);have Q5:=uH (q5);clear h h5 q5 hx
  go_enter func201,ntmps201
  go_wp2_with fail
  go_region_held3 (fun w'=>w'.cell? ⟨tb,7,none⟩=some (.i t.aJ)) (first | go_keep | assumption | (rw[World.cell?_setCell_other _ _ _ _ au];assumption))
   ((first
   | (go_at_call 56;refine(hld _ ((H5.out).below bY).mem).mono ?_;rintro e w6 ⟨rfl,jH,fT⟩;have h6:=((H5.out).below bY).bU fT jH;have ZZ:=cC t.aJ (h6.cell 7))))
  have q6:=(((Q5.out).below bY).mem fT)
  have H6:=uH (h6);have Q6:=uH (q6);clear h6 q6 fT jH;have EZ:=cC 0 (H6.out.cell 6);have xB:=H6.out.frozen 6;go_wp2_with fail
  first | go_end0 | refine bP ?_
 ·have h7:=(H6.out).put 6 (.i 17) {t with st:=17} rfl rfl rfl rfl;have q7:=(Q6.out).set 6 (.i 17);exact⟨rfl,lo,ro,h7,q7⟩
 ·exact⟨rfl,lo,ro,H6.out,Q6.out⟩
end Cl
end Go.Proofs.YtbklamnimfmjkaaGreatDoor
