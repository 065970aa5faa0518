/- Part 15 of the walks and plain laws that the last text joins. -/
import Derived.Test.YtbklamnimfmjkaaGreatDoorKB10
import Derived.Test.YtbklamnimfmjkaaGreatDoorKB14
set_option maxRecDepth 100000
set_option maxHeartbeats 16000000
set_option linter.all false
open Go.Proofs.Tryz
namespace Go.Proofs.YtbklamnimfmjkaaGreatDoor
namespace Cl
open Go.RowKit Hp Slot ah ai
variable {tb mb wb:Nat} {lo ro:Option Nat} {ws:List Int} {tc:Int}
theorem bu.looked {W W':World} {t:Ty.Ty} (h:bu W tb mb wb lo ro t ws tc) {fb:Nat} (hl:lo=some fb) (hc:aD (fun k=>k=fb) W W') {f:Tk.Fd} (hf:bQ W' fb t.cf f):bu W' tb mb wb lo ro {t with look:=some f} ws tc:=
 h.jI hl (hc.mono fun _ _ e=>.inl e) hf (h.mem.aK hc (fun e=>(h.la fb hl).1.m e.symm) (fun e=>(h.la fb hl).1.w e.symm))
theorem TR.looked {W w w':World} {fb:Nat} {l1 r1:Option Nat} (h:TR W tb mb wb lo ro w l1 r1) (hl:l1=some fb) (hc:aD (fun k=>k=fb) w w'):TR W tb mb wb lo ro w' l1 r1:=
 h.aK hc (fun k e=>.inl (.inr (.inl (by rw[hl,e]))))
theorem PY {W:World} {t:Ty.Ty} (h:bu W tb mb wb lo ro t ws tc) (hok:Ty.eH t ws.length) (ht:0<=tc/\tc<=4000000000000000000) (hk:t.st=3):Calls prog 188 #[ptr tb,ptr mb] W (bL W tb mb wb lo ro t ws tc):=by
 unfold bL;have hc:Small t.cf:=⟨hok.c.w,hok.c.s⟩
 obtain⟨f,hl⟩:=hok.has ag ag;obtain⟨f',i',wd',hf',hi',he⟩:=hok.dz hl ws;have hsk:=tZ h hok ht ag ag;rw[Ty.BP hk];generalize t.dz ws=q at *;obtain⟨b1,b2,t',n⟩:=q;dsimp only at he hsk ⊢;subst he;have H:=uH h;clear h hl;cases b1
 focus
  rw[if_neg au];cases b2
 focus
  rw[if_neg au]
 rotate_left
 focus
  rw[if_pos rfl]
 rotate_left
 focus
  rw[if_pos rfl];have hrn:=fun W=>iG W t.cf i' wd' hc hi'
  simp only[aj.Cf.val,aj.Cf.cells]at hrn
 rotate_left
 all_goals
  go_enter func188,ntmps188
  go_wp2_with fail;refine(hsk).mono ?_;rintro e w5 ⟨rfl,jZ,iE,h5,r5⟩;have q5:=((TR.refl (W:=W) (tb:=tb) (mb:=mb) (wb:=wb) (lo:=lo) (ro:=ro))).trans r5
 ·have H5:=uH (h5);have Q5:=uH (q5);clear h5 q5 r5;clear hsk;go_wp2_with fail
  first | go_end0 | refine bP ?_
  exact⟨rfl,jZ,iE,H5.out,Q5.out⟩
 ·have abg:=cC t.w (h5.cell 5);have H5:=uH (h5);have Q5:=uH (q5);clear h5 q5 r5;have hcl:=oo H5.out 5 5 t.w;clear hsk;go_wp2_with fail;refine(hcl).mono ?_;rintro e w6 ⟨rfl,nN,nM,h6,r6⟩;have q6:=(Q5.out).trans r6;have H6:=uH (h6);have Q6:=uH (q6);clear h6 q6 r6;go_wp2_with fail
  first | go_end0 | refine bP ?_
  exact⟨rfl,nN,nM,H6.out,Q6.out⟩
 ·obtain⟨abh,abj,abk,abl,abm⟩:=cQ t.cf h5.cell;have aap:=cC i' (h5.cell 11);have aaq:=cC wd' (h5.cell 12);have aar:=cV (fJ iE) (h5.cell 15);have Z4:=h5.frozen 15;have H5:=uH (h5);have Q5:=uH (q5);clear h5 q5 r5;clear hsk;go_wp2_with fail
  go_region_held3 (fun w'=>w'.cell? ⟨tb,0,none⟩=some (.i t.cf.workers)/\w'.cell? ⟨tb,1,none⟩=some (.i t.cf.slots)/\w'.cell? ⟨tb,2,none⟩=some (.i t.cf.streams)/\w'.cell? ⟨tb,3,none⟩=some (.i t.cf.waiters)/\w'.cell? ⟨tb,4,none⟩=some (.i t.cf.uses)/\w'.cell? ⟨tb,11,none⟩=some (.i i')/\w'.cell? ⟨tb,12,none⟩=some (.i wd')) (first | go_keep | (refine⟨?_,?_,?_,?_,?_,?_,?_⟩<;>first | assumption | (rw[World.cell?_setCell_other _ _ _ _ au];assumption)))
   ((first
   | (go_at_call 221;refine(hrn _).mono ?_;rintro e w6 ⟨Ta,rfl,Qy,IB,hb6⟩;have h6:=((H5.out).below bY).below hb6;obtain⟨Jj,Jk,Jl,Jm,Jn⟩:=cQ t.cf h6.cell;have MJ:=cC i' (h6.cell 11);have Rs:=cC wd' (h6.cell 12);have aas:=cV (fJ iE) (h6.cell 15);have Z5:=h6.frozen 15)))
  have q6:=(((Q5.out).below bY).below hb6)
  have H6:=uH (h6);have Q6:=uH (q6);obtain⟨n1,n2,n3,n4⟩:=((H5.out).below bY).jh IB;have h11:=(H6.out).mW Qy n1 n2 n4;have xK:TR W tb mb wb lo ro (w6.setCell ⟨tb,15,none⟩ (ptr Ta)) jZ (some Ta):=⟨(Q6.out).1,.inr ⟨Ta,rfl,Nat.le_trans (show W.heap.size<=w5.heap.size from Q5.out.2.2.size) IB⟩,(Q6.out).2.2.setCell ⟨tb,15,none⟩ _ (fun _=>.inl (.inl rfl))⟩
  have abn:=cC t.st (h11.cell 6);have aat:=h11.frozen 6;have pV:=uH h11;have xF:=uH xK;clear h11 xK n1 n2 n3 n4 Qy hb6 IB h6;go_wp2_with fail
  first | go_end0 | refine bP ?_
  have h7:=(pV.out).put 6 (.i 4) {t with look:=some f',i:=i',word:=wd',rt:=some (Tk.Rt.new (Tk.sc t.cf i') wd'),st:=4} rfl rfl rfl rfl;have q7:=(xF.out).set 6 (.i 4);exact⟨rfl,jZ,some Ta,h7,q7⟩
theorem Ut {W:World} {t:Ty.Ty} (h:bu W tb mb wb lo ro t ws tc) (hok:Ty.eH t ws.length) (ht:0<=tc/\tc<=4000000000000000000) (hk:t.st=4):Calls prog 189 #[ptr tb,ptr mb] W (bL W tb mb wb lo ro t ws tc):=by
 unfold bL;have hc:Small t.cf:=⟨hok.c.w,hok.c.s⟩
 obtain⟨r,hl⟩:=hok.kz hk;have hro:=hok.rt r hl;obtain⟨rb,rfl,hR⟩:=h.ret r hl;have hA:=h.ra rb rfl;have hrt:t.ret=r:=by unfold Ty.Ty.ret;rw[hl];rfl
 have hst:=jS hR h.mem hA.1 ht h.laid hro.1 hro.2 (by have:=hok.len;omega);obtain⟨f,hf⟩:=hok.has ag ag;have hag:t.again={t with look:=some f.again}:=by unfold Ty.Ty.again Ty.Ty.fd;rw[hf];rfl
 rw[Ty.BQ hk,hrt];clear hR hrt hl hro;generalize r.step ws=q at *;obtain⟨b,r',aC,n⟩:=q;dsimp only at *;have c15:=cP rb (h.cell 15);have H:=uH h;clear h;cases b
 focus
  rw[if_neg au]
 rotate_left
 focus
  rw[if_pos rfl,hag]
 rotate_left
 all_goals
  go_enter func189,ntmps189
  go_wp2_with fail;refine hst.mono ?_;rintro e w5 ⟨rfl,Dt,gq,dS⟩;have h5:=H.out.lK rfl dS Dt gq;have q5:=(TR.refl (W:=W) (tb:=tb) (mb:=mb) (wb:=wb) (lo:=lo) (ro:=some rb)).aK dS (fun k e=>e.elim (fun e=>.inl (.inr (.inr (by rw[e])))) .inr)
 ·have H5:=uH h5;have Q5:=uH q5;clear h5 q5 hst c15 Dt gq dS;go_wp2_with fail
  first | go_end0 | refine bP ?_
  exact⟨rfl,lo,some rb,H5.out,Q5.out⟩
 ·obtain⟨fb,hlo,uS⟩:=h5.look f hf;have d10:=cP fb ((h5.cell 10).trans (by rw[hlo];rfl));have hcl:=oH uS;have H5:=uH h5;have Q5:=uH q5;clear h5 q5 hst c15 Dt gq dS uS;go_wp2_with fail;refine hcl.mono ?_;rintro e w6 ⟨rfl,CJ,fT⟩;have h6:=H5.out.looked hlo fT CJ;have q6:=Q5.out.looked hlo fT;have e6:=cC t.st (h6.cell 6);have Yk:=h6.frozen 6;have H6:=uH h6;have Q6:=uH q6;clear h6 q6 hcl CJ fT d10;go_wp2_with fail
  first | go_end0 | refine bP ?_
  exact⟨rfl,lo,some rb,H6.out.put 6 (.i 3) {t with look:=some f.again,rt:=some r',st:=3} rfl rfl rfl rfl,Q6.out.set 6 (.i 3)⟩
theorem Xp {W:World} {t:Ty.Ty} (h:bu W tb mb wb lo ro t ws tc) (hok:Ty.eH t ws.length) (ht:0<=tc/\tc<=4000000000000000000) (hk:t.st=5):Calls prog 190 #[ptr tb,ptr mb] W (bL W tb mb wb lo ro t ws tc):=by
 unfold bL;have hc:Small t.cf:=⟨hok.c.w,hok.c.s⟩
 obtain⟨f,hl⟩:=hok.has ag ag;obtain⟨f',i',wd',hf',hi',he⟩:=hok.dz hl ws;have hsk:=tZ h hok ht ag ag;rw[Ty.BR hk];generalize t.dz ws=q at *;obtain⟨b1,b2,t',n⟩:=q;dsimp only at he hsk ⊢;subst he;have H:=uH h;clear h hl;cases b1
 ·rw[if_neg au];cases b2
  ·rw[if_neg au]
   go_enter func190,ntmps190
   go_wp2_with fail;refine(hsk).mono ?_;rintro e w5 ⟨rfl,jZ,iE,h5,r5⟩;have q5:=((TR.refl (W:=W) (tb:=tb) (mb:=mb) (wb:=wb) (lo:=lo) (ro:=ro))).trans r5;have H5:=uH (h5);have Q5:=uH (q5);clear h5 q5 r5;clear hsk;go_wp2_with fail
   first | go_end0 | refine bP ?_
   exact⟨rfl,jZ,iE,H5.out,Q5.out⟩
  ·rw[if_pos rfl]
   by_cases hcl0:t.closed=0
   focus
    rw[if_neg (by simpa using hcl0)];dsimp only
   rotate_left
   focus
    rw[if_pos hcl0];dsimp only;have abo:(t.closed != 0)=true:=by simpa using hcl0
    have abp:(t.closed == 0)=false:=by simpa using hcl0
   rotate_left
   all_goals
    go_enter func190,ntmps190
    go_wp2_with fail;refine hsk.mono ?_;rintro e w5 ⟨rfl,jZ,iE,h5,r5⟩;have q5:=((TR.refl (W:=W) (tb:=tb) (mb:=mb) (wb:=wb) (lo:=lo) (ro:=ro))).trans r5
   focus
    have c8:=cC 0 ((h5.cell 8).trans (by show some (Value.int .i64 t.closed)=_;rw[hcl0]))
   rotate_left
   focus
    have c8:=cC t.closed ((h5.cell 8))
   rotate_left
   all_goals
    have Ji:=cC t.st (h5.cell 6);have yP:=h5.frozen 6;have H5:=uH (h5);have Q5:=uH (q5);clear h5 q5 r5 hsk;go_wp2_with fail
    first | go_end0 | refine bP ?_
   ·have h6:=(H5.out).put 6 (.i 8) {t with look:=some f',i:=i',word:=wd',st:=8} rfl rfl rfl rfl;have q6:=(Q5.out).set 6 (.i 8);exact⟨rfl,jZ,iE,h6,q6⟩
   ·have h6:=(H5.out).put 6 (.i 15) {t with look:=some f',i:=i',word:=wd',st:=15} rfl rfl rfl rfl;have q6:=(Q5.out).set 6 (.i 15);exact⟨rfl,jZ,iE,h6,q6⟩
 ·rw[if_pos rfl];have hw:=hok.w;have hcl:=fun(w:World) (l5 r5:Option Nat) (h:bu w tb mb wb l5 r5 {t with look:=some f',i:=i',word:=wd',other:=-1,st:=6} ws (tc+n))=>rY h ⟨hw,hc.w.2⟩ ⟨au,by simp only;omega⟩
  generalize Ty.Ty.another {t with look:=some f',i:=i',word:=wd',other:=-1,st:=6}=a at *;obtain⟨a1,a2⟩:=a;dsimp only at *;cases a1
  focus
   rw[if_neg au]
  rotate_left
  focus
   rw[if_pos rfl]
  rotate_left
  all_goals
   go_enter func190,ntmps190
   go_wp2_with fail;refine(hsk).mono ?_;rintro e w5 ⟨rfl,jZ,iE,h5,r5⟩;have q5:=((TR.refl (W:=W) (tb:=tb) (mb:=mb) (wb:=wb) (lo:=lo) (ro:=ro))).trans r5;have aau:=cC t.other (h5.cell 13);have Ji:=cC t.st (h5.cell 6);have Z6:=h5.frozen 13;have yP:=h5.frozen 6;have H5:=uH (h5);have Q5:=uH (q5);clear h5 q5 r5;clear hsk;have h6:=(H5.out).put 13 (.i (-1)) {t with look:=some f',i:=i',word:=wd',other:=-1} rfl rfl rfl rfl;have q6:=(Q5.out).set 13 (.i (-1));have h7:=(h6).put 6 (.i 6) {t with look:=some f',i:=i',word:=wd',other:=-1,st:=6} rfl rfl rfl rfl;have q7:=(q6).set 6 (.i 6);have hcl:=hcl _ _ _ h7;have H7:=uH (h7);have Q7:=uH (q7);clear h7 q7 h6 q6;go_wp2_with fail;refine hcl.mono ?_;rintro e w8 ⟨rfl,Rm,Rn,h8,r8⟩;have q8:=(Q7.out).trans r8
  ·have g6:=cC a2.st (h8.cell 6);have Yl:=h8.frozen 6;have H8:=uH (h8);have Q8:=uH (q8);clear h8 q8 r8 hcl;go_wp2_with fail
   first | go_end0 | refine bP ?_
   have h9:=(H8.out).put 6 (.i 7) {a2 with st:=7} rfl rfl rfl rfl;have q9:=(Q8.out).set 6 (.i 7);exact⟨rfl,Rm,Rn,h9,q9⟩
  ·have H8:=uH (h8);have Q8:=uH (q8);clear h8 q8 r8 hcl;go_wp2_with fail
   first | go_end0 | refine bP ?_
   exact⟨rfl,Rm,Rn,H8.out,Q8.out⟩
theorem Uu {W:World} {t:Ty.Ty} (h:bu W tb mb wb lo ro t ws tc) (hok:Ty.eH t ws.length) (ht:0<=tc/\tc<=4000000000000000000) (hk:t.st=9):Calls prog 194 #[ptr tb,ptr mb] W (bL W tb mb wb lo ro t ws tc):=by
 unfold bL;have hc:Small t.cf:=⟨hok.c.w,hok.c.s⟩
 obtain⟨f,hl⟩:=hok.has ag ag;obtain⟨f',i',wd',hf',hi',he⟩:=hok.dz hl ws;have hsk:=tZ h hok ht ag ag;rw[Ty.BX hk];generalize t.dz ws=q at *;obtain⟨b1,b2,t',n⟩:=q;dsimp only at he hsk ⊢;subst he;have H:=uH h;clear h hl;cases b1
 focus
  rw[if_neg au];cases b2
 focus
  rw[if_neg au]
 rotate_left
 focus
  rw[if_pos rfl]
 rotate_left
 focus
  rw[if_pos rfl]
 rotate_left
 all_goals
  go_enter func194,ntmps194
  go_wp2_with fail;refine(hsk).mono ?_;rintro e w5 ⟨rfl,jZ,iE,h5,r5⟩;have q5:=((TR.refl (W:=W) (tb:=tb) (mb:=mb) (wb:=wb) (lo:=lo) (ro:=ro))).trans r5
 rotate_left
 focus
  have Ji:=cC t.st (h5.cell 6);have yP:=h5.frozen 6
 rotate_left
 focus
  have Ji:=cC t.st (h5.cell 6);have yP:=h5.frozen 6
 rotate_left
 all_goals
  have H5:=uH (h5);have Q5:=uH (q5);clear h5 q5 r5;clear hsk;go_wp2_with fail
  first | go_end0 | refine bP ?_
 ·exact⟨rfl,jZ,iE,H5.out,Q5.out⟩
 ·have h6:=(H5.out).put 6 (.i 15) {t with look:=some f',i:=i',word:=wd',st:=15} rfl rfl rfl rfl;have q6:=(Q5.out).set 6 (.i 15);exact⟨rfl,jZ,iE,h6,q6⟩
 ·have h6:=(H5.out).put 6 (.i 10) {t with look:=some f',i:=i',word:=wd',st:=10} rfl rfl rfl rfl;have q6:=(Q5.out).set 6 (.i 10);exact⟨rfl,jZ,iE,h6,q6⟩
end Cl
namespace Cl
open Go.RowKit Hp Slot ah ai
variable {W:World} {tb mb wb:Nat} {lo ro:Option Nat} {t:Ty.Ty} {ws:List Int} {tc:Int}
theorem PZ (h:bu W tb mb wb lo ro t ws tc) (hok:Ty.eH t ws.length) (ht:0<=tc/\tc<=4000000000000000000) (hk:t.st=7):Calls prog 192 #[ptr tb,ptr mb] W (bL W tb mb wb lo ro t ws tc):=by
 unfold bL;have hc:Small t.cf:=⟨hok.c.w,hok.c.s⟩
 have hi:=hok.i;have hlen:Tk.sc t.cf t.i < ws.length:=by have:=hok.len;unfold Tk.sc;omega
 have hsl:=fun W=>bg W t.cf t.i hc.w ⟨by have:=hc.s;unfold Tk.ns at hi;omega,hc.s.2⟩
 have hsc:(3+2 * t.cf.workers+(t.i:Int))=((Tk.sc t.cf t.i:Nat):Int):=by have:=hc.w;unfold Tk.sc;omega
 simp only[hsc,aj.Cf.val,aj.Cf.cells]at hsl;clear hsc;obtain⟨f,hf⟩:=hok.has ag ag;have hfo:=hok.look f hf;have hgo:t.go={t with look:=some f.go}:=by unfold Ty.Ty.go Ty.Ty.fd;rw[hf];rfl
 have hag:t.again={t with look:=some f.again}:=by unfold Ty.Ty.again Ty.Ty.fd;rw[hf];rfl
 have hat:f.at'<=1000:=by have:=hfo.2.1;have:=hc.s;unfold Tk.ns at *;omega
 rw[Ty.BU hk];have hsw:=mO h hc ht hok.i hlen 12 (by simp[kK]) t.w;dsimp only;rw[hgo];generalize t.swap 12 t.w ws=q at *;obtain⟨b,aC,n⟩:=q;dsimp only at *;have Xn:=cC t.w (h.cell 5);have H:=uH h;clear h hsl
 go_enter func192,ntmps192
 go_wp2_with fail;refine hsw.mono ?_;rintro e w5 ⟨rfl,jZ,iE,h5,r5⟩;have q5:=((TR.refl (W:=W) (tb:=tb) (mb:=mb) (wb:=wb) (lo:=lo) (ro:=ro))).trans r5;obtain⟨fb5,xh,uS⟩:=h5.look f hf;have Xq:=cP fb5 ((h5.cell 10).trans (by first | (rw[xh];rfl) | (show some (fJ _)=_;rw[xh];rfl)));have Xr:=sI uS hat;clear uS;have H5:=uH (h5);have Q5:=uH (q5);clear h5 q5 r5 hsw;go_wp2_with fail;refine Xr.mono ?_;rintro e w6 ⟨rfl,CJ,fT⟩;have h6:=(H5.out).looked xh fT CJ;have q6:=(Q5.out).looked xh fT;have EZ:=cC t.st (h6.cell 6);have xB:=h6.frozen 6;have H6:=uH (h6);have Q6:=uH (q6);clear h6 q6 CJ fT Xr Xq;go_wp2_with fail
 first | go_end0 | refine bP ?_
 have h7:=(H6.out).put 6 (.i 5) {t with look:=some f.go,st:=5} rfl rfl rfl rfl;have q7:=(Q6.out).set 6 (.i 5);exact⟨rfl,jZ,iE,h7,q7⟩
theorem Uv (h:bu W tb mb wb lo ro t ws tc) (hok:Ty.eH t ws.length) (ht:0<=tc/\tc<=4000000000000000000) (hk:t.st=10):Calls prog 195 #[ptr tb,ptr mb] W (bL W tb mb wb lo ro t ws tc):=by
 unfold bL;have hc:Small t.cf:=⟨hok.c.w,hok.c.s⟩
 have hi:=hok.i;have hlen:Tk.sc t.cf t.i < ws.length:=by have:=hok.len;unfold Tk.sc;omega
 have hsl:=fun W=>bg W t.cf t.i hc.w ⟨by have:=hc.s;unfold Tk.ns at hi;omega,hc.s.2⟩
 have hsc:(3+2 * t.cf.workers+(t.i:Int))=((Tk.sc t.cf t.i:Nat):Int):=by have:=hc.w;unfold Tk.sc;omega
 simp only[hsc,aj.Cf.val,aj.Cf.cells]at hsl;clear hsc;obtain⟨f,hf⟩:=hok.has ag ag;have hfo:=hok.look f hf;have hgo:t.go={t with look:=some f.go}:=by unfold Ty.Ty.go Ty.Ty.fd;rw[hf];rfl
 have hag:t.again={t with look:=some f.again}:=by unfold Ty.Ty.again Ty.Ty.fd;rw[hf];rfl
 have hat:f.at'<=1000:=by have:=hfo.2.1;have:=hc.s;unfold Tk.ns at *;omega
 rw[Ty.uy hk];have his:=vG h;dsimp only
 by_cases e2:t.is=2
 ·rw[if_pos e2];rw[e2]at his;have hsw:=fun w (h:bu w tb mb wb lo ro t ws tc)=>mO h hc ht hok.i hlen 5 (by simp[kK]) t.head
  generalize t.swap 5 t.head ws=q at *;obtain⟨b,aC,n⟩:=q;dsimp only at *;have H:=uH h;clear h hsl;rw[hag];cases b
  focus
   rw[if_neg au]
  rotate_left
  focus
   rw[if_pos rfl]
  rotate_left
  all_goals
   go_enter func195,ntmps195
   go_wp2_with fail;refine his.mono ?_;rintro e w5 ⟨rfl,hb5⟩;have h5:=(H.out).below hb5;have q5:=((TR.refl (W:=W) (tb:=tb) (mb:=mb) (wb:=wb) (lo:=lo) (ro:=ro))).below hb5;have Xt:=cC t.head (h5.cell 14);have hsw:=hsw _ h5;have H5:=uH (h5);have Q5:=uH (q5);clear h5 q5 hb5 his;go_wp2_with fail;refine hsw.mono ?_;rintro e w6 ⟨rfl,nN,nM,h6,r6⟩;have q6:=(Q5.out).trans r6
  ·obtain⟨Pz,zX,CJ⟩:=h6.look f hf;have MK:=cP Pz ((h6.cell 10).trans (by first | (rw[zX];rfl) | (show some (fJ _)=_;rw[zX];rfl)));have ML:=oH CJ;clear CJ;have H6:=uH (h6);have Q6:=uH (q6);clear h6 q6 r6 hsw;go_wp2_with fail;refine ML.mono ?_;rintro e w7 ⟨rfl,um,eY⟩;have h7:=(H6.out).looked zX eY um;have q7:=(Q6.out).looked zX eY;have Jo:=cC t.st (h7.cell 6);have yQ:=h7.frozen 6;have H7:=uH (h7);have Q7:=uH (q7);clear h7 q7 um eY ML MK;go_wp2_with fail
   first | go_end0 | refine bP ?_
   have h8:=(H7.out).put 6 (.i 9) {t with look:=some f.again,st:=9} rfl rfl rfl rfl;have q8:=(Q7.out).set 6 (.i 9);exact⟨rfl,nN,nM,h8,q8⟩
  ·have EZ:=cC t.st (h6.cell 6);have xB:=h6.frozen 6;have H6:=uH (h6);have Q6:=uH (q6);clear h6 q6 r6 hsw;go_wp2_with fail
   first | go_end0 | refine bP ?_
   have h7:=(H6.out).put 6 (.i 11) {t with st:=11} rfl rfl rfl rfl;have q7:=(Q6.out).set 6 (.i 11);exact⟨rfl,nN,nM,h7,q7⟩
 ·rw[if_neg e2];have e3:(t.is == 2)=false:=by simpa using e2
  have hsw:=fun w (h:bu w tb mb wb lo ro t ws tc)=>mO h hc ht hok.i hlen 7 (by simp[kK]) t.head
  generalize t.swap 7 t.head ws=q at *;obtain⟨b,aC,n⟩:=q;dsimp only at *;have H:=uH h;clear h hsl;rw[hag];cases b
  focus
   rw[if_neg au]
  rotate_left
  focus
   rw[if_pos rfl]
  rotate_left
  all_goals
   go_enter func195,ntmps195
   go_wp2_with fail;refine his.mono ?_;rintro e w5 ⟨rfl,hb5⟩;have h5:=(H.out).below hb5;have q5:=((TR.refl (W:=W) (tb:=tb) (mb:=mb) (wb:=wb) (lo:=lo) (ro:=ro))).below hb5;have Xt:=cC t.head (h5.cell 14);have hsw:=hsw _ h5;have H5:=uH (h5);have Q5:=uH (q5);clear h5 q5 hb5 his;go_wp2_with fail;refine hsw.mono ?_;rintro e w6 ⟨rfl,nN,nM,h6,r6⟩;have q6:=(Q5.out).trans r6
  ·obtain⟨Pz,zX,CJ⟩:=h6.look f hf;have MK:=cP Pz ((h6.cell 10).trans (by first | (rw[zX];rfl) | (show some (fJ _)=_;rw[zX];rfl)));have ML:=oH CJ;clear CJ;have H6:=uH (h6);have Q6:=uH (q6);clear h6 q6 r6 hsw;go_wp2_with fail;refine ML.mono ?_;rintro e w7 ⟨rfl,um,eY⟩;have h7:=(H6.out).looked zX eY um;have q7:=(Q6.out).looked zX eY;have Jo:=cC t.st (h7.cell 6);have yQ:=h7.frozen 6;have H7:=uH (h7);have Q7:=uH (q7);clear h7 q7 um eY ML MK;go_wp2_with fail
   first | go_end0 | refine bP ?_
   have h8:=(H7.out).put 6 (.i 9) {t with look:=some f.again,st:=9} rfl rfl rfl rfl;have q8:=(Q7.out).set 6 (.i 9);exact⟨rfl,nN,nM,h8,q8⟩
  ·have EZ:=cC t.st (h6.cell 6);have xB:=h6.frozen 6;have H6:=uH (h6);have Q6:=uH (q6);clear h6 q6 r6 hsw;go_wp2_with fail
   first | go_end0 | refine bP ?_
   have h7:=(H6.out).put 6 (.i 11) {t with st:=11} rfl rfl rfl rfl;have q7:=(Q6.out).set 6 (.i 11);exact⟨rfl,nN,nM,h7,q7⟩
theorem MM (h:bu W tb mb wb lo ro t ws tc) (hok:Ty.eH t ws.length) (ht:0<=tc/\tc<=4000000000000000000) (hk:t.st=14):Calls prog 199 #[ptr tb,ptr mb] W (bL W tb mb wb lo ro t ws tc):=by
 unfold bL;have hc:Small t.cf:=⟨hok.c.w,hok.c.s⟩
 have hi:=hok.i;have hlen:Tk.sc t.cf t.i < ws.length:=by have:=hok.len;unfold Tk.sc;omega
 have hsl:=fun W=>bg W t.cf t.i hc.w ⟨by have:=hc.s;unfold Tk.ns at hi;omega,hc.s.2⟩
 have hsc:(3+2 * t.cf.workers+(t.i:Int))=((Tk.sc t.cf t.i:Nat):Int):=by have:=hc.w;unfold Tk.sc;omega
 simp only[hsc,aj.Cf.val,aj.Cf.cells]at hsl;clear hsc;rw[Ty.uC hk];have his:=vG h;dsimp only
 by_cases e2:t.is=4
 ·rw[if_pos e2];rw[e2]at his;have hsw:=fun w (h:bu w tb mb wb lo ro {t with st:=13} ws tc)=>mO h hc ht hok.i hlen 6 (by simp[kK]) t.w
  have Db:Ty.Ty.swap {t with st:=13} 6 t.w ws=t.swap 6 t.w ws:=rfl;rw[Db]at hsw;clear Db;generalize t.swap 6 t.w ws=q at *;obtain⟨b,aC,n⟩:=q;dsimp only at *;have H:=uH h;clear h hsl;cases b
  focus
   rw[if_neg au]
  rotate_left
  focus
   rw[if_pos rfl]
  rotate_left
  all_goals
   go_enter func199,ntmps199
   go_wp2_with fail;refine his.mono ?_;rintro e w5 ⟨rfl,hb5⟩;have h5:=(H.out).below hb5;have q5:=((TR.refl (W:=W) (tb:=tb) (mb:=mb) (wb:=wb) (lo:=lo) (ro:=ro))).below hb5;have Ji:=cC t.st (h5.cell 6);have yP:=h5.frozen 6;have P5:=h5.put 6 (.i 13) {t with st:=13} rfl rfl rfl rfl;have Xu:=q5.set 6 (.i 13);have s_5:=cC t.w (P5.cell 5);have hsw:=hsw _ P5;have H5:=uH (P5);have Q5:=uH (Xu);clear h5 q5 hb5 his P5 Xu;go_wp2_with fail;refine hsw.mono ?_;rintro e w6 ⟨rfl,nN,nM,h6,r6⟩;have q6:=(Q5.out).trans r6
  ·have H6:=uH (h6);have Q6:=uH (q6);clear h6 q6 r6 hsw;go_wp2_with fail
   first | go_end0 | refine bP ?_
   exact⟨rfl,nN,nM,H6.out,Q6.out⟩
  ·have EZ:=cC 13 (h6.cell 6);have xB:=h6.frozen 6;have H6:=uH (h6);have Q6:=uH (q6);clear h6 q6 r6 hsw;go_wp2_with fail
   first | go_end0 | refine bP ?_
   have h7:=(H6.out).put 6 (.i 2) {t with st:=2} rfl rfl rfl rfl;have q7:=(Q6.out).set 6 (.i 2);exact⟨rfl,nN,nM,h7,q7⟩
 ·rw[if_neg e2];have e3:(t.is == 4)=false:=by simpa using e2
  have hsw:=fun w (h:bu w tb mb wb lo ro {t with st:=13} ws tc)=>mO h hc ht hok.i hlen 8 (by simp[kK]) t.w
  have Db:Ty.Ty.swap {t with st:=13} 8 t.w ws=t.swap 8 t.w ws:=rfl;rw[Db]at hsw;clear Db;generalize t.swap 8 t.w ws=q at *;obtain⟨b,aC,n⟩:=q;dsimp only at *;have H:=uH h;clear h hsl;cases b
  focus
   rw[if_neg au]
  rotate_left
  focus
   rw[if_pos rfl]
  rotate_left
  all_goals
   go_enter func199,ntmps199
   go_wp2_with fail;refine his.mono ?_;rintro e w5 ⟨rfl,hb5⟩;have h5:=(H.out).below hb5;have q5:=((TR.refl (W:=W) (tb:=tb) (mb:=mb) (wb:=wb) (lo:=lo) (ro:=ro))).below hb5;have Ji:=cC t.st (h5.cell 6);have yP:=h5.frozen 6;have P5:=h5.put 6 (.i 13) {t with st:=13} rfl rfl rfl rfl;have Xu:=q5.set 6 (.i 13);have s_5:=cC t.w (P5.cell 5);have hsw:=hsw _ P5;have H5:=uH (P5);have Q5:=uH (Xu);clear h5 q5 hb5 his P5 Xu;go_wp2_with fail;refine hsw.mono ?_;rintro e w6 ⟨rfl,nN,nM,h6,r6⟩;have q6:=(Q5.out).trans r6
  ·have H6:=uH (h6);have Q6:=uH (q6);clear h6 q6 r6 hsw;go_wp2_with fail
   first | go_end0 | refine bP ?_
   exact⟨rfl,nN,nM,H6.out,Q6.out⟩
  ·have EZ:=cC 13 (h6.cell 6);have xB:=h6.frozen 6;have H6:=uH (h6);have Q6:=uH (q6);clear h6 q6 r6 hsw;go_wp2_with fail
   first | go_end0 | refine bP ?_
   have h7:=(H6.out).put 6 (.i 2) {t with st:=2} rfl rfl rfl rfl;have q7:=(Q6.out).set 6 (.i 2);exact⟨rfl,nN,nM,h7,q7⟩
theorem Xv (h:bu W tb mb wb lo ro t ws tc) (hok:Ty.eH t ws.length) (ht:0<=tc/\tc<=4000000000000000000) (hk:t.st=11):Calls prog 196 #[ptr tb,ptr mb] W (bL W tb mb wb lo ro t ws tc):=by
 unfold bL;have hc:Small t.cf:=⟨hok.c.w,hok.c.s⟩
 have hpo:=fun W=>Line.Fu W t.queue
 have hx:=rd_some (ws:=ws) (i:=1) (by have:=hok.len;omega);rw[Ty.uz hk];unfold Tk.dF
 by_cases e1:Tk.rd ws 1=t.queue
 focus
  rw[if_pos e1];dsimp only;rw[if_pos rfl];rw[e1]at hx;have hcs:∀ W,bB W mb wb ws tc->Calls prog 166 #[ptr mb,.i 1,.i t.queue,.i (t.queue / 16)] W _:=fun W h=>jv h ht 1 t.queue hx (t.queue / 16)
 rotate_left
 focus
  rw[if_neg e1];dsimp only;rw[if_neg au];have hcs:∀ W,bB W mb wb ws tc->Calls prog 166 #[ptr mb,.i 1,.i t.queue,.i (t.queue / 16)] W _:=fun W h=>jw h ht 1 _ hx t.queue (t.queue / 16) e1
 rotate_left
 all_goals
  have Z0:=cC t.st (h.cell 6);have Xo:=h.frozen 6;have h5:=(h).put 6 (.i 13) {t with st:=13} rfl rfl rfl rfl;have q5:=((TR.refl (W:=W) (tb:=tb) (mb:=mb) (wb:=wb) (lo:=lo) (ro:=ro))).set 6 (.i 13);have s_9:=cC t.queue (h5.cell 9);have H5:=uH (h5);have Q5:=uH (q5);clear h h5 q5 hx
  go_enter func196,ntmps196
  go_wp2_with fail
  go_region_held3 (fun w'=>w'.cell? ⟨tb,9,none⟩=some (.i t.queue)) (first | go_keep | assumption | (rw[World.cell?_setCell_other _ _ _ _ au];assumption))
   ((first
   | (go_at_call 250;refine(hpo _).mono ?_;rintro e w6 ⟨rfl,rfl⟩;have h6:=((H5.out).below bY);have abq:=cC t.queue (h6.cell 9))
   | (go_at_call 166;refine(hcs _ h6.mem).mono ?_;rintro e w7 ⟨rfl,qQ,eY⟩;have h7:=h6.bU eY qQ;have abr:=cC t.queue (h7.cell 9))))
  have q7:=(((Q5.out).below bY).mem eY)
  have H7:=uH (h7);have Q7:=uH (q7);clear h7 q7 eY qQ h6;have Jo:=cC 13 (H7.out.cell 6);have yQ:=H7.out.frozen 6;go_wp2_with fail
  first | go_end0 | refine bP ?_
 ·have h8:=(H7.out).put 6 (.i 12) {t with st:=12} rfl rfl rfl rfl;have q8:=(Q7.out).set 6 (.i 12);exact⟨rfl,lo,ro,h8,q8⟩
 ·exact⟨rfl,lo,ro,H7.out,Q7.out⟩
theorem P6 (h:bu W tb mb wb lo ro t ws tc) (hok:Ty.eH t ws.length) (ht:0<=tc/\tc<=4000000000000000000) (hk:t.st=12):Calls prog 197 #[ptr tb,ptr mb] W (bL W tb mb wb lo ro t ws tc):=by
 unfold bL;have hc:Small t.cf:=⟨hok.c.w,hok.c.s⟩
 have hh:=hok.head ag ag;obtain⟨hn,hhn⟩:∃ hn:Nat,t.head=hn:=⟨t.head.toNat,ag⟩
 have htn:t.head.toNat=hn:=ag
 have hgl:Ty.gc t.cf hn < ws.length:=by have:=hok.len;unfold Ty.gc;omega
 have hgr:=fun W=>oC W t.cf hn hc.w ag
 have hgc:(3+t.cf.workers+(hn:Int))=((Ty.gc t.cf hn:Nat):Int):=by have:=hc.w;unfold Ty.gc;omega
 simp only[hgc,aj.Cf.val,aj.Cf.cells]at hgr;have hi1:wrap64 ((t.i:Int)+1)=(t.i:Int)+1:=by have:=hok.i;have:=hc.s;unfold Tk.ns at *;unfold wrap64;omega
 clear hgc;rw[Ty.uA hk];rw[htn];have hxp:=rd_some hgl;have hst:=fun W (h:bB W mb wb ws tc)=>gu h ht (Ty.gc t.cf hn) _ hxp ((t.i:Int)+1)
 have hi2:IntKind.i64.wrap ((t.i:Int)+1)=(t.i:Int)+1:=by have:=hok.i;have:=hc.s;rw[IntKind.wrap_i64];unfold Tk.ns at *;omega
 have Gc:∀ {w:World},bu w tb mb wb lo ro t ws tc->w.cell? ⟨tb,14,none⟩=some (.i hn):=fun h=>(h.cell 14).trans (by show some (Value.int .i64 t.head)=_;rw[hhn])
 have CP:∀ {w:World} {aC:List Int} {eX:Int},bu w tb mb wb lo ro t aC eX->w.cell? ⟨tb,14,none⟩=some (.i hn):=fun h=>(h.cell 14).trans (by show some (Value.int .i64 t.head)=_;rw[hhn])
 obtain⟨PR,PS,PT,PU,PV⟩:=cQ t.cf h.cell;have Xw:=cC t.i (h.cell 11);have aav:=Gc h;have H:=uH h;clear h hxp hgl Gc
 go_enter func197,ntmps197
 go_wp2_with fail
 go_region_held3 (fun w'=>w'.cell? ⟨tb,0,none⟩=some (.i t.cf.workers)/\w'.cell? ⟨tb,1,none⟩=some (.i t.cf.slots)/\w'.cell? ⟨tb,2,none⟩=some (.i t.cf.streams)/\w'.cell? ⟨tb,3,none⟩=some (.i t.cf.waiters)/\w'.cell? ⟨tb,4,none⟩=some (.i t.cf.uses)/\w'.cell? ⟨tb,11,none⟩=some (.i t.i)/\w'.cell? ⟨tb,14,none⟩=some (.i hn)) (first | go_keep | (refine⟨?_,?_,?_,?_,?_,?_,?_⟩<;>first | assumption | (rw[World.cell?_setCell_other _ _ _ _ au];assumption)))
  ((first
  | (go_at_call 78;refine(hgr _).mono ?_;rintro e w5 ⟨rfl,hb5⟩;have h5:=((H.out).below bY).below hb5;obtain⟨ME,MF,MG,MH,MI⟩:=cQ t.cf h5.cell;have Ru:=cC t.i (h5.cell 11);have aaw:=cC hn (CP h5))
  | (go_at_call 57;refine(hst _ h5.mem).mono ?_;rintro e w6 ⟨rfl,jH,fT⟩;have h6:=h5.bU fT jH;obtain⟨Jj,Jk,Jl,Jm,Jn⟩:=cQ t.cf h6.cell;have MJ:=cC t.i (h6.cell 11);have aax:=cC hn (CP h6))))
 have q6:=(((((TR.refl (W:=W) (tb:=tb) (mb:=mb) (wb:=wb) (lo:=lo) (ro:=ro))).below bY).below hb5).mem fT)
 have H6:=uH (h6);have Q6:=uH (q6);clear h6 q6 fT jH h5 hb5;have EZ:=cC t.st (H6.out.cell 6);have xB:=H6.out.frozen 6;go_wp2_with fail
 first | go_end0 | refine bP ?_
 have h7:=(H6.out).put 6 (.i 8) {t with st:=8} rfl rfl rfl rfl;have q7:=(Q6.out).set 6 (.i 8);exact⟨rfl,lo,ro,h7,q7⟩
theorem Uw (h:bu W tb mb wb lo ro t ws tc) (hok:Ty.eH t ws.length) (ht:0<=tc/\tc<=4000000000000000000) (hk:t.st=13):Calls prog 198 #[ptr tb,ptr mb] W (bL W tb mb wb lo ro t ws tc):=by
 unfold bL;have hc:Small t.cf:=⟨hok.c.w,hok.c.s⟩
 have hi:=hok.i;have hlen:Tk.sc t.cf t.i < ws.length:=by have:=hok.len;unfold Tk.sc;omega
 have hsl:=fun W=>bg W t.cf t.i hc.w ⟨by have:=hc.s;unfold Tk.ns at hi;omega,hc.s.2⟩
 have hsc:(3+2 * t.cf.workers+(t.i:Int))=((Tk.sc t.cf t.i:Nat):Int):=by have:=hc.w;unfold Tk.sc;omega
 simp only[hsc,aj.Cf.val,aj.Cf.cells]at hsl;clear hsc;have hx:=rd_some hlen;have hld:=fun W (h:bB W mb wb ws tc)=>aU h ht (Tk.sc t.cf t.i) _ hx
 rw[Ty.uB hk];dsimp only;generalize Tk.rd ws (Tk.sc t.cf t.i)=x at *;obtain⟨PR,PS,PT,PU,PV⟩:=cQ t.cf h.cell;have Xw:=cC t.i (h.cell 11);have H:=uH h;clear h hx hi hlen
 by_cases hq:Ty.Ty.is {t with word:=x}=4\/Ty.Ty.is {t with word:=x}=5
 ·rw[if_pos hq]
  go_enter func198,ntmps198
  go_wp2_with fail
  go_region_held3 (fun w'=>w'.cell? ⟨tb,0,none⟩=some (.i t.cf.workers)/\w'.cell? ⟨tb,1,none⟩=some (.i t.cf.slots)/\w'.cell? ⟨tb,2,none⟩=some (.i t.cf.streams)/\w'.cell? ⟨tb,3,none⟩=some (.i t.cf.waiters)/\w'.cell? ⟨tb,4,none⟩=some (.i t.cf.uses)/\w'.cell? ⟨tb,11,none⟩=some (.i t.i)) (first | go_keep | (refine⟨?_,?_,?_,?_,?_,?_⟩<;>first | assumption | (rw[World.cell?_setCell_other _ _ _ _ au];assumption)))
   ((first
   | (go_at_call 54;refine(hsl _).mono ?_;rintro e w5 ⟨rfl,hb5⟩;have h5:=((H.out).below bY).below hb5;obtain⟨ME,MF,MG,MH,MI⟩:=cQ t.cf h5.cell;have Ru:=cC t.i (h5.cell 11))
   | (go_at_call 56;refine(hld _ h5.mem).mono ?_;rintro e w6 ⟨rfl,jH,fT⟩;have h6:=h5.bU fT jH;obtain⟨Jj,Jk,Jl,Jm,Jn⟩:=cQ t.cf h6.cell;have MJ:=cC t.i (h6.cell 11);have Rs:=cC t.word (h6.cell 12);have Ux:=h6.frozen 12)))
  have q6:=(((((TR.refl (W:=W) (tb:=tb) (mb:=mb) (wb:=wb) (lo:=lo) (ro:=ro))).below bY).below hb5).mem fT)
  have H6:=uH (h6);have Q6:=uH (q6);clear h6 q6 fT jH h5 hb5;have h7:=(H6.out).put 12 (.i x) {t with word:=x} rfl rfl rfl rfl;have q7:=(Q6.out).set 12 (.i x);have Jo:=cC t.st (h7.cell 6);have yQ:=h7.frozen 6;have h8:=(h7).put 6 (.i 8) {t with word:=x,st:=8} rfl rfl rfl rfl;have q8:=(q7).set 6 (.i 8);have his:=vG h8;have MN:Ty.Ty.is {t with word:=x,st:=8}=Ty.Ty.is {t with word:=x}:=rfl;rw[MN]at his;clear MN;have H8:=uH (h8);have Q8:=uH (q8);clear h8 q8 h7 q7;generalize Ty.Ty.is {t with word:=x}=v at *
  rcases hq with rfl | rfl
  all_goals
   go_wp2_with fail;refine(his).mono ?_;rintro e w9 ⟨rfl,dm⟩;have h9:=(H8.out).below dm;have q9:=(Q8.out).below dm;have abt:=cC 8 (h9.cell 6);have aay:=h9.frozen 6;have H9:=uH (h9);have Q9:=uH (q9);clear h9 q9 dm;clear his;go_wp2_with fail
   first | go_end0 | refine bP ?_
   have h10:=(H9.out).put 6 (.i 14) {t with word:=x,st:=14} rfl rfl rfl rfl;have qV:=(Q9.out).set 6 (.i 14);exact⟨rfl,lo,ro,h10,qV⟩
 ·rw[if_neg hq]
  go_enter func198,ntmps198
  go_wp2_with fail
  go_region_held3 (fun w'=>w'.cell? ⟨tb,0,none⟩=some (.i t.cf.workers)/\w'.cell? ⟨tb,1,none⟩=some (.i t.cf.slots)/\w'.cell? ⟨tb,2,none⟩=some (.i t.cf.streams)/\w'.cell? ⟨tb,3,none⟩=some (.i t.cf.waiters)/\w'.cell? ⟨tb,4,none⟩=some (.i t.cf.uses)/\w'.cell? ⟨tb,11,none⟩=some (.i t.i)) (first | go_keep | (refine⟨?_,?_,?_,?_,?_,?_⟩<;>first | assumption | (rw[World.cell?_setCell_other _ _ _ _ au];assumption)))
   ((first
   | (go_at_call 54;refine(hsl _).mono ?_;rintro e w5 ⟨rfl,hb5⟩;have h5:=((H.out).below bY).below hb5;obtain⟨ME,MF,MG,MH,MI⟩:=cQ t.cf h5.cell;have Ru:=cC t.i (h5.cell 11))
   | (go_at_call 56;refine(hld _ h5.mem).mono ?_;rintro e w6 ⟨rfl,jH,fT⟩;have h6:=h5.bU fT jH;obtain⟨Jj,Jk,Jl,Jm,Jn⟩:=cQ t.cf h6.cell;have MJ:=cC t.i (h6.cell 11);have Rs:=cC t.word (h6.cell 12);have Ux:=h6.frozen 12)))
  have q6:=(((((TR.refl (W:=W) (tb:=tb) (mb:=mb) (wb:=wb) (lo:=lo) (ro:=ro))).below bY).below hb5).mem fT)
  have H6:=uH (h6);have Q6:=uH (q6);clear h6 q6 fT jH h5 hb5;have h7:=(H6.out).put 12 (.i x) {t with word:=x} rfl rfl rfl rfl;have q7:=(Q6.out).set 12 (.i x);have Jo:=cC t.st (h7.cell 6);have yQ:=h7.frozen 6;have h8:=(h7).put 6 (.i 8) {t with word:=x,st:=8} rfl rfl rfl rfl;have q8:=(q7).set 6 (.i 8);have his:=vG h8;have MN:Ty.Ty.is {t with word:=x,st:=8}=Ty.Ty.is {t with word:=x}:=rfl;rw[MN]at his;clear MN;have H8:=uH (h8);have Q8:=uH (q8);clear h8 q8 h7 q7;generalize Ty.Ty.is {t with word:=x}=v at *;have v4:¬ v=4:=fun e=>hq (.inl e)
  have v5:¬ v=5:=fun e=>hq (.inr e)
  have v4b:(v == 4)=false:=by simpa using v4
  have v5b:(v == 5)=false:=by simpa using v5
  go_wp2_with fail;refine(his).mono ?_;rintro e w9 ⟨rfl,dm⟩;have h9:=(H8.out).below dm;have q9:=(Q8.out).below dm;have H9:=uH (h9);have Q9:=uH (q9);clear h9 q9 dm;clear his;go_wp2_with fail
  first | go_end0 | refine bP ?_
  exact⟨rfl,lo,ro,H9.out,Q9.out⟩
theorem Uy (h:bu W tb mb wb lo ro t ws tc) (hok:Ty.eH t ws.length) (ht:0<=tc/\tc<=4000000000000000000) (hk:t.st=6) (hp:∀ o:Nat,o < t.cf.workers.toNat->Tk.rd ws (Ty.pc o)<=9223372036854775807):Calls prog 191 #[ptr tb,ptr mb] W (bL W tb mb wb lo ro t ws tc):=by
 unfold bL;have hc:Small t.cf:=⟨hok.c.w,hok.c.s⟩
 have ho:=hok.other hk;obtain⟨on,hon⟩:∃ on:Nat,t.other=on:=⟨t.other.toNat,ag⟩
 have Z8:t.other.toNat=on:=ag
 have hpl:Ty.pc on < ws.length:=by have:=hok.len;unfold Ty.pc;omega
 have hpn:=fun W=>vw W t.cf on hc.w ag
 have hpc:(3+(on:Int))=((Ty.pc on:Nat):Int):=by unfold Ty.pc;omega
 simp only[hpc,aj.Cf.val,aj.Cf.cells]at hpn;clear hpc;obtain⟨f,hf⟩:=hok.has ag ag;have hfo:=hok.look f hf;have hgo:t.go={t with look:=some f.go}:=by unfold Ty.Ty.go Ty.Ty.fd;rw[hf];rfl
 have hag:t.again={t with look:=some f.again}:=by unfold Ty.Ty.again Ty.Ty.fd;rw[hf];rfl
 have hat:f.at'<=1000:=by have:=hfo.2.1;have:=hc.s;unfold Tk.ns at *;omega
 have hx:=rd_some hpl;have hld:=fun W (h:bB W mb wb ws tc)=>aU h ht (Ty.pc on) _ hx
 rw[Ty.BS hk];dsimp only;rw[Z8];have hxp:=hp on ag;generalize Tk.rd ws (Ty.pc on)=x at *;rw[hgo];have hdc:=fun W hL=>aS W t.word hL
 have Xx:t.ep=((dec t.word).getD S.zero).aJ:=by unfold Ty.Ty.ep;cases dec t.word<;>rfl
 rw[Xx];generalize (dec t.word).isSome=sb1 at *;generalize (dec t.word).getD S.zero=s at *;have hbl:=fun W=>AQ W x s.aJ hxp
 generalize Ty.blocks x s.aJ=bl at *;have hw:=hok.w;have zY:∀ {w:World} {aC:List Int} {eX:Int},bu w tb mb wb lo ro t aC eX->w.cell? ⟨tb,13,none⟩=some (.i on):=fun h=>(h.cell 13).trans (by show some (Value.int .i64 t.other)=_;rw[hon])
 obtain⟨PR,PS,PT,PU,PV⟩:=cQ t.cf h.cell;have aaz:=cC on (zY h);have H:=uH h;clear h hx hpl Xx;cases bl
 focus
  rw[if_neg au];have hcl:=fun w (h:bu w tb mb wb lo ro t ws (tc+1))=>rY h ⟨hw,hc.w.2⟩ ag
  generalize t.another=a at *;obtain⟨a1,a2⟩:=a;dsimp only at *;cases a1
 focus
  rw[if_neg au]
 rotate_left
 focus
  rw[if_pos rfl]
 rotate_left
 focus
  rw[if_pos rfl]
 rotate_left
 all_goals
  go_enter func191,ntmps191
  go_wp2_with fail
  go_region_held3 (fun w'=>w'.cell? ⟨tb,0,none⟩=some (.i t.cf.workers)/\w'.cell? ⟨tb,1,none⟩=some (.i t.cf.slots)/\w'.cell? ⟨tb,2,none⟩=some (.i t.cf.streams)/\w'.cell? ⟨tb,3,none⟩=some (.i t.cf.waiters)/\w'.cell? ⟨tb,4,none⟩=some (.i t.cf.uses)/\w'.cell? ⟨tb,13,none⟩=some (.i on)) (first | go_keep | (refine⟨?_,?_,?_,?_,?_,?_⟩<;>first | assumption | (rw[World.cell?_setCell_other _ _ _ _ au];assumption)))
   ((first
   | (go_at_call 80;refine(hpn _).mono ?_;rintro e w5 ⟨rfl,hb5⟩;have h5:=((H.out).below bY).below hb5;obtain⟨ME,MF,MG,MH,MI⟩:=cQ t.cf h5.cell;have aaA:=cC on (zY h5))
   | (go_at_call 56;refine(hld _ h5.mem).mono ?_;rintro e w6 ⟨rfl,jH,fT⟩;have h6:=h5.bU fT jH;obtain⟨Jj,Jk,Jl,Jm,Jn⟩:=cQ t.cf h6.cell;have aaB:=cC on (zY h6))))
  have q6:=(((((TR.refl (W:=W) (tb:=tb) (mb:=mb) (wb:=wb) (lo:=lo) (ro:=ro))).below bY).below hb5).mem fT)
  have H6:=uH (h6);have Q6:=uH (q6);clear h6 q6 fT jH h5 hb5;have aaC:=cC t.word (H6.out.cell 12);have hD:=hdc _ (H6.out).laid;go_wp2_with fail;refine(hD).mono ?_;rintro e w7 ⟨rfl,cB⟩;have h7:=(H6.out).below cB;have q7:=(Q6.out).below cB;have H7:=uH (h7);have Q7:=uH (q7);clear h7 q7 cB;dsimp only;go_step;refine gl (.tuple #[s.val,.bool sb1]) ?_;refine gl s.val ?_;refine gl (.bool sb1) ?_;refine dU (ob:=.cells av 57) (Z:=av) (cs:=s.cells) (t:=57) 57 (.tmp 5) (.tmp 24) rfl ?_;refine gl (.bool sb1) (ay ?_)
  rw[aG];have dm:Below w7.heap.size w7 (w7.alloc (.cells s.cells 57)):=bZ.alloc aQ _;have fe:af (w7.alloc (.cells s.cells 57)) w7.heap.size s.cells 57:=heap_alloc_new w7 _;have h9:=(H7.out).below dm;have q9:=(Q7.out).below dm;generalize (w7.alloc (.cells s.cells 57))=w9 at *;generalize w7.heap.size=sb at *;have s7:=cC s.aJ (af.cell fe 7);have H9:=uH h9;have Q9:=uH q9;clear h9 q9 dm fe hdc hD;go_wp2_with fail;refine(hbl _).mono ?_;rintro e dH ⟨rfl,rfl⟩
 ·have hcl:=hcl _ H9.out;go_wp2_with fail;refine hcl.mono ?_;rintro e w8 ⟨rfl,Rm,Rn,h8,r8⟩;have q8:=(Q9.out).trans r8;have g6:=cC a2.st (h8.cell 6);have Yl:=h8.frozen 6;have H8:=uH (h8);have Q8:=uH (q8);clear h8 q8 r8 hcl;go_wp2_with fail
  first | go_end0 | refine bP ?_
  have h9:=(H8.out).put 6 (.i 7) {a2 with st:=7} rfl rfl rfl rfl;have q9:=(Q8.out).set 6 (.i 7);exact⟨rfl,Rm,Rn,h9,q9⟩
 ·have hcl:=hcl _ H9.out;go_wp2_with fail;refine hcl.mono ?_;rintro e w8 ⟨rfl,Rm,Rn,h8,r8⟩;have q8:=(Q9.out).trans r8;have H8:=uH (h8);have Q8:=uH (q8);clear h8 q8 r8 hcl;go_wp2_with fail
  first | go_end0 | refine bP ?_
  exact⟨rfl,Rm,Rn,H8.out,Q8.out⟩
 ·obtain⟨fb7,xU,um⟩:=H9.out.look f hf;have Xy:=cP fb7 ((H9.out.cell 10).trans (by first | (rw[xU];rfl) | (show some (fJ _)=_;rw[xU];rfl)));have Xz:=sI um hat;clear um;go_wp2_with fail;refine Xz.mono ?_;rintro e w8 ⟨rfl,hF8,vB⟩;have h8:=(H9.out).looked xU vB hF8;have q8:=(Q9.out).looked xU vB;have abu:=cC t.st (h8.cell 6);have aaD:=h8.frozen 6;have H8:=uH (h8);have Q8:=uH (q8);clear h8 q8 hF8 vB Xz Xy;go_wp2_with fail
  first | go_end0 | refine bP ?_
  have h9:=(H8.out).put 6 (.i 5) {t with look:=some f.go,st:=5} rfl rfl rfl rfl;have q9:=(Q8.out).set 6 (.i 5);exact⟨rfl,lo,ro,h9,q9⟩
theorem Uz (h:bu W tb mb wb lo ro t ws tc) (hok:Ty.eH t ws.length) (ht:0<=tc/\tc<=4000000000000000000) (hk:t.st=8) (hq:Tk.rd ws 1<=9223372036854775807):Calls prog 193 #[ptr tb,ptr mb] W (bL W tb mb wb lo ro t ws tc):=by
 unfold bL;have hc:Small t.cf:=⟨hok.c.w,hok.c.s⟩
 have hx:=rd_some (ws:=ws) (i:=1) (by have:=hok.len;omega);have hld:∀ W,bB W mb wb ws tc->Calls prog 56 #[ptr mb,.i 1] W _:=fun W h=>aU h ht 1 _ hx
 rw[Ty.BV hk];have hxq:=hq;generalize Tk.rd ws 1=x at *;have hhd:=fun W=>Line.Bp W x hxq
 have H:=uH h;have hld:=hld W h.mem;clear h hx
 by_cases e0:0 < x
 focus
  rw[if_pos e0];dsimp only;simp only[if_pos e0]at hhd
 rotate_left
 focus
  rw[if_neg e0];dsimp only;simp only[if_neg e0]at hhd
 rotate_left
 all_goals
  go_enter func193,ntmps193
  go_wp2_with fail;refine(hld).mono ?_;rintro e w5 ⟨rfl,gq,dS⟩;have h5:=(H.out).bU dS gq;have q5:=((TR.refl (W:=W) (tb:=tb) (mb:=mb) (wb:=wb) (lo:=lo) (ro:=ro))).mem dS;have abv:=cC t.queue (h5.cell 9);have aaE:=h5.frozen 9;have H5:=uH (h5);have Q5:=uH (q5);clear h5 q5 gq dS;have h6:=(H5.out).put 9 (.i x) {t with queue:=x} rfl rfl rfl rfl;have q6:=(Q5.out).set 9 (.i x);have s_9:=cC x (h6.cell 9);have H6:=uH (h6);have Q6:=uH (q6);clear h6 q6 hld;go_wp2_with fail;refine(hhd _).mono ?_;rintro e w7 ⟨rfl,cB⟩;have h7:=(H6.out).below cB;have q7:=(Q6.out).below cB
 ·have aaF:=cC t.head (h7.cell 14);have Z9:=h7.frozen 14;have H7:=uH (h7);have Q7:=uH (q7);clear h7 q7 cB;clear hhd;have h8:=(H7.out).put 14 (.i (x % 16 - 1)) {t with queue:=x,head:=x % 16 - 1} rfl rfl rfl rfl;have q8:=(Q7.out).set 14 (.i (x % 16 - 1));have abw:=cC t.w (h8.cell 5);have hcl:=oo h8 9 3 t.w;have H8:=uH (h8);have Q8:=uH (q8);clear h8 q8;go_wp2_with fail;refine(hcl).mono ?_;rintro e w9 ⟨rfl,lo9,GA,h9,r9⟩;have q9:=(Q8.out).trans r9;have H9:=uH (h9);have Q9:=uH (q9);clear h9 q9 r9;go_wp2_with fail
  first | go_end0 | refine bP ?_
  exact⟨rfl,lo9,GA,H9.out,Q9.out⟩
 ·have Jo:=cC t.st (h7.cell 6);have yQ:=h7.frozen 6;have H7:=uH (h7);have Q7:=uH (q7);clear h7 q7 cB;clear hhd;go_wp2_with fail
  first | go_end0 | refine bP ?_
  have h8:=(H7.out).put 6 (.i 15) {t with queue:=x,st:=15} rfl rfl rfl rfl;have q8:=(Q7.out).set 6 (.i 15);exact⟨rfl,lo,ro,h8,q8⟩
end Cl
namespace Mc
open Go.RowKit Hp ah aj Slot ai Tk Cl
def yZ (g:Gi) (ro:Option Nat):Array Value:=#[.i g.cf.workers,.i g.cf.slots,.i g.cf.streams,.i g.cf.waiters,.i g.cf.uses,.i g.w,.i g.i,.i g.gen,.bool g.discard,.i g.st,.i g.closed,.i g.word,fJ ro,.i g.e]
def RS (W:World) (gb:Nat) (g:Gi) (ro:Option Nat):Prop:=af W gb (yZ g ro) 187
structure iU (W:World) (gb mb wb:Nat) (ro:Option Nat) (g:Gi) (ws:List Int) (tc:Int):Prop where
 row:RS W gb g ro
 ret:∀ r,g.rt=some r->∃ rb,ro=some rb/\cK W rb r
 ra:∀ b,ro=some b->Apart b mb wb/\b≠gb/\b < W.heap.size
 mem:bB W mb wb ws tc
 ap:Apart gb mb wb
 laid:Slot.Laid W
def iq (W:World) (gb mb wb:Nat) (ro:Option Nat) (v:Value) (g:Gi) (ws:List Int) (tc:Int) (e:Ending) (W':World):Prop:=
 e=.returned v/\∃ ro',iU W' gb mb wb ro' g ws tc/\TR W gb mb wb none ro W' none ro'
section
variable {W W':World} {gb mb wb:Nat} {ro:Option Nat} {g:Gi} {ws:List Int} {tc:Int}
theorem iU.lt (h:iU W gb mb wb ro g ws tc):gb < W.heap.size:=af.lt h.row
theorem iU.cell (h:iU W gb mb wb ro g ws tc) (i:Nat):W.cell? ⟨gb,i,none⟩=(yZ g ro)[i]?:=af.cell h.row i
theorem iU.frozen (h:iU W gb mb wb ro g ws tc) (i:Nat):W.frozen? ⟨gb,i,none⟩=false:=af.frozen h.row i
theorem iU.aK {F:Nat->Prop} (h:iU W gb mb wb ro g ws tc) (hc:aD F W W') (h0:¬ F 0) (hF:∀ k,jo gb none ro k->¬ F k) {aC:List Int} {eX:Int} (hm:bB W' mb wb aC eX):iU W' gb mb wb ro g aC eX:=by
 have hs:=hc.size;refine⟨(hc.block _ h.lt (hF _ (.inl rfl))).trans h.row,?_,?_,hm,h.ap,h.laid.stable (hc.block 0 (h.laid.lt aT) h0)⟩
 ·intro r hr;obtain⟨rb,h1,h2⟩:=h.ret r hr;exact⟨rb,h1,h2.aK hc (hF _ (.inr (.inr h1)))⟩
 ·intro b hb;obtain⟨h1,h2,h3⟩:=h.ra b hb;exact⟨h1,h2,ag⟩
theorem iU.below (h:iU W gb mb wb ro g ws tc) (hb:Below W.heap.size W W'):iU W' gb mb wb ro g ws tc:=by
 have hc:aD (fun _=>False) W W':=aD.aF hb;exact h.aK hc (fun e=>e) (fun _ _ e=>e) (h.mem.below hb)
theorem iU.bU (h:iU W gb mb wb ro g ws tc) (hc:aD (dJ mb wb) W W') {aC:List Int} {eX:Int} (hm:bB W' mb wb aC eX):iU W' gb mb wb ro g aC eX:=by
 refine h.aK hc (fun e=>e.elim h.ap.m0 h.ap.w0) (fun k hk e=>?_) hm
 rcases hk with rfl | hk | hk
 ·exact e.elim h.ap.m h.ap.w
 ·cases hk
 ·exact e.elim (h.ra k hk).1.m (h.ra k hk).1.w
theorem iU.put (h:iU W gb mb wb ro g ws tc) (i:Nat) (v:Value) (g':Gi) (hrow:(yZ g ro).setIfInBounds i v=yZ g' ro) (hr:g'.rt=g.rt):iU (W.setCell ⟨gb,i,none⟩ v) gb mb wb ro g' ws tc:=by
 have hc:aD (fun k=>k=gb) W (W.setCell ⟨gb,i,none⟩ v):=(aD.refl _ _).setCell _ _ (fun _=>rfl);have hs:=hc.size;refine⟨?_,?_,?_,h.mem.far gb i v (fun e=>h.ap.m e.symm) (fun e=>h.ap.w e.symm),h.ap,h.laid.stable (hc.block 0 (h.laid.lt aT) h.ap.f0)⟩
 ·have:=af.aB h.row i v;rw[hrow]at this;exact this
 ·intro r hq;rw[hr]at hq;obtain⟨rb,h1,h2⟩:=h.ret r hq;exact⟨rb,h1,h2.aK hc (h.ra rb h1).2.1⟩
 ·intro b hb;obtain⟨h1,h2,h3⟩:=h.ra b hb;exact⟨h1,h2,ag⟩
theorem iU.mW (h:iU W gb mb wb ro g ws tc) {rb:Nat} {r:Rt} (hf:cK W rb r) (ha:Apart rb mb wb) (hne:rb≠gb):iU (W.setCell ⟨gb,12,none⟩ (ptr rb)) gb mb wb (some rb) {g with rt:=some r} ws tc:=by
 have hc:aD (fun k=>k=gb) W (W.setCell ⟨gb,12,none⟩ (ptr rb)):=(aD.refl _ _).setCell _ _ (fun _=>rfl);have hs:=hc.size;refine⟨af.aB h.row 12 _,?_,?_,h.mem.far gb 12 _ (fun e=>h.ap.m e.symm) (fun e=>h.ap.w e.symm),h.ap,h.laid.stable (hc.block 0 (h.laid.lt aT) h.ap.f0)⟩
 ·intro f' hf';cases hf';exact⟨rb,rfl,hf.aK hc hne⟩
 ·intro b hb;cases hb;have:=hf.lt;exact⟨ha,hne,ag⟩
theorem iU.lK (h:iU W gb mb wb ro g ws tc) {rb:Nat} (hl:ro=some rb) (hc:aD (fun k=>k=rb\/dJ mb wb k) W W') {r:Rt} (hf:cK W' rb r) {aC:List Int} {eX:Int} (hm:bB W' mb wb aC eX):iU W' gb mb wb ro {g with rt:=some r} aC eX:=by
 have hs:=hc.size;have hA:=(h.ra rb hl)
 refine⟨(hc.block _ h.lt (fun e=>e.elim (fun e=>hA.2.1 e.symm) fun e=>e.elim h.ap.m h.ap.w)).trans h.row,?_,?_,hm,h.ap,h.laid.stable (hc.block 0 (h.laid.lt aT) (fun e=>e.elim hA.1.f0 fun e=>e.elim h.ap.m0 h.ap.w0))⟩
 ·intro f' hf';cases hf';exact⟨rb,hl,hf⟩
 ·intro b hb;obtain⟨h1,h2,h3⟩:=h.ra b hb;exact⟨h1,h2,ag⟩
end
variable {gb mb wb:Nat} {ro:Option Nat} {ws:List Int} {tc:Int}
theorem iF {W:World} {g:Gi} (h:iU W gb mb wb ro g ws tc) (x:Int):Calls prog 254 #[ptr gb,.i x] W (iq W gb mb wb ro (.tuple #[]) {g with e:=x,st:=4} ws tc):=by
 have c9:=cC g.st (h.cell 9);have c13:=cC g.e (h.cell 13);have UO:=h.frozen 9;have RU:=h.frozen 13;have H:=uH h;clear h
 go_enter func254,ntmps254
 go_wp2_with fail
 first | go_end0 | refine bP ?_
 exact⟨rfl,ro,(H.out.put 13 _ {g with e:=x} rfl rfl).put 9 _ {g with e:=x,st:=4} rfl rfl,((TR.refl (W:=W) (tb:=gb) (mb:=mb) (wb:=wb) (lo:=none) (ro:=ro)).set 13 _).set 9 _⟩
theorem Ba {W:World} {g:Gi} (h:iU W gb mb wb ro g ws tc) (hst:g.st=4):Calls prog 155 #[ptr gb] W fun e W'=>e=.returned (.tuple #[.i g.e,.bool true])/\Below W.heap.size W W':=by
 have c9:=cC g.st (h.cell 9);have c13:=cC g.e (h.cell 13);have e4:(g.st:Int)=4:=ag
 rw[e4]at c9;clear h e4
 go_enter func155,ntmps155
 go_wp2_with fail
 go_quiet (fail)
 go_wp2_with fail;go_ret2;exact⟨rfl,eO bZ _⟩
theorem Bc (W:World) (c:Cf) (w i gen:Int) (d:Bool):Calls prog 104 #[c.val,.i w,.i i,.i gen,.bool d] W fun e W'=>∃ gb,e=.returned (ptr gb)/\RS W' gb (Gi.new c w i gen d) none/\W.heap.size<=gb/\Below W.heap.size W W':=by
 go_enter func104,ntmps104
 simp only[Cf.val,Cf.cells];go_wp2_with fail;go_ret;refine⟨W.heap.size+1,rfl,?_,ag,(bZ.alloc aQ _).alloc au _⟩;exact heap_alloc2_new _ _ _
theorem NL {W:World} {g:Gi} (h:iU W gb mb wb ro g ws tc) (ht:0<=tc/\tc<=4000000000000000000) (hlen:1 < ws.length) (hk:g.st=0):Calls prog 214 #[ptr gb,ptr mb] W (iq W gb mb wb ro (.tuple #[]) (g.step ws).1 (g.step ws).2.1 (tc+(g.step ws).2.2)):=by
 have hx:=rd_some (ws:=ws) (i:=0) ag
 have hst:g.step ws=if rd ws 0=2 then ({g with closed:=rd ws 0}.finish 5,ws,1) else ({g with closed:=rd ws 0,st:=1},ws,1):=by
  unfold Gi.step;rw[hk];rfl
 rw[hst];clear hst;generalize rd ws 0=x at *;have hld:Calls prog 56 #[ptr mb,.i 0] W _:=aU h.mem ht 0 _ hx;clear hx hlen;obtain⟨r,hr⟩:∃ r:Gi×List Int×Nat,r=(if x=2 then ({g with closed:=x}.finish 5,ws,1) else ({g with closed:=x,st:=1},ws,1)):=⟨_,rfl⟩
 rw[<- hr];have HR:=uH hr;clear hr;have H:=uH h;clear h
 go_enter func214,ntmps214
 go_wp2_with fail;refine hld.mono ?_;rintro e w5 ⟨rfl,gq,dS⟩;have h5:=H.out.bU dS gq;have q5:=(TR.refl (W:=W) (tb:=gb) (mb:=mb) (wb:=wb) (lo:=none) (ro:=ro)).mem dS;have c9:=cC g.st (h5.cell 9);have c10:=cC g.closed (h5.cell 10);have UO:=h5.frozen 9;have Bd:=h5.frozen 10;have h6:=(h5.put 10 (.i x) {g with closed:=x} rfl rfl).put 9 (.i 1) {g with closed:=x,st:=1} rfl rfl;have q6:=(q5.set 10 (.i x)).set 9 (.i 1);clear hld gq dS h5 q5;go_upto_region 2 with(fail);generalize ((w5.setCell ⟨gb,10,none⟩ (.i x)).setCell ⟨gb,9,none⟩ (.i 1))=w6 at *;clear c9 c10 UO Bd;have d10:=cC x (h6.cell 10)
 by_cases h2:x=2
 ·have hb:(x == 2)=true:=by simpa using h2
  have X2:=uH h2;clear h2;have hen:=iF h6 5;have Q6:=uH q6;clear h6 q6;go_wp2_with fail;refine hen.mono ?_;rintro e w9 ⟨rfl,GA,h9,q9⟩;have H9:=uH h9;have Q9:=uH (Q6.out.trans q9);clear hen h9 q9;go_wp2_with fail
  first | go_end0 | refine bP ?_
  have hr:=HR.out;rw[if_pos X2.out]at hr;subst hr;exact⟨rfl,GA,H9.out,Q9.out⟩
 ·have hb:(x == 2)=false:=by simpa using h2
  have X2:=uH h2;have H6:=uH h6;have Q6:=uH q6;clear h2 h6 q6;go_wp2_with fail
  first | go_end0 | refine bP ?_
  have hr:=HR.out;rw[if_neg X2.out]at hr;subst hr;exact⟨rfl,ro,H6.out,Q6.out⟩
theorem jR {W:World} {g:Gi} (h:iU W gb mb wb ro g ws tc) (s:S):Calls prog 255 #[ptr gb,s.val] W fun e W'=>e=.returned (.bool (g.gQ s))/\Below W.heap.size W W':=by
 have c4:=cC g.cf.uses (h.cell 4);have c8:=cV (.bool g.discard) (h.cell 8);have c10:=cC g.closed (h.cell 10);have hlt:=h.lt;clear h;unfold Gi.gQ;obtain⟨st,ow,sm,br,ma,us,ge,ep,ve⟩:=s;obtain⟨cf,gw,gi,gen,YO,gst,closed,word,rt,iB⟩:=g;dsimp only at *;cases YO
 ·cases br
  ·by_cases hu:cf.uses<=us
   focus
    have hub:decide (cf.uses<=us)=true:=decide_eq_true hu;rw[hub];clear hub
   rotate_left
   focus
    have hub:decide (cf.uses<=us)=false:=decide_eq_false hu;rw[hub];clear hub;have hu':us < cf.uses:=ag
    clear hu
    by_cases hc:closed=0
   focus
    subst hc
   rotate_left
   focus
    have hcb:(closed != 0)=true:=by simpa using hc
    have HC:=uH hc;clear hc;generalize hd:decide (closed≠0)=d;have hd1:d=true:=by rw[<- hd];exact decide_eq_true HC.out
    subst hd1;clear hd
   rotate_left
   all_goals
    go_enter func255,ntmps255
    simp only[S.val,S.cells];go_wp2_with fail
    go_quiet (fail)
    go_wp2_with fail;go_ret;exact⟨au,eO (bZ.alloc aQ _) _⟩
  ·generalize decide (cf.uses<=us)=d1;generalize decide (closed≠0)=d2
   go_enter func255,ntmps255
   simp only[S.val,S.cells];go_wp2_with fail;go_ret;exact⟨au,bZ.alloc aQ _⟩
 ·generalize decide (cf.uses<=us)=d1;generalize decide (closed≠0)=d2
  go_enter func255,ntmps255
  simp only[S.val,S.cells];go_wp2_with fail;go_ret;exact⟨au,bZ.alloc aQ _⟩
theorem RV {W:World} {g:Gi} (h:iU W gb mb wb ro g ws tc) (ht:0<=tc/\tc<=4000000000000000000) (hlen:3<=ws.length) (hk:g.st=3) {r:Rt} (hr:g.rt=some r) (hro:y5 ws.length r):Calls prog 217 #[ptr gb,ptr mb] W (iq W gb mb wb ro (.tuple #[]) (g.step ws).1 (g.step ws).2.1 (tc+(g.step ws).2.2)):=by
 obtain⟨rb,rfl,hR⟩:=h.ret r hr;have hA:=h.ra rb rfl;have hret:g.ret=r:=by unfold Gi.ret;rw[hr];rfl
 have hst:=jS hR h.mem hA.1 ht h.laid hro.1 hro.2 hlen
 have hs:g.step ws=if (r.step ws).1 then (if (r.step ws).2.1.swapped then ({g with rt:=some (r.step ws).2.1}.finish 0,(r.step ws).2.2) else ({g with rt:=some (r.step ws).2.1,st:=1},(r.step ws).2.2)) else ({g with rt:=some (r.step ws).2.1},(r.step ws).2.2):=by
  unfold Gi.step;rw[hk,hret];rfl
 rw[hs];clear hs hR hret hr hro;generalize r.step ws=q at *;obtain⟨b,r',aC,n⟩:=q;dsimp only at *;have c12:=cP rb (h.cell 12);have H:=uH h;clear h;have T0:=uH (TR.refl (W:=W) (tb:=gb) (mb:=mb) (wb:=wb) (lo:=none) (ro:=some rb));cases b
 ·rw[if_neg au]
  go_enter func217,ntmps217
  go_wp2_with fail;refine hst.mono ?_;rintro e w5 ⟨rfl,Dt,gq,dS⟩;have h5:=H.out.lK rfl dS Dt gq;have q5:=T0.out.aK dS (fun k e=>e.elim (fun e=>.inl (.inr (.inr (by rw[e])))) .inr);have H5:=uH h5;have Q5:=uH q5;clear h5 q5 hst c12 Dt gq dS;go_wp2_with fail
  first | go_end0 | refine bP ?_
  exact⟨rfl,some rb,H5.out,Q5.out⟩
 ·rw[if_pos rfl];have hdn:=fun w (h:cK w rb r')=>oI h
  cases hsw:r'.swapped
  all_goals rw[hsw]at hdn
  focus
   rw[if_neg au]
  rotate_left
  focus
   rw[if_pos rfl]
  rotate_left
  all_goals
   go_enter func217,ntmps217
   go_wp2_with fail;refine hst.mono ?_;rintro e w5 ⟨rfl,Dt,gq,dS⟩;have h5:=H.out.lK rfl dS Dt gq;have q5:=T0.out.aK dS (fun k e=>e.elim (fun e=>.inl (.inr (.inr (by rw[e])))) .inr);have d9:=cC g.st (h5.cell 9);have d12:=cP rb (h5.cell 12);have df9:=h5.frozen 9;have h6:=h5.put 9 (.i 1) {g with rt:=some r',st:=1} rfl rfl;have q6:=q5.set 9 (.i 1);obtain⟨rb',RX,Qy⟩:=h6.ret r' rfl;cases RX;have GD:=hdn _ Qy;have H6:=uH h6;have Q6:=uH q6;clear h5 q5 h6 q6 hst c12 Dt gq dS Qy hdn;go_wp2_with fail;refine GD.mono ?_;rintro e w7 ⟨rfl,cB⟩;have h7:=H6.out.below cB;have q7:=Q6.out.below cB;clear GD cB
  ·have H7:=uH h7;have Q7:=uH q7;clear h7 q7;go_wp2_with fail
   first | go_end0 | refine bP ?_
   exact⟨rfl,some rb,H7.out,Q7.out⟩
  ·have hen:=iF h7 0;have Q7:=uH q7;clear h7 q7;go_wp2_with fail;refine hen.mono ?_;rintro e w9 ⟨rfl,GA,h9,q9⟩;have H9:=uH h9;have Q9:=uH (Q7.out.trans q9);clear hen h9 q9;go_wp2_with fail
   first | go_end0 | refine bP ?_
   exact⟨rfl,GA,H9.out,Q9.out⟩
end Mc
namespace Mc
open Go.RowKit Hp ah aj Slot ai Tk Cl
theorem sJ (w:World) (c:Cf) (i:Int) (hi:i < 0\/c.slots<=i):Calls prog 54 #[c.val,.i i] w fun e w'=>e=.returned (.i (-1))/\Below w.heap.size w w':=by
 by_cases h:i < 0
 ·clear hi
  go_enter func54,ntmps54
  simp only[Cf.val,Cf.cells];go_wp2_with fail;go_ret;exact⟨rfl,bZ.alloc aQ _⟩
 ·have h2:c.slots<=i:=ag
  have h0:0<=i:=ag
  clear hi h
  go_enter func54,ntmps54
  simp only[Cf.val,Cf.cells];go_wp2_with fail;go_ret;exact⟨rfl,bZ.alloc aQ _⟩
theorem iU.jh {W:World} {gb mb wb:Nat} {ro:Option Nat} {g:Gi} {ws:List Int} {tc:Int} (h:iU W gb mb wb ro g ws tc) {rb:Nat} (hb:W.heap.size<=rb):Apart rb mb wb/\rb≠gb:=by
 have h1:=h.lt;have h2:=h.mem.lt;have h3:=h.laid.lt aT;have h4:=h.ap;exact⟨⟨ag,ag,ag,h4.m0,h4.w0⟩,ag⟩
theorem mX (g:Gi) (ws:List Int) (hk:g.st=1):g.step ws=if bW g.cf g.i then
   (match dec (rd ws (sc g.cf g.i.toNat))with
   | none=>({g with word:=rd ws (sc g.cf g.i.toNat)}.finish 2,ws,1)
   | some s=>
    if !owns s g.w g.gen then ({g with word:=rd ws (sc g.cf g.i.toNat)}.finish 2,ws,1)
    else if s.streams≠0/\g.discard=false then ({g with word:=rd ws (sc g.cf g.i.toNat)}.finish 8,ws,1)
    else if g.gQ s then ({g with word:=rd ws (sc g.cf g.i.toNat),rt:=some (Rt.new (sc g.cf g.i.toNat) (rd ws (sc g.cf g.i.toNat))),st:=3},ws,1)
    else ({g with word:=rd ws (sc g.cf g.i.toNat),st:=2},ws,1))
  else (g.finish 2,ws,0):=by
 unfold Gi.step;rw[hk];rfl
theorem sK:(∀ {W:World} {gb mb wb:Nat} {ro:Option Nat} {g:Gi} {ws:List Int} {tc:Int} (h:iU W gb mb wb ro g ws tc) (ht:0<=tc/\tc<=4000000000000000000) (hc:aA g.cf) (hh:bW g.cf g.i=false) (hk:g.st=1),Calls prog 215 #[ptr gb,ptr mb] W (iq W gb mb wb ro (.tuple #[]) (g.step ws).1 (g.step ws).2.1 (tc+(g.step ws).2.2)))/\(∀ {W:World} {gb mb wb:Nat} {ro:Option Nat} {g:Gi} {ws:List Int} {tc:Int} (h:iU W gb mb wb ro g ws tc) (ht:0<=tc/\tc<=4000000000000000000) (hc:aA g.cf) (hlen:ws.length=sc g.cf (ns g.cf)) (hh:bW g.cf g.i=true) (hd:dec (rd ws (sc g.cf g.i.toNat))=none) (hk:g.st=1),Calls prog 215 #[ptr gb,ptr mb] W (iq W gb mb wb ro (.tuple #[]) (g.step ws).1 (g.step ws).2.1 (tc+(g.step ws).2.2)))/\(∀ {W:World} {gb mb wb:Nat} {ro:Option Nat} {g:Gi} {ws:List Int} {tc:Int} (h:iU W gb mb wb ro g ws tc) (ht:0<=tc/\tc<=4000000000000000000) (hc:aA g.cf) (hlen:ws.length=sc g.cf (ns g.cf)) (hh:bW g.cf g.i=true) {s:S} (hd:dec (rd ws (sc g.cf g.i.toNat))=some s) (e3:s.state≠3) (hk:g.st=1),Calls prog 215 #[ptr gb,ptr mb] W (iq W gb mb wb ro (.tuple #[]) (g.step ws).1 (g.step ws).2.1 (tc+(g.step ws).2.2)))/\(∀ {W:World} {gb mb wb:Nat} {ro:Option Nat} {g:Gi} {ws:List Int} {tc:Int} (h:iU W gb mb wb ro g ws tc) (ht:0<=tc/\tc<=4000000000000000000) (hc:aA g.cf) (hlen:ws.length=sc g.cf (ns g.cf)) (hh:bW g.cf g.i=true) {s:S} (hd:dec (rd ws (sc g.cf g.i.toNat))=some s) (e3:s.state=3) (eo:s.own≠g.w) (hk:g.st=1),Calls prog 215 #[ptr gb,ptr mb] W (iq W gb mb wb ro (.tuple #[]) (g.step ws).1 (g.step ws).2.1 (tc+(g.step ws).2.2)))/\(∀ {W:World} {gb mb wb:Nat} {ro:Option Nat} {g:Gi} {ws:List Int} {tc:Int} (h:iU W gb mb wb ro g ws tc) (ht:0<=tc/\tc<=4000000000000000000) (hc:aA g.cf) (hlen:ws.length=sc g.cf (ns g.cf)) (hh:bW g.cf g.i=true) {s:S} (hd:dec (rd ws (sc g.cf g.i.toNat))=some s) (e3:s.state=3) (eo:s.own=g.w) (eg:s.gen≠g.gen) (hk:g.st=1),Calls prog 215 #[ptr gb,ptr mb] W (iq W gb mb wb ro (.tuple #[]) (g.step ws).1 (g.step ws).2.1 (tc+(g.step ws).2.2)))/\(∀ {W:World} {gb mb wb:Nat} {ro:Option Nat} {g:Gi} {ws:List Int} {tc:Int} (h:iU W gb mb wb ro g ws tc) (ht:0<=tc/\tc<=4000000000000000000) (hc:aA g.cf) (hlen:ws.length=sc g.cf (ns g.cf)) (hh:bW g.cf g.i=true) {s:S} (hd:dec (rd ws (sc g.cf g.i.toNat))=some s) (e3:s.state=3) (eo:s.own=g.w) (eg:s.gen=g.gen) (es:s.streams≠0) (ed:g.discard=false) (hk:g.st=1),Calls prog 215 #[ptr gb,ptr mb] W (iq W gb mb wb ro (.tuple #[]) (g.step ws).1 (g.step ws).2.1 (tc+(g.step ws).2.2))):=by
 refine⟨?_,?_,?_,?_,?_,?_⟩
 focus
  intro W gb mb wb ro g ws tc h ht hc hh hk;rw[mX g ws hk,hh];simp only[Bool.false_eq_true,if_false];have hsl:=fun W=>sJ W g.cf g.i (by unfold bW at hh;have:=of_decide_eq_false hh;omega)
  simp only[Cf.val,Cf.cells]at hsl;obtain⟨c0,c1,c2,c3,c4⟩:=cQ g.cf h.cell;have c6:=cC g.i (h.cell 6);have H:=uH h;have T0:=uH (TR.refl (W:=W) (tb:=gb) (mb:=mb) (wb:=wb) (lo:=none) (ro:=ro));clear h
 rotate_left
 focus
  intro W gb mb wb ro g ws tc h ht hc hlen hh hd hk;have hi0:0<=g.i/\g.i < g.cf.slots:=of_decide_eq_true hh;have hns:=hc.ns;have hin:g.i.toNat < ns g.cf:=ag
  have hi1:((g.i.toNat:Nat):Int)=g.i:=Int.toNat_of_nonneg hi0.1;have hsl:=fun W=>bg W g.cf g.i.toNat (by have:=hc.w;omega) (by have:=hc.s;omega)
  have hsc:(3+2 * g.cf.workers+g.i)=((sc g.cf g.i.toNat:Nat):Int):=by have:=hc.w;unfold sc;omega
  simp only[hi1,hsc,Cf.val,Cf.cells]at hsl;have hrn:=fun W x=>iG W g.cf g.i.toNat x ⟨by have:=hc.w;omega,by have:=hc.s;omega⟩ hin
  simp only[hi1,Cf.val,Cf.cells]at hrn;have hrd:=rd_some (ws:=ws) (i:=sc g.cf g.i.toNat) (by rw[hlen];unfold sc;omega);rw[mX g ws hk,hh];simp only[if_true];generalize rd ws (sc g.cf g.i.toNat)=x at *;have hld:=fun W (h:bB W mb wb ws tc)=>aU h ht (sc g.cf g.i.toNat) x hrd
  have hdc:=fun W hL=>aS W x hL
  have hrt:=fun(w:World) (ro:Option Nat) (h:iU w gb mb wb ro {g with word:=x} ws (tc+1)) (s:S)=>jR h s
  obtain⟨c0,c1,c2,c3,c4⟩:=cQ g.cf h.cell;have c6:=cC g.i (h.cell 6);have Qz:=uH hrn;have NM:=uH hrt;have H:=uH h;have T0:=uH (TR.refl (W:=W) (tb:=gb) (mb:=mb) (wb:=wb) (lo:=none) (ro:=ro));clear h hrd hrn hrt hsc hi1 hin hns hi0 hlen;generalize sc g.cf g.i.toNat=cell at *;rw[hd];simp only[hd,Option.getD_none,Option.isSome_none]at hdc;dsimp only
 rotate_left
 focus
  intro W gb mb wb ro g ws tc h ht hc hlen hh s hd e3 hk;have how:owns s g.w g.gen=false:=by unfold owns;simp[e3]
  have hi0:0<=g.i/\g.i < g.cf.slots:=of_decide_eq_true hh;have hns:=hc.ns;have hin:g.i.toNat < ns g.cf:=ag
  have hi1:((g.i.toNat:Nat):Int)=g.i:=Int.toNat_of_nonneg hi0.1;have hsl:=fun W=>bg W g.cf g.i.toNat (by have:=hc.w;omega) (by have:=hc.s;omega)
  have hsc:(3+2 * g.cf.workers+g.i)=((sc g.cf g.i.toNat:Nat):Int):=by have:=hc.w;unfold sc;omega
  simp only[hi1,hsc,Cf.val,Cf.cells]at hsl;have hrn:=fun W x=>iG W g.cf g.i.toNat x ⟨by have:=hc.w;omega,by have:=hc.s;omega⟩ hin
  simp only[hi1,Cf.val,Cf.cells]at hrn;have hrd:=rd_some (ws:=ws) (i:=sc g.cf g.i.toNat) (by rw[hlen];unfold sc;omega);rw[mX g ws hk,hh];simp only[if_true];generalize rd ws (sc g.cf g.i.toNat)=x at *;have hld:=fun W (h:bB W mb wb ws tc)=>aU h ht (sc g.cf g.i.toNat) x hrd
  have hdc:=fun W hL=>aS W x hL
  have hrt:=fun(w:World) (ro:Option Nat) (h:iU w gb mb wb ro {g with word:=x} ws (tc+1)) (s:S)=>jR h s
  obtain⟨c0,c1,c2,c3,c4⟩:=cQ g.cf h.cell;have c6:=cC g.i (h.cell 6);have Qz:=uH hrn;have NM:=uH hrt;have H:=uH h;have T0:=uH (TR.refl (W:=W) (tb:=gb) (mb:=mb) (wb:=wb) (lo:=none) (ro:=ro));clear h hrd hrn hrt hsc hi1 hin hns hi0 hlen;generalize sc g.cf g.i.toNat=cell at *;rw[hd];simp only[hd,Option.getD_some,Option.isSome_some]at hdc;dsimp only;rw[how];simp only[Bool.not_false,if_true]
 rotate_left
 focus
  intro W gb mb wb ro g ws tc h ht hc hlen hh s hd e3 eo hk;have how:owns s g.w g.gen=false:=by unfold owns;simp[eo]
  have hi0:0<=g.i/\g.i < g.cf.slots:=of_decide_eq_true hh;have hns:=hc.ns;have hin:g.i.toNat < ns g.cf:=ag
  have hi1:((g.i.toNat:Nat):Int)=g.i:=Int.toNat_of_nonneg hi0.1;have hsl:=fun W=>bg W g.cf g.i.toNat (by have:=hc.w;omega) (by have:=hc.s;omega)
  have hsc:(3+2 * g.cf.workers+g.i)=((sc g.cf g.i.toNat:Nat):Int):=by have:=hc.w;unfold sc;omega
  simp only[hi1,hsc,Cf.val,Cf.cells]at hsl;have hrn:=fun W x=>iG W g.cf g.i.toNat x ⟨by have:=hc.w;omega,by have:=hc.s;omega⟩ hin
  simp only[hi1,Cf.val,Cf.cells]at hrn;have hrd:=rd_some (ws:=ws) (i:=sc g.cf g.i.toNat) (by rw[hlen];unfold sc;omega);rw[mX g ws hk,hh];simp only[if_true];generalize rd ws (sc g.cf g.i.toNat)=x at *;have hld:=fun W (h:bB W mb wb ws tc)=>aU h ht (sc g.cf g.i.toNat) x hrd
  have hdc:=fun W hL=>aS W x hL
  have hrt:=fun(w:World) (ro:Option Nat) (h:iU w gb mb wb ro {g with word:=x} ws (tc+1)) (s:S)=>jR h s
  obtain⟨c0,c1,c2,c3,c4⟩:=cQ g.cf h.cell;have c6:=cC g.i (h.cell 6);have Qz:=uH hrn;have NM:=uH hrt;have H:=uH h;have T0:=uH (TR.refl (W:=W) (tb:=gb) (mb:=mb) (wb:=wb) (lo:=none) (ro:=ro));clear h hrd hrn hrt hsc hi1 hin hns hi0 hlen;generalize sc g.cf g.i.toNat=cell at *;rw[hd];simp only[hd,Option.getD_some,Option.isSome_some]at hdc;dsimp only;rw[how];simp only[Bool.not_false,if_true]
 rotate_left
 focus
  intro W gb mb wb ro g ws tc h ht hc hlen hh s hd e3 eo eg hk;have how:owns s g.w g.gen=false:=by unfold owns;simp[eg]
  have hi0:0<=g.i/\g.i < g.cf.slots:=of_decide_eq_true hh;have hns:=hc.ns;have hin:g.i.toNat < ns g.cf:=ag
  have hi1:((g.i.toNat:Nat):Int)=g.i:=Int.toNat_of_nonneg hi0.1;have hsl:=fun W=>bg W g.cf g.i.toNat (by have:=hc.w;omega) (by have:=hc.s;omega)
  have hsc:(3+2 * g.cf.workers+g.i)=((sc g.cf g.i.toNat:Nat):Int):=by have:=hc.w;unfold sc;omega
  simp only[hi1,hsc,Cf.val,Cf.cells]at hsl;have hrn:=fun W x=>iG W g.cf g.i.toNat x ⟨by have:=hc.w;omega,by have:=hc.s;omega⟩ hin
  simp only[hi1,Cf.val,Cf.cells]at hrn;have hrd:=rd_some (ws:=ws) (i:=sc g.cf g.i.toNat) (by rw[hlen];unfold sc;omega);rw[mX g ws hk,hh];simp only[if_true];generalize rd ws (sc g.cf g.i.toNat)=x at *;have hld:=fun W (h:bB W mb wb ws tc)=>aU h ht (sc g.cf g.i.toNat) x hrd
  have hdc:=fun W hL=>aS W x hL
  have hrt:=fun(w:World) (ro:Option Nat) (h:iU w gb mb wb ro {g with word:=x} ws (tc+1)) (s:S)=>jR h s
  obtain⟨c0,c1,c2,c3,c4⟩:=cQ g.cf h.cell;have c6:=cC g.i (h.cell 6);have Qz:=uH hrn;have NM:=uH hrt;have H:=uH h;have T0:=uH (TR.refl (W:=W) (tb:=gb) (mb:=mb) (wb:=wb) (lo:=none) (ro:=ro));clear h hrd hrn hrt hsc hi1 hin hns hi0 hlen;generalize sc g.cf g.i.toNat=cell at *;rw[hd];simp only[hd,Option.getD_some,Option.isSome_some]at hdc;dsimp only;rw[how];simp only[Bool.not_false,if_true]
 rotate_left
 focus
  intro W gb mb wb ro g ws tc h ht hc hlen hh s hd e3 eo eg es ed hk;have how:owns s g.w g.gen=true:=by unfold owns;simp[e3,eo,eg]
  have hi0:0<=g.i/\g.i < g.cf.slots:=of_decide_eq_true hh;have hns:=hc.ns;have hin:g.i.toNat < ns g.cf:=ag
  have hi1:((g.i.toNat:Nat):Int)=g.i:=Int.toNat_of_nonneg hi0.1;have hsl:=fun W=>bg W g.cf g.i.toNat (by have:=hc.w;omega) (by have:=hc.s;omega)
  have hsc:(3+2 * g.cf.workers+g.i)=((sc g.cf g.i.toNat:Nat):Int):=by have:=hc.w;unfold sc;omega
  simp only[hi1,hsc,Cf.val,Cf.cells]at hsl;have hrn:=fun W x=>iG W g.cf g.i.toNat x ⟨by have:=hc.w;omega,by have:=hc.s;omega⟩ hin
  simp only[hi1,Cf.val,Cf.cells]at hrn;have hrd:=rd_some (ws:=ws) (i:=sc g.cf g.i.toNat) (by rw[hlen];unfold sc;omega);rw[mX g ws hk,hh];simp only[if_true];generalize rd ws (sc g.cf g.i.toNat)=x at *;have hld:=fun W (h:bB W mb wb ws tc)=>aU h ht (sc g.cf g.i.toNat) x hrd
  have hdc:=fun W hL=>aS W x hL
  have hrt:=fun(w:World) (ro:Option Nat) (h:iU w gb mb wb ro {g with word:=x} ws (tc+1)) (s:S)=>jR h s
  obtain⟨c0,c1,c2,c3,c4⟩:=cQ g.cf h.cell;have c6:=cC g.i (h.cell 6);have Qz:=uH hrn;have NM:=uH hrt;have H:=uH h;have T0:=uH (TR.refl (W:=W) (tb:=gb) (mb:=mb) (wb:=wb) (lo:=none) (ro:=ro));clear h hrd hrn hrt hsc hi1 hin hns hi0 hlen;generalize sc g.cf g.i.toNat=cell at *;rw[hd];simp only[hd,Option.getD_some,Option.isSome_some]at hdc;dsimp only;rw[how];simp only[Bool.not_true,Bool.false_eq_true,if_false];rw[if_pos ⟨es,ed⟩]
 rotate_left
 all_goals
  go_enter func215,ntmps215
  go_wp2_with fail
  go_region_held3 (fun w'=>w'.cell? ⟨gb,0,none⟩=some (.i g.cf.workers)/\w'.cell? ⟨gb,1,none⟩=some (.i g.cf.slots)/\w'.cell? ⟨gb,2,none⟩=some (.i g.cf.streams)/\w'.cell? ⟨gb,3,none⟩=some (.i g.cf.waiters)/\w'.cell? ⟨gb,4,none⟩=some (.i g.cf.uses)/\w'.cell? ⟨gb,6,none⟩=some (.i g.i)) (first | go_keep | exact⟨aI,aI,aI,aI,aI,aI⟩ | (refine⟨?_,?_,?_,?_,?_,?_⟩<;>first | assumption | (rw[World.cell?_setCell_other _ _ _ _ au];assumption)))
   ((first
   | (go_at_call 54;refine(hsl _).mono ?_;rintro e w5 ⟨rfl,hb5⟩;have h5:=(H.out.below bY).below hb5;have q5:=((T0.out).below bY).below hb5;obtain⟨a0,a1,a2,a3,a4⟩:=cQ g.cf h5.cell;have a6:=cC g.i (h5.cell 6))))
 ·clear hsl hb5;have hen:=iF h5 2;have Q5:=uH q5;clear h5 q5;go_wp2_with fail;refine hen.mono ?_;rintro e w9 ⟨rfl,GA,h9,q9⟩;have H9:=uH h9;have Q9:=uH (Q5.out.trans q9);clear hen h9 q9;go_wp2_with fail
  first | go_end0 | refine bP ?_
  exact⟨rfl,GA,by rw[show tc+((0:Nat):Int)=tc by simp];exact H9.out,Q9.out⟩
 rotate_left;rotate_left;rotate_left;rotate_left;rotate_left
 all_goals
  have qU:=hld w5 h5.mem;have H5:=uH h5;have Q5:=uH q5;clear h5 q5 hb5 hsl;go_wp2_with fail;refine qU.mono ?_;rintro e w6 ⟨rfl,jH,fT⟩;have h6:=H5.out.bU fT jH;have q6:=Q5.out.mem fT;have b11:=cC g.word (h6.cell 11);have za:=h6.frozen 11;have h7:=h6.put 11 (.i x) {g with word:=x} rfl rfl;have q7:=q6.set 11 (.i x);clear qU jH fT h6 q6;go_upto_region 4 with(fail);generalize (w6.setCell ⟨gb,11,none⟩ (.i x))=w7 at *;clear b11 za;have d11:=cC x (h7.cell 11);have hD:=hdc w7 h7.laid;have H7:=uH h7;have Q7:=uH q7;clear h7 q7;go_wp2_with fail;refine hD.mono ?_;rintro e w8 ⟨rfl,cZ⟩;have h8:=H7.out.below cZ;have q8:=Q7.out.below cZ;dsimp only;go_step
 ·refine gl (.tuple #[S.zero.val,.bool false]) ?_;refine gl S.zero.val ?_;refine gl (.bool false) ?_;refine dU (ob:=.cells av 57) (Z:=av) (cs:=S.zero.cells) (t:=57) 57 (.tmp 5) (.tmp 32) rfl ?_;refine gl (.bool false) (ay ?_)
  rw[aG];have dm:Below w8.heap.size w8 (w8.alloc (.cells S.zero.cells 57)):=bZ.alloc aQ _;have fe:af (w8.alloc (.cells S.zero.cells 57)) w8.heap.size S.zero.cells 57:=heap_alloc_new w8 _;have h9:=h8.below dm;have q9:=q8.below dm;have Kb:gb < w8.heap.size:=h8.lt;generalize (w8.alloc (.cells S.zero.cells 57))=w9 at *;generalize w8.heap.size=sb at *;clear hD cZ dm h8 q8 d11 hld hdc;have e5:=cC g.w (h9.cell 5);have e7:=cC g.gen (h9.cell 7);have s0:=cC 0 (af.cell fe 0);have s1:=cC 0 (af.cell fe 1);have s6:=cC 0 (af.cell fe 6);have h10:=h9.below bY;have qV:=q9.below bY;clear h9 q9 fe;go_wp2_with fail;go_region;have hen:=iF h10 2;have zb:=uH qV;clear h10 qV;go_wp2_with fail;refine hen.mono ?_;rintro e w9 ⟨rfl,GA,h9,q9⟩;have H9:=uH h9;have Q9:=uH (zb.out.trans q9);clear hen h9 q9;go_wp2_with fail
  first | go_end0 | refine bP ?_
  exact⟨rfl,GA,H9.out,Q9.out⟩
 rotate_left;rotate_left;rotate_left;rotate_left
 all_goals
  refine gl (.tuple #[s.val,.bool true]) ?_;refine gl s.val ?_;refine gl (.bool true) ?_;refine dU (ob:=.cells av 57) (Z:=av) (cs:=s.cells) (t:=57) 57 (.tmp 5) (.tmp 32) rfl ?_;refine gl (.bool true) (ay ?_)
  rw[aG];have dm:Below w8.heap.size w8 (w8.alloc (.cells s.cells 57)):=bZ.alloc aQ _;have fe:af (w8.alloc (.cells s.cells 57)) w8.heap.size s.cells 57:=heap_alloc_new w8 _;have h9:=h8.below dm;have q9:=q8.below dm;have Kb:gb < w8.heap.size:=h8.lt;generalize (w8.alloc (.cells s.cells 57))=w9 at *;generalize w8.heap.size=sb at *;clear hD cZ dm h8 q8 d11 hld hdc;have e5:=cC g.w (h9.cell 5);have e7:=cC g.gen (h9.cell 7)
 focus
  have s0:=cC s.state ((af.cell fe 0).trans (by show some (Value.int .i64 s.state)=_;first | rfl | rw[e3]));have s1:=cC s.own ((af.cell fe 1).trans (by show some (Value.int .i64 s.own)=_;first | rfl | rw[eo]));have s6:=cC s.gen ((af.cell fe 6).trans (by show some (Value.int .i64 s.gen)=_;first | rfl | rw[eg]));have f1:(s.state == 3)=false:=by simpa using e3
  have f2:(s.state != 3)=true:=by simpa using e3
  clear e3;have h10:=h9.below bY;have qV:=q9.below bY;clear h9 q9 fe how;go_wp2_with fail;go_region;have hen:=iF h10 2
 rotate_left
 focus
  have s0:=cC 3 ((af.cell fe 0).trans (by show some (Value.int .i64 s.state)=_;first | rfl | rw[e3]));have s1:=cC s.own ((af.cell fe 1).trans (by show some (Value.int .i64 s.own)=_;first | rfl | rw[eo]));have s6:=cC s.gen ((af.cell fe 6).trans (by show some (Value.int .i64 s.gen)=_;first | rfl | rw[eg]));have f1:(s.own == g.w)=false:=by simpa using eo
  have f2:(s.own != g.w)=true:=by simpa using eo
  clear e3 eo;have h10:=h9.below bY;have qV:=q9.below bY;clear h9 q9 fe how;go_wp2_with fail;go_region;have hen:=iF h10 2
 rotate_left
 focus
  have s0:=cC 3 ((af.cell fe 0).trans (by show some (Value.int .i64 s.state)=_;first | rfl | rw[e3]));have s1:=cC g.w ((af.cell fe 1).trans (by show some (Value.int .i64 s.own)=_;first | rfl | rw[eo]));have s6:=cC s.gen ((af.cell fe 6).trans (by show some (Value.int .i64 s.gen)=_;first | rfl | rw[eg]));have f1:(s.gen == g.gen)=false:=by simpa using eg
  have f2:(s.gen != g.gen)=true:=by simpa using eg
  clear e3 eo eg;have h10:=h9.below bY;have qV:=q9.below bY;clear h9 q9 fe how;go_wp2_with fail;go_region;have hen:=iF h10 2
 rotate_left
 focus
  have e8:=cV (.bool g.discard) (h9.cell 8);have s0:=cC 3 ((af.cell fe 0).trans (by show some (Value.int .i64 s.state)=_;first | rfl | rw[e3]));have s1:=cC g.w ((af.cell fe 1).trans (by show some (Value.int .i64 s.own)=_;first | rfl | rw[eo]));have s2:=cC s.streams ((af.cell fe 2).trans (by show some (Value.int .i64 s.streams)=_;first | rfl | rw[es]));have s6:=cC g.gen ((af.cell fe 6).trans (by show some (Value.int .i64 s.gen)=_;first | rfl | rw[eg]));rw[ed]at e8;have f1:(s.streams == 0)=false:=by simpa using es
  have f2:(s.streams != 0)=true:=by simpa using es
  have h10:=h9.below bY;have qV:=q9.below bY;clear h9 q9 fe how e3 eo eg es ed;go_wp2_with fail;go_region;have hen:=iF h10 8
 rotate_left
 all_goals
  have zb:=uH qV;clear h10 qV;go_wp2_with fail;refine hen.mono ?_;rintro e w9 ⟨rfl,GA,h9,q9⟩;have H9:=uH h9;have Q9:=uH (zb.out.trans q9);clear hen h9 q9;go_wp2_with fail
  first | go_end0 | refine bP ?_
  exact⟨rfl,GA,H9.out,Q9.out⟩
def Du:=@And.left _ _ sK
def Be:=@And.left _ _ (And.right sK)
def ze:=@And.left _ _ (And.right (And.right sK))
def Dv:=@And.left _ _ (And.right (And.right (And.right sK)))
def Dw:=@And.left _ _ (And.right (And.right (And.right (And.right sK))))
def Bf:=@And.right _ _ (And.right (And.right (And.right (And.right sK))))
theorem yu {W:World} {gb mb wb:Nat} {ro:Option Nat} {g:Gi} {ws:List Int} {tc:Int} (h:iU W gb mb wb ro g ws tc) (ht:0<=tc/\tc<=4000000000000000000) (hc:aA g.cf) (hlen:ws.length=sc g.cf (ns g.cf)) (hh:bW g.cf g.i=true) {s:S} (hd:dec (rd ws (sc g.cf g.i.toNat))=some s) (e3:s.state=3) (eo:s.own=g.w) (eg:s.gen=g.gen) (es:s.streams=0\/g.discard=true) (hk:g.st=1):Calls prog 215 #[ptr gb,ptr mb] W (iq W gb mb wb ro (.tuple #[]) (g.step ws).1 (g.step ws).2.1 (tc+(g.step ws).2.2)):=by
 have how:owns s g.w g.gen=true:=by unfold owns;simp[e3,eo,eg]
 have hi0:0<=g.i/\g.i < g.cf.slots:=of_decide_eq_true hh;have hns:=hc.ns;have hin:g.i.toNat < ns g.cf:=ag
 have hi1:((g.i.toNat:Nat):Int)=g.i:=Int.toNat_of_nonneg hi0.1;have hsl:=fun W=>bg W g.cf g.i.toNat (by have:=hc.w;omega) (by have:=hc.s;omega)
 have hsc:(3+2 * g.cf.workers+g.i)=((sc g.cf g.i.toNat:Nat):Int):=by have:=hc.w;unfold sc;omega
 simp only[hi1,hsc,Cf.val,Cf.cells]at hsl;have hrn:=fun W x=>iG W g.cf g.i.toNat x ⟨by have:=hc.w;omega,by have:=hc.s;omega⟩ hin
 simp only[hi1,Cf.val,Cf.cells]at hrn;have hrd:=rd_some (ws:=ws) (i:=sc g.cf g.i.toNat) (by rw[hlen];unfold sc;omega);rw[mX g ws hk,hh];simp only[if_true];generalize rd ws (sc g.cf g.i.toNat)=x at *;have hld:=fun W (h:bB W mb wb ws tc)=>aU h ht (sc g.cf g.i.toNat) x hrd
 have hdc:=fun W hL=>aS W x hL
 have hrt:=fun(w:World) (ro:Option Nat) (h:iU w gb mb wb ro {g with word:=x} ws (tc+1)) (s:S)=>jR h s
 obtain⟨c0,c1,c2,c3,c4⟩:=cQ g.cf h.cell;have c6:=cC g.i (h.cell 6);have Qz:=uH hrn;have NM:=uH hrt;have H:=uH h;have T0:=uH (TR.refl (W:=W) (tb:=gb) (mb:=mb) (wb:=wb) (lo:=none) (ro:=ro));clear h hrd hrn hrt hsc hi1 hin hns hi0 hlen;generalize sc g.cf g.i.toNat=cell at *;rw[hd];simp only[hd,Option.getD_some,Option.isSome_some]at hdc;dsimp only;rw[how];simp only[Bool.not_true,Bool.false_eq_true,if_false];rw[if_neg (fun e=>by rcases es with e1 | e1;exact e.1 e1;rw[e1]at e;exact absurd e.2 au)];obtain⟨r,hr⟩:∃ r:Gi×List Int×Nat,r=(if g.gQ s=true then ({g with word:=x,rt:=some (Rt.new cell x),st:=3},ws,1) else ({g with word:=x,st:=2},ws,1)):=⟨_,rfl⟩
 rw[<- hr];have HR:=uH hr;clear hr;have hgr:({g with word:=x}:Gi).gQ s=g.gQ s:=rfl;have Qv:=uH hgr;clear hgr
 go_enter func215,ntmps215
 go_wp2_with fail
 go_region_held3 (fun w'=>w'.cell? ⟨gb,0,none⟩=some (.i g.cf.workers)/\w'.cell? ⟨gb,1,none⟩=some (.i g.cf.slots)/\w'.cell? ⟨gb,2,none⟩=some (.i g.cf.streams)/\w'.cell? ⟨gb,3,none⟩=some (.i g.cf.waiters)/\w'.cell? ⟨gb,4,none⟩=some (.i g.cf.uses)/\w'.cell? ⟨gb,6,none⟩=some (.i g.i)) (first | go_keep | exact⟨aI,aI,aI,aI,aI,aI⟩ | (refine⟨?_,?_,?_,?_,?_,?_⟩<;>first | assumption | (rw[World.cell?_setCell_other _ _ _ _ au];assumption)))
  ((first
  | (go_at_call 54;refine(hsl _).mono ?_;rintro e w5 ⟨rfl,hb5⟩;have h5:=(H.out.below bY).below hb5;have q5:=((T0.out).below bY).below hb5;obtain⟨a0,a1,a2,a3,a4⟩:=cQ g.cf h5.cell;have a6:=cC g.i (h5.cell 6))))
 have qU:=hld w5 h5.mem;have H5:=uH h5;have Q5:=uH q5;clear h5 q5 hb5 hsl;go_wp2_with fail;refine qU.mono ?_;rintro e w6 ⟨rfl,jH,fT⟩;have h6:=H5.out.bU fT jH;have q6:=Q5.out.mem fT;have b11:=cC g.word (h6.cell 11);have za:=h6.frozen 11;have h7:=h6.put 11 (.i x) {g with word:=x} rfl rfl;have q7:=q6.set 11 (.i x);clear qU jH fT h6 q6;go_upto_region 4 with(fail);generalize (w6.setCell ⟨gb,11,none⟩ (.i x))=w7 at *;clear b11 za;have d11:=cC x (h7.cell 11);have hD:=hdc w7 h7.laid;have H7:=uH h7;have Q7:=uH q7;clear h7 q7;go_wp2_with fail;refine hD.mono ?_;rintro e w8 ⟨rfl,cZ⟩;have h8:=H7.out.below cZ;have q8:=Q7.out.below cZ;dsimp only;go_step;refine gl (.tuple #[s.val,.bool true]) ?_;refine gl s.val ?_;refine gl (.bool true) ?_;refine dU (ob:=.cells av 57) (Z:=av) (cs:=s.cells) (t:=57) 57 (.tmp 5) (.tmp 32) rfl ?_;refine gl (.bool true) (ay ?_)
 rw[aG];have dm:Below w8.heap.size w8 (w8.alloc (.cells s.cells 57)):=bZ.alloc aQ _;have fe:af (w8.alloc (.cells s.cells 57)) w8.heap.size s.cells 57:=heap_alloc_new w8 _;have h9:=h8.below dm;have q9:=q8.below dm;have Kb:gb < w8.heap.size:=h8.lt;generalize (w8.alloc (.cells s.cells 57))=w9 at *;generalize w8.heap.size=sb at *;clear hD cZ dm h8 q8 d11 hld hdc;have e5:=cC g.w (h9.cell 5);have e7:=cC g.gen (h9.cell 7);have e8:=cV (.bool g.discard) (h9.cell 8);have s0:=cC 3 ((af.cell fe 0).trans (by show some (Value.int .i64 s.state)=_;first | rfl | rw[e3]));have s1:=cC g.w ((af.cell fe 1).trans (by show some (Value.int .i64 s.own)=_;first | rfl | rw[eo]));have s2:=cC s.streams ((af.cell fe 2).trans (by show some (Value.int .i64 s.streams)=_;first | rfl | rw[es]))
 have s6:=cC g.gen ((af.cell fe 6).trans (by show some (Value.int .i64 s.gen)=_;first | rfl | rw[eg]));have Vn:=uH fe;have H9:=uH (h9.below bY);have Q9:=uH (q9.below bY);clear h9 q9 fe how e3 eo eg;go_wp2_with fail;go_region;have nJ:af w9.drew sb s.cells 57:=Vn.out;generalize w9.drew=dH at *;have d8:=cV (.bool g.discard) (H9.out.cell 8);have t2:=cC s.streams (af.cell nJ 2);clear e5 e7 e8 s0 s1 s2 s6 Vn;have hrt:=NM.out dH ro H9.out s;rw[Qv.out]at hrt;have xJ:=uH nJ;clear nJ
 by_cases h0:s.streams=0
 focus
  rw[h0]at t2;clear h0 es;go_upto_region 10 with(fail);refine wp_region_lit ?_;refine gl (ptr gb) (ay ?_)
  refine grow xJ.out 57 (.tmp 5) underlying57 (ay ?_)
  refine pM 255 #[.tmp 79,.tmp 80] #[150,57] #[ptr gb,s.val] (aH func255) ?_;refine hrt.mono ?_;rintro e kU ⟨rfl,ku⟩;refine⟨_,rfl,?_⟩;have h11:=H9.out.below ku;have xK:=Q9.out.below ku;clear ku hrt d8 t2 xJ;dsimp only;refine gl (.bool (g.gQ s)) (ay ?_)
  cases hgr:g.gQ s
 ·have hr:=HR.out;rw[if_neg (by simp[hgr])]at hr;subst hr;clear hgr Qv NM Qz;have e9:=cC g.st (h11.cell 9);have ef9:=h11.frozen 9;have pV:=uH h11;have xF:=uH xK;clear h11 xK;go_wp2_with fail
  first | go_end0 | refine bP ?_
  exact⟨rfl,ro,pV.out.put 9 (.i 2) {g with word:=x,st:=2} rfl rfl,xF.out.set 9 _⟩
 rotate_left
 focus
  have hdd:g.discard=true:=by rcases es with e | e;exact absurd e h0;exact e
  rw[hdd]at d8;have f1:(s.streams == 0)=false:=by simpa using h0
  have f2:(s.streams != 0)=true:=by simpa using h0
  clear h0 es hdd;go_upto_region 10 with(fail);refine wp_region_lit ?_;refine gl (ptr gb) (ay ?_)
  refine grow xJ.out 57 (.tmp 5) underlying57 (ay ?_)
  refine pM 255 #[.tmp 79,.tmp 80] #[150,57] #[ptr gb,s.val] (aH func255) ?_;refine hrt.mono ?_;rintro e kU ⟨rfl,ku⟩;refine⟨_,rfl,?_⟩;have h11:=H9.out.below ku;have xK:=Q9.out.below ku;clear ku hrt d8 t2 xJ;dsimp only;refine gl (.bool (g.gQ s)) (ay ?_)
  cases hgr:g.gQ s
 ·have hr:=HR.out;rw[if_neg (by simp[hgr])]at hr;subst hr;clear hgr Qv NM Qz;have e9:=cC g.st (h11.cell 9);have ef9:=h11.frozen 9;have pV:=uH h11;have xF:=uH xK;clear h11 xK;go_wp2_with fail
  first | go_end0 | refine bP ?_
  exact⟨rfl,ro,pV.out.put 9 (.i 2) {g with word:=x,st:=2} rfl rfl,xF.out.set 9 _⟩
 rotate_left
 all_goals
  have hr:=HR.out;rw[if_pos hgr]at hr;subst hr;clear hgr Qv NM;obtain⟨e0,e1,e2,e3,e4⟩:=cQ g.cf h11.cell;have e6:=cC g.i (h11.cell 6);have e11:=cC x (h11.cell 11);have u12:=cV (fJ ro) (h11.cell 12);have aaM:=h11.frozen 12;have pV:=uH h11;have xF:=uH xK;clear h11 xK;go_wp2_with fail
  go_region_held3 (fun w'=>w'.cell? ⟨gb,0,none⟩=some (.i g.cf.workers)/\w'.cell? ⟨gb,1,none⟩=some (.i g.cf.slots)/\w'.cell? ⟨gb,2,none⟩=some (.i g.cf.streams)/\w'.cell? ⟨gb,3,none⟩=some (.i g.cf.waiters)/\w'.cell? ⟨gb,4,none⟩=some (.i g.cf.uses)/\w'.cell? ⟨gb,6,none⟩=some (.i g.i)/\w'.cell? ⟨gb,11,none⟩=some (.i x)) (first | go_keep | exact⟨aI,aI,aI,aI,aI,aI,aI⟩ | (refine⟨?_,?_,?_,?_,?_,?_,?_⟩<;>first | assumption | (rw[World.cell?_setCell_other _ _ _ _ au];assumption)))
   ((first
   | (go_at_call 221;refine(Qz.out _ x).mono ?_;rintro e uo ⟨rb,rfl,hR,hge,jL⟩;have h12:=(pV.out.below bY).below jL;obtain⟨k0,k1,k2,k3,k4⟩:=cQ g.cf h12.cell;have k6:=cC g.i (h12.cell 6);have k11:=cC x (h12.cell 11);have v12:=cV (fJ ro) (h12.cell 12);have aaN:=h12.frozen 12)))
  have Vo:=(xF.out.below bY).below jL;obtain⟨n1,n2⟩:=(pV.out.below bY).jh hge;have vV:=h12.mW hR n1 n2;have UR:TR W gb mb wb none ro (uo.setCell ⟨gb,12,none⟩ (ptr rb)) none (some rb):=⟨Vo.1,.inr ⟨rb,rfl,Nat.le_trans (show W.heap.size<=kU.heap.size from xF.out.2.2.size) hge⟩,Vo.2.2.setCell ⟨gb,12,none⟩ _ (fun _=>.inl (.inl rfl))⟩
  have m9:=cC g.st (vV.cell 9);have mf9:=vV.frozen 9;have Nl:=uH vV;have Q13:=uH UR;clear h12 Vo vV UR hR jL hge n1 n2;go_wp2_with fail
  first | go_end0 | refine bP ?_
  exact⟨rfl,some rb,Nl.out.put 9 (.i 3) {g with word:=x,rt:=some (Rt.new cell x),st:=3} rfl rfl,Q13.out.set 9 _⟩
end Mc
end Go.Proofs.YtbklamnimfmjkaaGreatDoor
