/- Part 29 of the walks and plain laws that the last text joins. -/
import Derived.Test.YtbklamnimfmjkaaGreatDoorKB28
set_option maxRecDepth 100000
set_option maxHeartbeats 16000000
set_option linter.all false
open Go.Proofs.Tryz
namespace Go.Proofs.YtbklamnimfmjkaaGreatDoor
namespace Mc
open Go.RowKit Hp ah aj Slot ai Tk Cl
theorem Ho {W0 W:World} {p0 p:Mp} {m:Mc} {who:Nat} {k:Wk} {v:KV} {s:Sh} {t:Tk.Tk} {lo ro:Option Nat} {b1 b2 b3 tb:Nat} (h:Mx W0 p0 W p m who k v s) (hk:k.st=2)
  (hl:qa W p.gb who (In W p.ow (8+who)) 120 v.work (ptr tb) 128 b1 b2 b3) (hg:bz W tb p.mb p.wb lo ro t s.ws s.tc) (hd:∀ b,jo tb lo ro b->uw (In W p.ow (8+who)) b1 b2 b3 b)
  (ok:dR t s.ws) (ht:(s.tc:Int)<=4000000000000000000) (hgd:(s.good:Int)<=1000000) (hbd:(s.bad:Int)<=1000000) (h9:t.st=9):
  Calls prog 120 #[ptr b1,ptr b2,ptr b3] W (bV W0 p0 m who (xR k m.cf who (t.step s.ws s.outcome).1) (s.next.cells (t.step s.ws s.outcome).2)):=by
 obtain⟨hx0,hx1,hx2⟩:=idx h.hw;have hdl:=yD hg;have hnx:=wJ W p.ob p.rb p.wv s.ahead s.good s.bad h.core.Fz hgd hbd;rw[show s.ahead.headD true=s.outcome from rfl]at hnx;have hstep:=fun(w':World) (hg:bz w' tb p.mb p.wb lo ro t s.ws s.tc)=>Cl.jY hg ok ⟨ag,ht⟩ s.outcome
 unfold rE jk at hstep;rw[decide_eq_true h9]at hdl;obtain⟨r,hr⟩:∃ r,r=t.step s.ws s.outcome:=⟨_,rfl⟩
 rw[<- hr]at hstep ⊢;clear hr;obtain⟨t2,jq,n2⟩:=r;dsimp only at hstep ⊢;have c1:W.cell? ⟨b1,0,none⟩=some (ptr tb):=hl.r1.cell 0;have c2:W.cell? ⟨b2,0,none⟩=some (ptr p.gb):=hl.r2.cell 0;have c3:W.cell? ⟨b3,0,none⟩=some (.i who):=hl.r3.cell 0;have g5:W.cell? ⟨p.gb,5,none⟩=some (ptr p.mb):=h.az 5;have g7:W.cell? ⟨p.gb,7,none⟩=some (ptr p.ob):=h.az 7;have H:=uH h;have HL:=uH hl;have HD:=uH hd;have HK:=uH hk;have HG:=uH hg;clear h hl hd hk hg ok ht hgd hbd h9;cases hout:s.outcome
 ·rw[hout]at hnx hstep
  have hsn:s.next={s with ahead:=s.ahead.tail,good:=s.good,bad:=s.bad+1}:=by
   have ho:s.ahead.headD true=false:=hout;unfold Sh.next;rw[ho];rfl
  rw[hsn];simp only[if_true,Bool.false_eq_true,if_false]at hnx;clear hout hsn
  by_cases hdn:t2.st=15
  focus
   have xS:xR k m.cf who t2=(if t2.answer.1=3 then (if k.ask.wait then {K2 k (.get t2)with queue:=some (Qu.enter m.cf who),st:=4} else {K2 k (.get t2)with two:=some (Tw.new m.cf),st:=3}) else (K2 k (.get t2)).finish m.cf who {Mod.Ev.zero with e:=t2.answer.1,slot:=t2.answer.2.1,gen:=t2.answer.2.2}):=if_neg (fun e=>e hdn);rw[xS];clear xS;rw[decide_eq_true hdn]at hstep;clear hdn;obtain⟨a,ha⟩:∃ a,a=t2.answer:=⟨_,rfl⟩
   rw[<- ha];have HA:=uH ha.symm;clear ha;obtain⟨a1,a2,a3⟩:=a;dsimp only
   by_cases h3:a1=3
  focus
   subst h3;rw[if_pos rfl];cases hwt:k.ask.wait
  focus
   rw[if_neg aT];have KX:=uH hwt;clear hwt
  rotate_left
  focus
   rw[if_pos rfl];have KX:=uH hwt;clear hwt
  rotate_left
  focus
   rw[if_neg h3];have h3b:(a1 == 3)=false:=by simpa using h3
   clear h3
  rotate_left
  focus
   have xS:xR k m.cf who t2=K2 k (.get t2):=if_pos hdn;rw[xS];clear xS;rw[decide_eq_false hdn]at hstep;clear hdn
  rotate_left
  all_goals
   go_enter func120,ntmps120
   go_wp2_with fail;refine hdl.mono ?_;rintro e w4 ⟨rfl,rfl⟩;clear hdl;go_wp2_with fail;refine hnx.mono ?_;rintro e w5 ⟨rfl,Hq,YX,sG,gz⟩;have h5:=H.out.world YX sG gz;have hl5:=H.out.wK (wv:=Hq) gz HL.out;have hd5:∀ b,jo tb lo ro b->uw (In w5 (p.world W w5 Hq).ow (8+who)) b1 b2 b3 b:=fun b hb=>(HD.out b hb).mono (fun b hb=>H.out.rA gz.size hb)
   have hn0:∀ b,p.ow b≠5->¬ aO.AA p.ob p.rb p.wv b:=fun b h5 e=>h5 (H.out.core.lo b e)
   have hg5:bz w5 tb p.mb p.wb lo ro t s.ws s.tc:=HG.out.aK gz (hn0 0 (by rw[show p.ow 0=0 from H.out.core.l0.1];decide)) (fun b hb=>hn0 b (by rw[(HD.out b hb).1.2];omega)) h5.mem;clear hnx hn0 c1 c2 c3 g5 g7;have d1:w5.cell? ⟨b1,0,none⟩=some (ptr tb):=hl5.r1.cell 0;have d2:w5.cell? ⟨b2,0,none⟩=some (ptr p.gb):=hl5.r2.cell 0;have d3:w5.cell? ⟨b3,0,none⟩=some (.i who):=hl5.r3.cell 0;have d5:w5.cell? ⟨p.gb,5,none⟩=some (ptr p.mb):=h5.az 5;have hst:=hstep w5.drew (hg5.below bY);have hdr:Below w5.heap.size w5 w5.drew:=bY;have H5:=uH (h5.below hdr);have QL:=uH (hl5.aK (L':=In w5.drew (p.world W w5 Hq).ow (8+who)) (G:=fun _=>False) (aD.aF hdr) (fun _ _ e=>e) (fun b hb=>hb.mono hdr.size));have hd6:∀ b,jo tb lo ro b->uw (In w5.drew (p.world W w5 Hq).ow (8+who)) b1 b2 b3 b:=fun b hb=>(hd5 b hb).mono (fun b hb=>hb.mono hdr.size)
   have HD6:=uH hd6;clear h5 hl5 hd5 hd6 hg5 hdr;go_wp2_with fail
   go_region_held3 (fun w'=>w'.cell? ⟨b1,0,none⟩=some (ptr tb)/\w'.cell? ⟨b2,0,none⟩=some (ptr p.gb)/\w'.cell? ⟨p.gb,5,none⟩=some (ptr p.mb)) (first | go_keep | exact⟨aI,aI,aI⟩)
    ((first
    | (go_at_call 123;refine hst.mono ?_;rintro e w7 ⟨rfl,BF,BG,eG,xU,KY,nW⟩;have eG:bz w7 tb p.mb p.wb BF BG t2 jq ((s.tc+n2:Nat):Int):=eG;have h7:=H5.out.mG (fun b hb=>(HD6.out b hb).1) nW eG.mem;have hcl:=H5.out.nu QL.out HD6.out nW;have hfp:=H5.out.qj QL.out HD6.out nW.size (tu xU KY) (bz.Dc eG);have e1:w7.cell? ⟨b1,0,none⟩=some (ptr tb):=hcl.r1.cell 0;have e2:w7.cell? ⟨b2,0,none⟩=some (ptr p.gb):=hcl.r2.cell 0;have e3:w7.cell? ⟨b3,0,none⟩=some (.i who):=hcl.r3.cell 0;have e5:w7.cell? ⟨p.gb,5,none⟩=some (ptr p.mb):=h7.az 5)))
   have h8:=h7.same (k':=K2 k (.get t2)) (v':=v) (fK k _ v);clear h7 hst d1 d2 d3 d5
  rotate_left;rotate_left;rotate_left
  ·have H8:=uH h8;have A8:=uH (jN (v:=v) HK.out (show fZ w7 p.gb p.mb p.wb (In w7 (p.world W w5 Hq).ow (8+who)) who jq ((s.tc+n2:Nat):Int) m.cf (.get t2) v.work from⟨b1,b2,b3,tb,BF,BG,hcl,eG,hfp⟩));clear h8 hcl hfp eG nW;go_wp2_with fail
   first | go_end0 | refine bP ?_
   exact⟨rfl,_,v,H8.out,A8.out⟩
  all_goals
   have kG:=qw eG;rw[HA.out]at kG;dsimp only at kG;have H8:=uH h8;have yB:=uH hcl;clear h8 hcl hfp eG nW;go_wp2_with fail;refine kG.mono ?_;rintro e w8 ⟨rfl,cZ⟩;have rF:Below w8.heap.size w8 w8.drew:=bY;have h9:=(H8.out.below cZ).below rF;have hcl:=(yB.out.aK (L':=In w8 (p.world W w5 Hq).ow (8+who)) (G:=fun _=>False) (aD.aF cZ) (fun _ _ e=>e) (fun b hb=>hb.mono cZ.size))
   have q1:w8.cell? ⟨b1,0,none⟩=some (ptr tb):=hcl.r1.cell 0;have q2:w8.cell? ⟨b2,0,none⟩=some (ptr p.gb):=hcl.r2.cell 0;have q3:w8.cell? ⟨b3,0,none⟩=some (.i who):=hcl.r3.cell 0;have q9:w8.cell? ⟨p.gb,9,none⟩=some (.slice (some ⟨p.kb,0,none⟩) m.ks.length m.ks.length):=h9.az 9;have k3:w8.cell? ⟨p.kb,who * 35+3,none⟩=some (.bool k.ask.wait):=h9.aL 3 rfl
  focus
   rw[KX.out]at k3;have H9:=uH h9;clear kG cZ hcl h9 e1 e2 e3 e5 rF H8 yB;go_wp2_with fail;go_region;have hca:=sW H9.out
  rotate_left
  focus
   rw[KX.out]at k3;have H9:=uH h9;clear kG cZ hcl h9 e1 e2 e3 e5 rF H8 yB;go_wp2_with fail;go_region;have hca:=wF H9.out
  rotate_left
  focus
   have H9:=uH h9;clear kG cZ hcl h9 e1 e2 e3 e5 rF H8 yB;go_wp2_with fail;go_region;have hca:=gU H9.out {Mod.Ev.zero with e:=a1,slot:=a2,gen:=a3}
  rotate_left
  all_goals
   clear H9;go_wp2_with fail;refine hca.mono ?_;rintro e w9 ⟨rfl,v9,h9,a9,-⟩;have H9:=uH h9;have A9:=uH a9;clear hca h9 a9;go_wp2_with fail
   first | go_end0 | refine bP ?_
   exact⟨rfl,_,v9,H9.out,A9.out⟩
 ·rw[hout]at hnx hstep
  have hsn:s.next={s with ahead:=s.ahead.tail,good:=s.good+1,bad:=s.bad}:=by
   have ho:s.ahead.headD true=true:=hout;unfold Sh.next;rw[ho];rfl
  rw[hsn];simp only[if_true,Bool.false_eq_true,if_false]at hnx;clear hout hsn
  by_cases hdn:t2.st=15
  focus
   have xS:xR k m.cf who t2=(if t2.answer.1=3 then (if k.ask.wait then {K2 k (.get t2)with queue:=some (Qu.enter m.cf who),st:=4} else {K2 k (.get t2)with two:=some (Tw.new m.cf),st:=3}) else (K2 k (.get t2)).finish m.cf who {Mod.Ev.zero with e:=t2.answer.1,slot:=t2.answer.2.1,gen:=t2.answer.2.2}):=if_neg (fun e=>e hdn);rw[xS];clear xS;rw[decide_eq_true hdn]at hstep;clear hdn;obtain⟨a,ha⟩:∃ a,a=t2.answer:=⟨_,rfl⟩
   rw[<- ha];have HA:=uH ha.symm;clear ha;obtain⟨a1,a2,a3⟩:=a;dsimp only
   by_cases h3:a1=3
  focus
   subst h3;rw[if_pos rfl];cases hwt:k.ask.wait
  focus
   rw[if_neg aT];have KX:=uH hwt;clear hwt
  rotate_left
  focus
   rw[if_pos rfl];have KX:=uH hwt;clear hwt
  rotate_left
  focus
   rw[if_neg h3];have h3b:(a1 == 3)=false:=by simpa using h3
   clear h3
  rotate_left
  focus
   have xS:xR k m.cf who t2=K2 k (.get t2):=if_pos hdn;rw[xS];clear xS;rw[decide_eq_false hdn]at hstep;clear hdn
  rotate_left
  all_goals
   go_enter func120,ntmps120
   go_wp2_with fail;refine hdl.mono ?_;rintro e w4 ⟨rfl,rfl⟩;clear hdl;go_wp2_with fail;refine hnx.mono ?_;rintro e w5 ⟨rfl,Hq,YX,sG,gz⟩;have h5:=H.out.world YX sG gz;have hl5:=H.out.wK (wv:=Hq) gz HL.out;have hd5:∀ b,jo tb lo ro b->uw (In w5 (p.world W w5 Hq).ow (8+who)) b1 b2 b3 b:=fun b hb=>(HD.out b hb).mono (fun b hb=>H.out.rA gz.size hb)
   have hn0:∀ b,p.ow b≠5->¬ aO.AA p.ob p.rb p.wv b:=fun b h5 e=>h5 (H.out.core.lo b e)
   have hg5:bz w5 tb p.mb p.wb lo ro t s.ws s.tc:=HG.out.aK gz (hn0 0 (by rw[show p.ow 0=0 from H.out.core.l0.1];decide)) (fun b hb=>hn0 b (by rw[(HD.out b hb).1.2];omega)) h5.mem;clear hnx hn0 c1 c2 c3 g5 g7;have d1:w5.cell? ⟨b1,0,none⟩=some (ptr tb):=hl5.r1.cell 0;have d2:w5.cell? ⟨b2,0,none⟩=some (ptr p.gb):=hl5.r2.cell 0;have d3:w5.cell? ⟨b3,0,none⟩=some (.i who):=hl5.r3.cell 0;have d5:w5.cell? ⟨p.gb,5,none⟩=some (ptr p.mb):=h5.az 5;have hst:=hstep w5.drew (hg5.below bY);have hdr:Below w5.heap.size w5 w5.drew:=bY;have H5:=uH (h5.below hdr);have QL:=uH (hl5.aK (L':=In w5.drew (p.world W w5 Hq).ow (8+who)) (G:=fun _=>False) (aD.aF hdr) (fun _ _ e=>e) (fun b hb=>hb.mono hdr.size));have hd6:∀ b,jo tb lo ro b->uw (In w5.drew (p.world W w5 Hq).ow (8+who)) b1 b2 b3 b:=fun b hb=>(hd5 b hb).mono (fun b hb=>hb.mono hdr.size)
   have HD6:=uH hd6;clear h5 hl5 hd5 hd6 hg5 hdr;go_wp2_with fail
   go_region_held3 (fun w'=>w'.cell? ⟨b1,0,none⟩=some (ptr tb)/\w'.cell? ⟨b2,0,none⟩=some (ptr p.gb)/\w'.cell? ⟨p.gb,5,none⟩=some (ptr p.mb)) (first | go_keep | exact⟨aI,aI,aI⟩)
    ((first
    | (go_at_call 123;refine hst.mono ?_;rintro e w7 ⟨rfl,BF,BG,eG,xU,KY,nW⟩;have eG:bz w7 tb p.mb p.wb BF BG t2 jq ((s.tc+n2:Nat):Int):=eG;have h7:=H5.out.mG (fun b hb=>(HD6.out b hb).1) nW eG.mem;have hcl:=H5.out.nu QL.out HD6.out nW;have hfp:=H5.out.qj QL.out HD6.out nW.size (tu xU KY) (bz.Dc eG);have e1:w7.cell? ⟨b1,0,none⟩=some (ptr tb):=hcl.r1.cell 0;have e2:w7.cell? ⟨b2,0,none⟩=some (ptr p.gb):=hcl.r2.cell 0;have e3:w7.cell? ⟨b3,0,none⟩=some (.i who):=hcl.r3.cell 0;have e5:w7.cell? ⟨p.gb,5,none⟩=some (ptr p.mb):=h7.az 5)))
   have h8:=h7.same (k':=K2 k (.get t2)) (v':=v) (fK k _ v);clear h7 hst d1 d2 d3 d5
  rotate_left;rotate_left;rotate_left
  ·have H8:=uH h8;have A8:=uH (jN (v:=v) HK.out (show fZ w7 p.gb p.mb p.wb (In w7 (p.world W w5 Hq).ow (8+who)) who jq ((s.tc+n2:Nat):Int) m.cf (.get t2) v.work from⟨b1,b2,b3,tb,BF,BG,hcl,eG,hfp⟩));clear h8 hcl hfp eG nW;go_wp2_with fail
   first | go_end0 | refine bP ?_
   exact⟨rfl,_,v,H8.out,A8.out⟩
  all_goals
   have kG:=qw eG;rw[HA.out]at kG;dsimp only at kG;have H8:=uH h8;have yB:=uH hcl;clear h8 hcl hfp eG nW;go_wp2_with fail;refine kG.mono ?_;rintro e w8 ⟨rfl,cZ⟩;have rF:Below w8.heap.size w8 w8.drew:=bY;have h9:=(H8.out.below cZ).below rF;have hcl:=(yB.out.aK (L':=In w8 (p.world W w5 Hq).ow (8+who)) (G:=fun _=>False) (aD.aF cZ) (fun _ _ e=>e) (fun b hb=>hb.mono cZ.size))
   have q1:w8.cell? ⟨b1,0,none⟩=some (ptr tb):=hcl.r1.cell 0;have q2:w8.cell? ⟨b2,0,none⟩=some (ptr p.gb):=hcl.r2.cell 0;have q3:w8.cell? ⟨b3,0,none⟩=some (.i who):=hcl.r3.cell 0;have q9:w8.cell? ⟨p.gb,9,none⟩=some (.slice (some ⟨p.kb,0,none⟩) m.ks.length m.ks.length):=h9.az 9;have k3:w8.cell? ⟨p.kb,who * 35+3,none⟩=some (.bool k.ask.wait):=h9.aL 3 rfl
  focus
   rw[KX.out]at k3;have H9:=uH h9;clear kG cZ hcl h9 e1 e2 e3 e5 rF H8 yB;go_wp2_with fail;go_region;have hca:=sW H9.out
  rotate_left
  focus
   rw[KX.out]at k3;have H9:=uH h9;clear kG cZ hcl h9 e1 e2 e3 e5 rF H8 yB;go_wp2_with fail;go_region;have hca:=wF H9.out
  rotate_left
  focus
   have H9:=uH h9;clear kG cZ hcl h9 e1 e2 e3 e5 rF H8 yB;go_wp2_with fail;go_region;have hca:=gU H9.out {Mod.Ev.zero with e:=a1,slot:=a2,gen:=a3}
  rotate_left
  all_goals
   clear H9;go_wp2_with fail;refine hca.mono ?_;rintro e w9 ⟨rfl,v9,h9,a9,-⟩;have H9:=uH h9;have A9:=uH a9;clear hca h9 a9;go_wp2_with fail
   first | go_end0 | refine bP ?_
   exact⟨rfl,_,v9,H9.out,A9.out⟩
theorem FB {W:World} {mb wb:Nat} {ws:List Int} {tc:Int} (h:bB W mb wb ws tc) (ht:0<=tc/\tc<=4000000000000000000) (i:Nat) (hi:i < ws.length) (y z:Int):Calls prog 166 #[ptr mb,.i i,.i y,.i z] W (kR W mb wb (.bool (dF ws i y z).1) (dF ws i y z).2 (tc+1)):=by
 by_cases hx:rd ws i=y
 ·rw[oK hx];exact jv h ht i y (by rw[<- hx];exact rd_some hi) z
 ·rw[lM hx];exact jw h ht i _ (rd_some hi) y z hx
section
variable {W0 W W':World} {p0 p:Mp} {m:Mc} {who:Nat} {k k':Wk} {v v':KV} {s s':Sh}
theorem Mx.bU (h:Mx W0 p0 W p m who k v s) (hc:aD (dJ p.mb p.wb) W W') {ws:List Int} {tc:Nat} (hm:bB W' p.mb p.wb ws tc):Mx W0 p0 W' p m who k v {s with ws:=ws,tc:=tc}:=h.obj hc (fun _ _ e=>.inr e) hm
theorem Mx.GZ (h:Mx W0 p0 W p m who k v s) {b:Nat} (hb:In W p.ow (8+who) b):¬ dJ p.mb p.wb b:=by
 rintro(rfl | rfl)
 ·have h2:p.ow p.mb=2:=h.core.lm;have:=hb.2;omega
 ·have h3:p.ow p.wb=3:=h.core.lw;have:=hb.2;omega
theorem Mx.SN (h:Mx W0 p0 W p m who k v s) {b:Nat} (hb:In W p.ow (8+who) b):¬ b=p.kb:=by
 rintro rfl;have h7:p.ow p.kb=7:=h.core.lk;have:=hb.2;omega
end
structure lu (W:World) (gb who:Nat) (L:Nat->Prop) (f:Bool) (v x:Value) (b1 b2 b3 b4:Nat):Prop where
 v:v=.func (.func 170) #[] #[ptr b1,ptr b2,ptr b3,ptr b4]
 r1:af W b1 #[x] 89
 r2:af W b2 #[ptr gb] 29
 r3:af W b3 #[.i who] 3
 r4:af W b4 #[.bool f] 4
 l:L b1/\L b2/\L b3/\L b4
 ne:b1≠b2/\b1≠b3/\b1≠b4
variable {gb who:Nat}
theorem lu.aK {W W':World} {L L' G:Nat->Prop} {f:Bool} {v x:Value} {b1 b2 b3 b4:Nat} (h:lu W gb who L f v x b1 b2 b3 b4) (hc:aD G W W') (hF:∀ b,L b->(b=b1\/b=b2\/b=b3\/b=b4)->¬ G b) (hL:∀ b,L b->L' b):lu W' gb who L' f v x b1 b2 b3 b4:=
 ⟨h.v,af.aK h.r1 hc (hF _ h.l.1 (.inl rfl)),af.aK h.r2 hc (hF _ h.l.2.1 (.inr (.inl rfl))),af.aK h.r3 hc (hF _ h.l.2.2.1 (.inr (.inr (.inl rfl)))),af.aK h.r4 hc (hF _ h.l.2.2.2 (.inr (.inr (.inr rfl)))),⟨hL _ h.l.1,hL _ h.l.2.1,hL _ h.l.2.2.1,hL _ h.l.2.2.2⟩,h.ne⟩
theorem lu.below {W W':World} {L L':Nat->Prop} {f:Bool} {v x:Value} {b1 b2 b3 b4:Nat} (h:lu W gb who L f v x b1 b2 b3 b4) (hb:Below W.heap.size W W') (hL:∀ b,L b->L' b):lu W' gb who L' f v x b1 b2 b3 b4:=
 h.aK (G:=fun _=>False) (aD.aF hb) (fun _ _ _ e=>e) hL
theorem lu.SQ {W:World} {mb wb:Nat} {L:Nat->Prop} {ws:List Int} {tc:Int} {c:Cf} {f:Bool} {v:Value} (h:fZ W gb mb wb L who ws tc c (.close f none) v):∃ b1 b2 b3 b4,lu W gb who L f v (.pointer none) b1 b2 b3 b4:=by
 obtain⟨b1,b2,b3,b4,h1,h2,h3,h4,h5,h6,h7⟩:=h;exact⟨b1,b2,b3,b4,h1,h7,h2,h3,h4,h5,h6⟩
theorem lu.SS {W:World} {mb wb:Nat} {L:Nat->Prop} {ws:List Int} {tc:Int} {c:Cf} {f:Bool} {q:Qu} {v:Value} (h:fZ W gb mb wb L who ws tc c (.close f (some q)) v):∃ b1 b2 b3 b4 tb,lu W gb who L f v (ptr tb) b1 b2 b3 b4/\iX W tb mb wb q ws tc/\L tb/\(tb≠b1/\tb≠b2/\tb≠b3/\tb≠b4):=by
 obtain⟨b1,b2,b3,b4,h1,h2,h3,h4,h5,h6,tb,h7,h8,h9,h10⟩:=h;exact⟨b1,b2,b3,b4,tb,⟨h1,h7,h2,h3,h4,h5,h6⟩,h8,h9,h10⟩
theorem lu.bq {W:World} {mb wb:Nat} {L:Nat->Prop} {ws:List Int} {tc:Int} {c:Cf} {f:Bool} {q:Qu} {v:Value} {b1 b2 b3 b4 tb:Nat} (h:lu W gb who L f v (ptr tb) b1 b2 b3 b4) (h8:iX W tb mb wb q ws tc) (h9:L tb) (h10:tb≠b1/\tb≠b2/\tb≠b3/\tb≠b4):fZ W gb mb wb L who ws tc c (.close f (some q)) v:=
 ⟨b1,b2,b3,b4,h.v,h.r2,h.r3,h.r4,h.l,h.ne,tb,h.r1,h8,h9,h10⟩
theorem KP:(∀ {W0 W:World} {p0 p:Mp} {m:Mc} {who:Nat} {k:Wk} {v:KV} {s:Sh} {b1 b2 b3 b4:Nat} (h:Mx W0 p0 W p m who k v s) (hk:k.st=2) (hl:lu W p.gb who (In W p.ow (8+who)) true v.work (.pointer none) b1 b2 b3 b4) (hlen:0 < s.ws.length) (ht:(s.tc:Int)<=4000000000000000000),Calls prog 170 #[ptr b1,ptr b2,ptr b3,ptr b4] W (bV W0 p0 m who (K2 k (.close true (some (Qu.drain m.cf)))) (s.cells ((s.ws.set 0 2),1))))/\(∀ {W0 W:World} {p0 p:Mp} {m:Mc} {who:Nat} {k:Wk} {v:KV} {s:Sh} {b1 b2 b3 b4:Nat} (h:Mx W0 p0 W p m who k v s) (hk:k.st=2) (hl:lu W p.gb who (In W p.ow (8+who)) false v.work (.pointer none) b1 b2 b3 b4) (hlen:0 < s.ws.length) (ht:(s.tc:Int)<=4000000000000000000),Calls prog 170 #[ptr b1,ptr b2,ptr b3,ptr b4] W (bV W0 p0 m who (K2 k (.close false (some (Qu.drain m.cf)))) (s.cells ((dF s.ws 0 0 1).2,1)))):=by
 refine⟨?_,?_⟩
 focus
  intro W0 W p0 p m who k v s b1 b2 b3 b4 h hk hl hlen ht;have hst:Calls prog 57 #[ptr p.mb,.i 0,.i 2] W _:=gu h.mem ⟨ag,ht⟩ 0 _ (rd_some hlen) 2;have hdr:=fun W=>wH W m.cf
  simp only[Cf.val,Cf.cells]at hdr;have c1:=cV (.pointer none) (hl.r1.cell 0);have c2:=cP p.gb (hl.r2.cell 0);have c3:=cC who (hl.r3.cell 0);have c4:=cV (.bool true) (hl.r4.cell 0);have g5:=cP p.mb (h.az 5);have H:=uH h;have HL:=uH hl;have HK:=uH hk;clear h hl hk hlen ht
  go_enter func170,ntmps170
  go_wp2_with fail;refine hst.mono ?_;rintro e w1 ⟨rfl,hm1,hc1⟩;have hm1:bB w1 p.mb p.wb (s.ws.set 0 2) ((s.tc+1:Nat):Int):=hm1;have h1:=H.out.bU hc1 hm1;have hl1:=HL.out.aK (L':=In w1 p.ow (8+who)) hc1 (fun b hb _=>H.out.GZ hb) (fun b hb=>hb.mono hc1.size);have d1:=cV (.pointer none) (hl1.r1.cell 0);have d2:=cP p.gb (hl1.r2.cell 0);have d3:=cC who (hl1.r3.cell 0);have d4:=cV (.bool true) (hl1.r4.cell 0)
 rotate_left
 focus
  intro W0 W p0 p m who k v s b1 b2 b3 b4 h hk hl hlen ht;have hst:Calls prog 166 #[ptr p.mb,.i 0,.i 0,.i 1] W _:=FB h.mem ⟨ag,ht⟩ 0 hlen 0 1;have hdr:=fun W=>wH W m.cf
  simp only[Cf.val,Cf.cells]at hdr;have c1:=cV (.pointer none) (hl.r1.cell 0);have c2:=cP p.gb (hl.r2.cell 0);have c3:=cC who (hl.r3.cell 0);have c4:=cV (.bool false) (hl.r4.cell 0);have g5:=cP p.mb (h.az 5);have H:=uH h;have HL:=uH hl;have HK:=uH hk;clear h hl hk hlen ht
  go_enter func170,ntmps170
  go_wp2_with fail;refine hst.mono ?_;rintro e w1 ⟨rfl,hm1,hc1⟩;have hm1:bB w1 p.mb p.wb (dF s.ws 0 0 1).2 ((s.tc+1:Nat):Int):=hm1;have h1:=H.out.bU hc1 hm1;have hl1:=HL.out.aK (L':=In w1 p.ow (8+who)) hc1 (fun b hb _=>H.out.GZ hb) (fun b hb=>hb.mono hc1.size);have d1:=cV (.pointer none) (hl1.r1.cell 0);have d2:=cP p.gb (hl1.r2.cell 0);have d3:=cC who (hl1.r3.cell 0);have d4:=cV (.bool false) (hl1.r4.cell 0)
 rotate_left
 all_goals
  have df1:=hl1.r1.frozen 0;obtain⟨i0,i1,i2,i3,i4⟩:=cQ m.cf h1.az;have hq:=hdr w1;have H1:=uH h1;have QJ:=uH hl1;clear hst hdr hm1 hc1 h1 hl1 c1 c2 c3 c4 g5;go_wp2_with fail;refine hq.mono ?_;rintro e w2 ⟨tb,rfl,hr,hge,hb⟩;have h2:=H1.out.below hb;have hl2:=QJ.out.below (L':=In w2 p.ow (8+who)) hb (fun b hb'=>hb'.mono hb.size);have e1:=cV (.pointer none) (hl2.r1.cell 0);have ef1:=hl2.r1.frozen 0;have hn1:=QJ.out.l.1.1;have hn2:=QJ.out.l.2.1.1;have Sw:=QJ.out.l.2.2.1.1;have Oj:=QJ.out.l.2.2.2.1;have how:p.ow tb=8+who:=H1.out.fresh tb hge;have hne:=QJ.out.ne;have hc3:aD (fun b=>b=b1) w2 (w2.setCell ⟨b1,0,none⟩ (ptr tb)):=(aD.refl _ _).setCell _ _ (fun _=>rfl);have UU:bB (w2.setCell ⟨b1,0,none⟩ (ptr tb)) p.mb p.wb _ _:=h2.mem.aK hc3 (fun e=>h2.GZ hl2.l.1 (.inl e.symm)) (fun e=>h2.GZ hl2.l.1 (.inr e.symm))
  have h3:=h2.obj hc3 (fun b _ e=>.inl (by rw[e];exact hl2.l.1.2)) UU;have hq3:iX (w2.setCell ⟨b1,0,none⟩ (ptr tb)) tb p.mb p.wb (Qu.drain m.cf) _ _:=⟨af.aK hr hc3 ag,UU,h3.apart how⟩
 focus
  have hl3:lu (w2.setCell ⟨b1,0,none⟩ (ptr tb)) p.gb who (In (w2.setCell ⟨b1,0,none⟩ (ptr tb)) p.ow (8+who)) true v.work (ptr tb) b1 b2 b3 b4:=⟨hl2.v,af.aB hl2.r1 0 (ptr tb),af.aK hl2.r2 hc3 (fun e=>hne.1 e.symm),af.aK hl2.r3 hc3 (fun e=>hne.2.1 e.symm),af.aK hl2.r4 hc3 (fun e=>hne.2.2 e.symm),⟨hl2.l.1.mono hc3.size,hl2.l.2.1.mono hc3.size,hl2.l.2.2.1.mono hc3.size,hl2.l.2.2.2.mono hc3.size⟩,hl2.ne⟩
  have ht3:In (w2.setCell ⟨b1,0,none⟩ (ptr tb)) p.ow (8+who) tb:=⟨af.lt hq3.row,how⟩
  have H3:=uH (h3.same (k':=K2 k (.close true (some (Qu.drain m.cf)))) (v':=v) (fK k _ v))
 rotate_left
 focus
  have hl3:lu (w2.setCell ⟨b1,0,none⟩ (ptr tb)) p.gb who (In (w2.setCell ⟨b1,0,none⟩ (ptr tb)) p.ow (8+who)) false v.work (ptr tb) b1 b2 b3 b4:=⟨hl2.v,af.aB hl2.r1 0 (ptr tb),af.aK hl2.r2 hc3 (fun e=>hne.1 e.symm),af.aK hl2.r3 hc3 (fun e=>hne.2.1 e.symm),af.aK hl2.r4 hc3 (fun e=>hne.2.2 e.symm),⟨hl2.l.1.mono hc3.size,hl2.l.2.1.mono hc3.size,hl2.l.2.2.1.mono hc3.size,hl2.l.2.2.2.mono hc3.size⟩,hl2.ne⟩
  have ht3:In (w2.setCell ⟨b1,0,none⟩ (ptr tb)) p.ow (8+who) tb:=⟨af.lt hq3.row,how⟩
  have H3:=uH (h3.same (k':=K2 k (.close false (some (Qu.drain m.cf)))) (v':=v) (fK k _ v))
 rotate_left
 all_goals
  have A3:=uH (jN (v:=v) HK.out (hl3.bq (c:=m.cf) hq3 ht3 ag));clear h2 hl2 h3 hl3 hq3 UU hc3 ht3 hr hge hb hq how hne hn1 hn2 Sw Oj;go_wp2_with fail
  first | go_end0 | refine bP ?_
  exact⟨rfl,p,v,H3.out,A3.out⟩
def uV:=@And.left _ _ KP
def tq:=@And.right _ _ KP
theorem KQ:(∀ {W0 W:World} {p0 p:Mp} {m:Mc} {who:Nat} {k:Wk} {v:KV} {s:Sh} {f:Bool} {q:Qu} {b1 b2 b3 b4 tb:Nat} (h:Mx W0 p0 W p m who k v s) (hk:k.st=2) (hl:lu W p.gb who (In W p.ow (8+who)) f v.work (ptr tb) b1 b2 b3 b4) (hg:iX W tb p.mb p.wb q s.ws s.tc) (hL:In W p.ow (8+who) tb) (hne:tb≠b1/\tb≠b2/\tb≠b3/\tb≠b4) (ok:fH m.cf q) (hM:aA m.cf) (hm:vC m.cf s.ws) (ht:(s.tc:Int)<=4000000000000000000) (eZ:q.st<=7) (hdn:(q.step s.ws).1.st=8),Calls prog 170 #[ptr b1,ptr b2,ptr b3,ptr b4] W (bV W0 p0 m who ((K2 k (.close f (some (q.step s.ws).1))).finish m.cf who Mod.Ev.zero) (s.cells (q.step s.ws).2)))/\(∀ {W0 W:World} {p0 p:Mp} {m:Mc} {who:Nat} {k:Wk} {v:KV} {s:Sh} {f:Bool} {q:Qu} {b1 b2 b3 b4 tb:Nat} (h:Mx W0 p0 W p m who k v s) (hk:k.st=2) (hl:lu W p.gb who (In W p.ow (8+who)) f v.work (ptr tb) b1 b2 b3 b4) (hg:iX W tb p.mb p.wb q s.ws s.tc) (hL:In W p.ow (8+who) tb) (hne:tb≠b1/\tb≠b2/\tb≠b3/\tb≠b4) (ok:fH m.cf q) (hM:aA m.cf) (hm:vC m.cf s.ws) (ht:(s.tc:Int)<=4000000000000000000) (eZ:q.st<=7) (hdn:¬ (q.step s.ws).1.st=8),Calls prog 170 #[ptr b1,ptr b2,ptr b3,ptr b4] W (bV W0 p0 m who (K2 k (.close f (some (q.step s.ws).1))) (s.cells (q.step s.ws).2))):=by
 refine⟨?_,?_⟩
 focus
  intro W0 W p0 p m who k v s f q b1 b2 b3 b4 tb h hk hl hg hL hne ok hM hm ht eZ hdn;have hcf:=ok.cf;have hst:=gy (hg.below bY) (by rw[hcf];exact ok) (by rw[hcf];exact hM) (by rw[hcf];exact hm) ⟨ag,ht⟩ eZ;rw[decide_eq_true hdn]at hst
 rotate_left
 focus
  intro W0 W p0 p m who k v s f q b1 b2 b3 b4 tb h hk hl hg hL hne ok hM hm ht eZ hdn;have hcf:=ok.cf;have hst:=gy (hg.below bY) (by rw[hcf];exact ok) (by rw[hcf];exact hM) (by rw[hcf];exact hm) ⟨ag,ht⟩ eZ;rw[decide_eq_false hdn]at hst
 rotate_left
 all_goals
  obtain⟨r,hr⟩:∃ r,r=q.step s.ws:=⟨_,rfl⟩
  rw[<- hr]at hst ⊢;clear hr hdn;obtain⟨g2,jq,n2⟩:=r;dsimp only at hst ⊢;have c1:=cP tb (hl.r1.cell 0);have c2:=cP p.gb (hl.r2.cell 0);have c3:=cC who (hl.r3.cell 0);have c4:=cV (.bool f) (hl.r4.cell 0);have g5:=cP p.mb (h.az 5);have hdr:Below W.heap.size W W.drew:=bY;have H:=uH (h.below hdr);have HL:=uH (hl.below (L':=In W.drew p.ow (8+who)) hdr (fun b hb=>hb.mono hdr.size));have HI:RowKit.Hid (In W.drew p.ow (8+who) tb):=uH (hL.mono hdr.size);have HK:=uH hk;have HN:=uH hne;clear h hl hL hk hne hdr ok hM hm ht eZ hcf hg
  go_enter func170,ntmps170
  go_wp2_with fail
  go_region_held3 (fun w'=>w'.cell? ⟨b1,0,none⟩=some (ptr tb)/\w'.cell? ⟨b2,0,none⟩=some (ptr p.gb)/\w'.cell? ⟨p.gb,5,none⟩=some (ptr p.mb)) (first | go_keep | exact⟨aI,aI,aI⟩)
   ((first
   | (go_at_call 89;refine hst.mono ?_;rintro e w5 ⟨rfl,jD,gz⟩;have eG:iX w5 tb p.mb p.wb g2 jq ((s.tc+n2:Nat):Int):=jD;have h5:=H.out.mG (fp:=fun b=>b=tb) (fun b hb=>by rw[hb];exact HI.out) gz eG.mem;have hl5:=HL.out.aK (L':=In w5 p.ow (8+who)) gz (fun b hb hbb e=>e.elim (fun e=>by have:=HN.out;rcases hbb with r | r | r | r<;>(rw[e]at r;omega)) (fun e=>H.out.GZ hb e)) (fun b hb=>hb.mono gz.size);have d1:=cP tb (hl5.r1.cell 0);have d2:=cP p.gb (hl5.r2.cell 0);have d3:=cC who (hl5.r3.cell 0);have d4:=cV (.bool f) (hl5.r4.cell 0);have d5:=cP p.mb (h5.az 5))))
  have h6:=h5.same (k':=K2 k (.close f (some g2))) (v':=v) (fK k _ v)
 ·have hen:=gU h6 Mod.Ev.zero;clear h5 h6 hl5 eG gz jD hst c1 c2 c3 c4 g5;go_wp2_with fail;refine hen.mono ?_;rintro e w9 ⟨rfl,v9,h9,a9,-⟩;have H9:=uH h9;have A9:=uH a9;clear hen h9 a9;go_wp2_with fail
  first | go_end0 | refine bP ?_
  exact⟨rfl,p,v9,H9.out,A9.out⟩
 ·have H6:=uH h6;have A6:=uH (jN (v:=v) HK.out (hl5.bq (c:=m.cf) eG (HI.out.mono gz.size) HN.out));clear h5 h6 hl5 eG gz jD hst;go_wp2_with fail
  first | go_end0 | refine bP ?_
  exact⟨rfl,p,v,H6.out,A6.out⟩
def DU:=@And.left _ _ KQ
def G5:=@And.right _ _ KQ
end Mc
namespace Mc
open Go.RowKit Hp ah aj Slot ai Tk Cl
theorem DR (W:World) (word:Int) (d:Nat) (own:Int) (hd:iw d) (hL:Laid W):
  Calls prog 55 #[.i word,.i d,.i own] W fun e W'=>
   e=.returned (.tuple #[.i (wG (nx word d own 0)),.bool (nx word d own 0).isSome])/\Below W.heap.size W W':=by
 have hdc:=aS W word hL
 cases hdw:dec word with
 | none=>
  rw[hdw]at hdc;rw[zo hdw];simp only[Option.getD_none,Option.isSome_none,wG]at hdc ⊢
  go_enter func55,ntmps55
  go_wp2_with fail;refine hdc.mono ?_;rintro e w5 ⟨rfl,hb5⟩;clear hdc;dsimp only;go_step;refine gl (.tuple #[S.zero.val,.bool false]) ?_;refine gl S.zero.val ?_;refine gl (.bool false) ?_;refine dU (ob:=.cells av 57) (Z:=av) (cs:=S.zero.cells) (t:=57) 57 (.tmp 8) (.tmp 13) rfl ?_;refine gl (.bool false) (ay ?_)
  rw[aG];have hB:Below W.heap.size W (w5.alloc (.cells S.zero.cells 57)):=hb5.alloc hb5.size _;generalize (w5.alloc (.cells S.zero.cells 57))=wa at *;go_wp2_with fail;go_ret2;exact⟨rfl,hB⟩
 | some s=>
  rw[hdw]at hdc;rw[zq hdw];simp only[Option.getD_some,Option.isSome_some]at hdc;have xG:=(gM hdw).1;have hnr:=fun s' (h:Tk.bC s d own 0=some s')=>Tk.fC (iw.x hd) h
  have hnx:=fun w' hL=>oJ w' s d own 0 hd xG hL
  generalize Tk.bC s d own 0=N at *
  go_enter func55,ntmps55
  go_wp2_with fail;refine hdc.mono ?_;rintro e w5 ⟨rfl,hb5⟩;clear hdc;dsimp only;go_step;refine gl (.tuple #[s.val,.bool true]) ?_;refine gl s.val ?_;refine gl (.bool true) ?_;refine dU (ob:=.cells av 57) (Z:=av) (cs:=s.cells) (t:=57) 57 (.tmp 8) (.tmp 13) rfl ?_;refine gl (.bool true) (ay ?_)
  rw[aG];have hB:Below W.heap.size W (w5.alloc (.cells s.cells 57)):=hb5.alloc hb5.size _;have hs:af (w5.alloc (.cells s.cells 57)) w5.heap.size s.cells 57:=heap_alloc_new w5 _;have hsb:=hb5.size;generalize (w5.alloc (.cells s.cells 57))=wa at *;generalize w5.heap.size=sb at *;have VP:∀ w',Below W.heap.size W w'->Laid w':=fun w' hb=>hL.stable (hb.block 0 (hL.lt aT))
  have hnx:=hnx wa (VP _ hB);clear hb5 hL;go_upto_region 4 with(fail);refine wp_region_lit ?_;refine grow hs 57 (.tmp 8) underlying57 ?_;refine gl (.i d) ?_;refine gl (.i own) (ay ?_)
  refine pM 72 #[.tmp 18,.tmp 19,.tmp 20,.const (.i 0)] #[57,3,3,3] #[s.val,.i d,.i own,.i 0] (aH func72) ?_;refine hnx.mono ?_;rintro e w6 ⟨rfl,hb6⟩;refine⟨_,rfl,?_⟩;have kS:=hB.trans (hb6.mono hB.size);have hs6:af w6 sb s.cells 57:=af.below (w:=wa) hs hb6;clear hs hnx hb6 hB;dsimp only;refine gl (.tuple #[(N.getD S.zero).val,.bool N.isSome]) ?_;refine gl (N.getD S.zero).val ?_;refine gl (.bool N.isSome) (ay ?_)
  refine uR hs6 (N.getD S.zero).cells 57 (.tmp 8) (.tmp 22) ?_;refine gl (.bool N.isSome) (ay ?_)
  have hs7:af (w6.setRow sb (N.getD S.zero).cells) sb (N.getD S.zero).cells 57:=hs6.set _;have kN:Below W.heap.size W (w6.setRow sb (N.getD S.zero).cells):=bX kS ag _;generalize (w6.setRow sb (N.getD S.zero).cells)=wb at *;clear hs6 kS
  cases N with
  | none=>
   simp only[Option.getD_none,Option.isSome_none,wG]at *;go_wp2_with fail;go_ret2;exact⟨rfl,kN⟩
  | some n=>
   simp only[Option.getD_some,Option.isSome_some,wG]at *;have hen:=fP wb n (VP _ kN) (hnr n rfl);go_upto_region 7 with(fail);refine wp_region_lit ?_;refine grow hs7 57 (.tmp 8) underlying57 (ay ?_)
   refine pM 73 #[.tmp 26] #[57] #[n.val] (aH func73) ?_;refine hen.mono ?_;rintro e w8 ⟨rfl,cZ⟩;refine⟨_,rfl,?_⟩;have SL:=kN.trans (cZ.mono kN.size);clear hs7 kN hen cZ;dsimp only;refine gl (.i n.word) ?_;refine gl (.bool true) ?_;refine gl (.i n.word) ?_;refine gl (.bool true) (ay ?_)
   go_wp2_with fail;go_ret2;exact⟨rfl,SL⟩
theorem Oh (word:Int) (d:Nat) (own more:Int):bn word d own more=(nx word d own more).map S.word:=by unfold bn nx;cases dec word<;>rfl
theorem kW (W:World) (word:Int) (d:Nat) (own:Int) (hd:iw d) (hL:Laid W):Calls prog 55 #[.i word,.i d,.i own] W fun e W'=>
  e=.returned (.tuple #[.i ((bn word d own 0).getD 0),.bool (bn word d own 0).isSome])/\Below W.heap.size W W':=by
 have h:=DR W word d own hd hL;rw[Oh]
 cases hn:nx word d own 0 with
 | none=>rw[hn]at h;exact h
 | some s=>rw[hn]at h;exact h
def pz (r:Rp) (fb:Nat) (ro:Option Nat):Array Value:=#[.i r.st,.i r.many,ptr fb,fJ ro]
section
variable {W W':World} {ab mb wb fb:Nat} {ro:Option Nat} {c:Cf} {r:Rp} {ws aC:List Int} {tc eX:Int}
theorem gm.lt (h:gm W ab mb wb fb ro c r ws tc):ab < W.heap.size:=af.lt h.row
theorem gm.cell (h:gm W ab mb wb fb ro c r ws tc) (i:Nat):W.cell? ⟨ab,i,none⟩=(pz r fb ro)[i]?:=af.cell h.row i
theorem gm.frozen (h:gm W ab mb wb fb ro c r ws tc) (i:Nat):W.frozen? ⟨ab,i,none⟩=false:=af.frozen h.row i
theorem gm.Dc (h:gm W ab mb wb fb ro c r ws tc):∀ b,jo ab (some fb) ro b->b < W.heap.size:=by
 rintro b (rfl | e | e)
 ·exact h.lt
 ·cases e;exact h.look.lt
 ·exact(h.ra b e).2.2.2
theorem gm.below (h:gm W ab mb wb fb ro c r ws tc) (hb:Below W.heap.size W W'):gm W' ab mb wb fb ro c r ws tc:=
 h.aK (G:=fun _=>False) (aD.aF hb) (fun e=>e) (fun _ _ e=>e) (h.mem.below hb)
theorem gm.put (h:gm W ab mb wb fb ro c r ws tc) (i:Nat) (v:Value) (r':Rp) (hrow:(pz r fb ro).setIfInBounds i v=pz r' fb ro) (hl:r'.look=r.look) (hr:r'.rt=r.rt):gm (W.setCell ⟨ab,i,none⟩ v) ab mb wb fb ro c r' ws tc:=by
 have hc:aD (fun k=>k=ab) W (W.setCell ⟨ab,i,none⟩ v):=(aD.refl _ _).setCell _ _ (fun _=>rfl);have hs:=hc.size;refine⟨?_,?_,?_,h.fa,?_,h.mem.far ab i v (fun e=>h.ap.m e.symm) (fun e=>h.ap.w e.symm),h.ap,h.laid.stable (hc.block 0 (h.laid.lt aT) h.ap.f0)⟩
 ·have:=af.aB h.row i v;rw[show(#[.i r.st,.i r.many,ptr fb,fJ ro]:Array Value)=pz r fb ro from rfl,hrow]at this;exact this
 ·rw[hl];exact h.look.aK hc h.fa.2
 ·intro x hx;rw[hr]at hx;obtain⟨b,h1,h2⟩:=h.ret x hx;exact⟨b,h1,h2.aK hc (h.ra b h1).2.1⟩
 ·intro b hb;obtain⟨h1,h2,h3,h4⟩:=h.ra b hb;exact⟨h1,h2,h3,ag⟩
theorem gm.jI (h:gm W ab mb wb fb ro c r ws tc) (hc:aD (fun k=>k=fb\/dJ mb wb k) W W') {f:Tk.Fd} (hf:bQ W' fb c f) (hm:bB W' mb wb aC eX):gm W' ab mb wb fb ro c {r with look:=f} aC eX:=by
 have hs:=hc.size;refine⟨af.aK h.row hc (fun e=>e.elim (fun e=>h.fa.2 e.symm) (fun e=>e.elim h.ap.m h.ap.w)),hf,?_,h.fa,?_,hm,h.ap,h.laid.stable (hc.block 0 (h.laid.lt aT) (fun e=>e.elim h.fa.1.f0 (fun e=>e.elim h.ap.m0 h.ap.w0)))⟩
 ·intro x hx;obtain⟨b,h1,h2⟩:=h.ret x hx;have h3:=h.ra b h1;exact⟨b,h1,h2.aK hc (fun e=>e.elim (fun e=>h3.2.2.1 e) (fun e=>e.elim h3.1.m h3.1.w))⟩
 ·intro b hb;obtain⟨h1,h2,h3,h4⟩:=h.ra b hb;exact⟨h1,h2,h3,ag⟩
theorem gm.lK (h:gm W ab mb wb fb ro c r ws tc) {rb:Nat} (hl:ro=some rb) (hc:aD (fun k=>k=rb\/dJ mb wb k) W W') {x:Rt} (hf:cK W' rb x) (hm:bB W' mb wb aC eX):gm W' ab mb wb fb ro c {r with rt:=some x} aC eX:=by
 have hs:=hc.size;have hr:=h.ra rb hl;refine⟨af.aK h.row hc (fun e=>e.elim (fun e=>hr.2.1 e.symm) (fun e=>e.elim h.ap.m h.ap.w)),h.look.aK hc (fun e=>e.elim (fun e=>hr.2.2.1 e.symm) (fun e=>e.elim h.fa.1.m h.fa.1.w)),?_,h.fa,?_,hm,h.ap,h.laid.stable (hc.block 0 (h.laid.lt aT) (fun e=>e.elim hr.1.f0 (fun e=>e.elim h.ap.m0 h.ap.w0)))⟩
 ·intro y hy;cases hy;exact⟨rb,hl,hf⟩
 ·intro b hb;obtain⟨h1,h2,h3,h4⟩:=h.ra b hb;exact⟨h1,h2,h3,ag⟩
theorem gm.mW (h:gm W ab mb wb fb ro c r ws tc) {rb:Nat} {x:Rt} (hf:cK W rb x) (ha:Apart rb mb wb) (h1:rb≠ab) (h2:rb≠fb):gm (W.setCell ⟨ab,3,none⟩ (ptr rb)) ab mb wb fb (some rb) c {r with rt:=some x} ws tc:=by
 have hc:aD (fun k=>k=ab) W (W.setCell ⟨ab,3,none⟩ (ptr rb)):=(aD.refl _ _).setCell _ _ (fun _=>rfl);have hs:=hc.size;refine⟨af.aB h.row 3 (ptr rb),h.look.aK hc h.fa.2,?_,h.fa,?_,h.mem.far ab 3 _ (fun e=>h.ap.m e.symm) (fun e=>h.ap.w e.symm),h.ap,h.laid.stable (hc.block 0 (h.laid.lt aT) h.ap.f0)⟩
 ·intro y hy;cases hy;exact⟨rb,rfl,hf.aK hc h1⟩
 ·intro b hb;cases hb;exact⟨ha,h1,h2,by have:=hf.lt;omega⟩
theorem gm.bU (h:gm W ab mb wb fb ro c r ws tc) (hc:aD (dJ mb wb) W W') (hm:bB W' mb wb aC eX):gm W' ab mb wb fb ro c r aC eX:=by
 refine h.aK hc (fun e=>e.elim h.ap.m0 h.ap.w0) (fun k hk e=>?_) hm
 rcases hk with rfl | hk | hk
 ·exact e.elim h.ap.m h.ap.w
 ·cases hk;exact e.elim h.fa.1.m h.fa.1.w
 ·exact e.elim (h.ra k hk).1.m (h.ra k hk).1.w
end
theorem rM {W:World} {ab mb wb fb:Nat} {ro:Option Nat} {c:Cf} {r:Rp} {ws:List Int} {tc:Int} (h:gm W ab mb wb fb ro c r ws tc) (hat:r.look.at'<=1000):Calls prog 167 #[ptr ab] W fun e W'=>e=.returned (.tuple #[])/\gm W' ab mb wb fb ro c r.kC ws tc/\aD (fun b=>b=ab\/b=fb) W W':=by
 have c2:=cP fb (h.cell 2);have hgo:=sI h.look hat;have H:=uH h;clear h hat
 go_enter func167,ntmps167
 go_wp2_with fail;refine hgo.mono ?_;rintro e w1 ⟨rfl,hf1,hc1⟩;have h1:=H.out.jI (hc1.mono (fun b _ e=>.inl e)) hf1 (H.out.mem.stable (hc1.block _ H.out.mem.lt.1 (fun e=>H.out.fa.1.m e.symm)) (hc1.block _ H.out.mem.lt.2 (fun e=>H.out.fa.1.w e.symm)));have d0:=cC r.st (h1.cell 0);have df0:=h1.frozen 0;have H1:=uH h1;have HC:=uH (hc1.mono (G:=fun b=>b=ab\/b=fb) (fun b _ e=>.inr e));clear hgo hf1 hc1 h1;go_wp2_with fail
 first | go_end0 | refine bP ?_
 exact⟨rfl,H1.out.put 0 (.i 0) r.kC rfl rfl rfl,HC.out.setCell _ _ (fun _=>.inl rfl)⟩
structure gJ (W0:World) (p0:Mp) (W:World) (p:Mp) (m:Mc) (who:Nat) (k:Wk) (v:KV) (s:Sh) (b1 b2 b3 ab fb:Nat) (ro:Option Nat) (r:Rp):Prop where
 mx:Mx W0 p0 W p m who k v s
 Rc:qa W p.gb who (In W p.ow (8+who)) 162 v.work (ptr ab) 193 b1 b2 b3
 at':gm W ab p.mb p.wb fb ro m.cf r s.ws s.tc
 own:∀ b,jo ab (some fb) ro b->uw (In W p.ow (8+who)) b1 b2 b3 b
 hk:k.st=2
section
variable {W0 W W':World} {p0 p:Mp} {m:Mc} {who:Nat} {k:Wk} {v:KV} {s:Sh} {b1 b2 b3 ab fb:Nat} {ro:Option Nat} {r:Rp}
theorem gJ.aK (h:gJ W0 p0 W p m who k v s b1 b2 b3 ab fb ro r) {G:Nat->Prop} (hc:aD G W W') (hG:∀ b,G b->jo ab (some fb) ro b\/dJ p.mb p.wb b) {ro':Option Nat} {r':Rp} {ws:List Int} {tc:Nat} (hn:∀ b,ro'=some b->ro=some b\/W.heap.size<=b)
  (ha:gm W' ab p.mb p.wb fb ro' m.cf r' ws tc):gJ W0 p0 W' p m who k v {s with ws:=ws,tc:=tc} b1 b2 b3 ab fb ro' r':=by
 have hc':aD (fun b=>jo ab (some fb) ro b\/dJ p.mb p.wb b) W W':=hc.mono (fun b _ e=>hG b e);refine⟨h.mx.mG (fun b hb=>(h.own b hb).1) hc' ha.mem,h.mx.nu h.Rc h.own hc',ha,h.mx.qj h.Rc h.own hc.size (fun b hb=>?_) ha.Dc,h.hk⟩
 rcases hb with e | e | e
 ·exact .inl (.inl e)
 ·exact .inl (.inr (.inl e))
 ·exact(hn b e).imp (fun e=>.inr (.inr e)) id
theorem gJ.below (h:gJ W0 p0 W p m who k v s b1 b2 b3 ab fb ro r) (hb:Below W.heap.size W W'):gJ W0 p0 W' p m who k v s b1 b2 b3 ab fb ro r:=
 h.aK (G:=fun _=>False) (aD.aF hb) (fun _ e=>e.elim) (fun _ e=>.inl e) (h.at'.below hb)
theorem gJ.put (h:gJ W0 p0 W p m who k v s b1 b2 b3 ab fb ro r) (i:Nat) (u:Value) (r':Rp) (hrow:(pz r fb ro).setIfInBounds i u=pz r' fb ro) (hl:r'.look=r.look) (hr:r'.rt=r.rt):gJ W0 p0 (W.setCell ⟨ab,i,none⟩ u) p m who k v s b1 b2 b3 ab fb ro r':=
 h.aK (G:=fun b=>b=ab) ((aD.refl _ _).setCell _ _ (fun _=>rfl)) (fun b e=>.inl (.inl e)) (fun _ e=>.inl e) (h.at'.put i u r' hrow hl hr)
theorem gJ.jI (h:gJ W0 p0 W p m who k v s b1 b2 b3 ab fb ro r) (hc:aD (fun b=>b=fb\/dJ p.mb p.wb b) W W') {f:Tk.Fd} (hf:bQ W' fb m.cf f) {ws:List Int} {tc:Nat} (hm:bB W' p.mb p.wb ws tc):gJ W0 p0 W' p m who k v {s with ws:=ws,tc:=tc} b1 b2 b3 ab fb ro {r with look:=f}:=
 h.aK hc (fun b e=>e.imp (fun e=>.inr (.inl (by rw[e]))) id) (fun _ e=>.inl e) (h.at'.jI hc hf hm)
theorem gJ.lK (h:gJ W0 p0 W p m who k v s b1 b2 b3 ab fb ro r) {rb:Nat} (hl:ro=some rb) (hc:aD (fun b=>b=rb\/dJ p.mb p.wb b) W W') {x:Rt} (hf:cK W' rb x) {ws:List Int} {tc:Nat} (hm:bB W' p.mb p.wb ws tc):gJ W0 p0 W' p m who k v {s with ws:=ws,tc:=tc} b1 b2 b3 ab fb ro {r with rt:=some x}:=
 h.aK hc (fun b e=>e.imp (fun e=>.inr (.inr (by rw[e];exact hl))) id) (fun _ e=>.inl e) (h.at'.lK hl hc hf hm)
theorem gJ.bU (h:gJ W0 p0 W p m who k v s b1 b2 b3 ab fb ro r) (hc:aD (dJ p.mb p.wb) W W') {ws:List Int} {tc:Nat} (hm:bB W' p.mb p.wb ws tc):gJ W0 p0 W' p m who k v {s with ws:=ws,tc:=tc} b1 b2 b3 ab fb ro r:=
 h.aK hc (fun b e=>.inr e) (fun _ e=>.inl e) (h.at'.bU hc hm)
theorem gJ.kC (h:gJ W0 p0 W p m who k v s b1 b2 b3 ab fb ro r) (hc:aD (fun b=>b=ab\/b=fb) W W') {r':Rp} (ha:gm W' ab p.mb p.wb fb ro m.cf r' s.ws s.tc):gJ W0 p0 W' p m who k v s b1 b2 b3 ab fb ro r':=
 h.aK hc (fun b e=>.inl (e.elim (fun e=>.inl e) (fun e=>.inr (.inl (by rw[e]))))) (fun _ e=>.inl e) ha
theorem gJ.mW (h:gJ W0 p0 W p m who k v s b1 b2 b3 ab fb ro r) {rb:Nat} {x:Rt} (hf:cK W' rb x) (hb:Below W.heap.size W W') (hge:W.heap.size<=rb):gJ W0 p0 (W'.setCell ⟨ab,3,none⟩ (ptr rb)) p m who k v s b1 b2 b3 ab fb (some rb) {r with rt:=some x}:=by
 have h':=h.below hb;have hl:=h.at'.lt;have hlf:=h.at'.look.lt;have hap:=h.mx.apart (h.mx.fresh rb hge);have ha:=h'.at'.mW hf hap ag ag;refine h.aK (G:=fun b=>b=ab) ?_ (fun b e=>.inl (.inl e)) (fun b e=>?_) ha
 ·exact(aD.aF (F:=fun b=>b=ab) hb).setCell _ _ (fun _=>rfl)
 ·cases e;exact .inr hge
theorem gJ.world (h:gJ W0 p0 W p m who k v s b1 b2 b3 ab fb ro r) {wv:Value} {l:List Bool} {g b:Nat} (hw:aO.nV W' p.ob p.rb wv l g b) (hf:∀ k,Fp wv k->Fp p.wv k\/W.heap.size<=k) (hc:aD (aO.AA p.ob p.rb p.wv) W W'):
  gJ W0 p0 W' (p.world W W' wv) m who k v {s with ahead:=l,good:=g,bad:=b} b1 b2 b3 ab fb ro r:=by
 have hn0:∀ b,p.ow b≠5->¬ aO.AA p.ob p.rb p.wv b:=fun b h5 e=>h5 (h.mx.core.lo b e)
 have h5:=h.mx.world hw hf hc;refine⟨h5,h.mx.wK hc h.Rc,?_,fun b hb=>(h.own b hb).mono (fun b hb=>h.mx.rA hc.size hb),h.hk⟩;exact h.at'.aK hc (hn0 0 (by rw[show p.ow 0=0 from h.mx.core.l0.1];decide)) (fun b hb=>hn0 b (by rw[(h.own b hb).1.2];omega)) h5.mem
theorem gJ.post (h:gJ W0 p0 W p m who k v s b1 b2 b3 ab fb ro r):bV W0 p0 m who (K2 k (.bO r)) s (.returned (.tuple #[])) W:=
 ⟨rfl,p,v,h.mx.same (fK k _ v),jN h.hk (show fZ W p.gb p.mb p.wb (In W p.ow (8+who)) who s.ws s.tc m.cf (.bO r) v.work from⟨b1,b2,b3,ab,fb,ro,h.Rc,h.at',h.own⟩)⟩
theorem gJ.c1 (h:gJ W0 p0 W p m who k v s b1 b2 b3 ab fb ro r):W.cell? ⟨b1,0,none⟩=some (ptr ab):=h.Rc.r1.cell 0
theorem gJ.c2 (h:gJ W0 p0 W p m who k v s b1 b2 b3 ab fb ro r):W.cell? ⟨b2,0,none⟩=some (ptr p.gb):=h.Rc.r2.cell 0
theorem gJ.c3 (h:gJ W0 p0 W p m who k v s b1 b2 b3 ab fb ro r):W.cell? ⟨b3,0,none⟩=some (.i who):=h.Rc.r3.cell 0
theorem gJ.a0 (h:gJ W0 p0 W p m who k v s b1 b2 b3 ab fb ro r):W.cell? ⟨ab,0,none⟩=some (.i r.st):=h.at'.cell 0
theorem gJ.a1 (h:gJ W0 p0 W p m who k v s b1 b2 b3 ab fb ro r):W.cell? ⟨ab,1,none⟩=some (.i r.many):=h.at'.cell 1
theorem gJ.a2 (h:gJ W0 p0 W p m who k v s b1 b2 b3 ab fb ro r):W.cell? ⟨ab,2,none⟩=some (ptr fb):=h.at'.cell 2
theorem gJ.a3 (h:gJ W0 p0 W p m who k v s b1 b2 b3 ab fb ro r):W.cell? ⟨ab,3,none⟩=some (fJ ro):=h.at'.cell 3
theorem gJ.g5 (h:gJ W0 p0 W p m who k v s b1 b2 b3 ab fb ro r):W.cell? ⟨p.gb,5,none⟩=some (ptr p.mb):=h.mx.az 5
theorem gJ.g7 (h:gJ W0 p0 W p m who k v s b1 b2 b3 ab fb ro r):W.cell? ⟨p.gb,7,none⟩=some (ptr p.ob):=h.mx.az 7
end
theorem gJ.kb {W0 W W':World} {p0 p:Mp} {m:Mc} {who:Nat} {k:Wk} {v:KV} {s:Sh} {b1 b2 b3 ab fb:Nat} {ro:Option Nat} {r:Rp} (h:gJ W0 p0 W p m who k v s b1 b2 b3 ab fb ro r) (hc:aD (fun b=>b=p.kb) W W'):
  W'.cell? ⟨b1,0,none⟩=some (ptr ab)/\W'.cell? ⟨b2,0,none⟩=some (ptr p.gb)/\W'.cell? ⟨b3,0,none⟩=some (.i who)/\W'.cell? ⟨ab,1,none⟩=some (.i r.many):=by
 have hcl:=h.mx.QI hc h.Rc;refine⟨hcl.r1.cell 0,hcl.r2.cell 0,hcl.r3.cell 0,?_⟩;exact(af.cell (af.aK h.at'.row hc (h.mx.SN (h.own ab (.inl rfl)).1)) 1)
section
variable {W0 W:World} {p0 p:Mp} {m:Mc} {who:Nat} {k:Wk} {v:KV} {s:Sh} {b1 b2 b3 ab fb:Nat} {ro:Option Nat} {r:Rp}
theorem tO (X:gJ W0 p0 W p m who k v s b1 b2 b3 ab fb ro r) (hst:r.st=0) (ok:nL m.cf r) (hM:aA m.cf) (hlen:s.ws.length=sc m.cf (ns m.cf)) (ht:(s.tc:Int)<=4000000000000000000) (hf:(r.look.step m.cf s.ws).2.1.found=true):
  Calls prog 162 #[ptr b1,ptr b2,ptr b3] W (bV W0 p0 m who (K2 k (.bO {r with look:=(r.look.step m.cf s.ws).2.1,st:=1})) (s.cells (s.ws,(r.look.step m.cf s.ws).2.2))):=by
 have hstp:=oF (X.below bY).mx.laid (X.below bY).at'.look (X.below bY).mx.mem ⟨⟨by have:=hM.w;omega,by have:=hM.w;omega⟩,⟨by have:=hM.s;omega,by have:=hM.s;omega⟩⟩ (X.below bY).at'.fa.1 ⟨ag,ht⟩ ok.look (by rw[hlen];rfl);obtain⟨q,hq⟩:∃ q,q=r.look.step m.cf s.ws:=⟨_,rfl⟩
 rw[<- hq]at hstp hf ⊢;clear hq;obtain⟨en,f2,n2⟩:=q;dsimp only at hstp hf ⊢;have c1:=cP ab X.c1;have c2:=cP p.gb X.c2;have c3:=cC who X.c3;have a2:=cP fb X.a2;have g5:=cP p.mb X.g5;have a0:=cC r.st X.a0;rw[hst]at a0;have XD:=uH (X.below bY);have HF:=uH hf;clear X hst ok hM hlen ht hf
 go_enter func162,ntmps162
 go_wp2_with fail
 go_region_held3 (fun w'=>w'.cell? ⟨b1,0,none⟩=some (ptr ab)/\w'.cell? ⟨ab,2,none⟩=some (ptr fb)/\w'.cell? ⟨b2,0,none⟩=some (ptr p.gb)/\w'.cell? ⟨p.gb,5,none⟩=some (ptr p.mb)) (first | go_keep | exact⟨aI,aI,aI,aI⟩)
  ((first
  | (go_at_call 163;refine hstp.mono ?_;rintro e w5 ⟨rfl,sG,wX,gz⟩;have X5:gJ W0 p0 w5 p m who k v {s with ws:=s.ws,tc:=s.tc+n2} b1 b2 b3 ab fb ro {r with look:=f2}:=XD.out.jI gz sG wX;have Re:=cP ab X5.c1;have Rf:=cP p.gb X5.c2;have Rh:=cC who X5.c3;have Zo:=cP fb X5.a2;have U1:=cP p.mb X5.g5)))
 have iV:=dV X5.at'.look;rw[if_pos HF.out]at iV;have HX:=uH X5;clear X5 sG wX gz hstp;go_wp2_with fail;refine iV.mono ?_;rintro e w6 ⟨rfl,hb6⟩;have X6:=HX.out.below hb6;have Wv:=cP ab X6.c1;have ea0:=cC r.st X6.a0;have U0:=X6.at'.frozen 0;have Ri:=uH X6;clear X6 iV hb6;go_wp2_with fail
 first | go_end0 | refine bP ?_
 exact(Ri.out.put 0 (.i 1) {r with look:=f2,st:=1} rfl rfl rfl).post
theorem wY (X:gJ W0 p0 W p m who k v s b1 b2 b3 ab fb ro r) (hst:r.st=0) (ok:nL m.cf r) (hM:aA m.cf) (hlen:s.ws.length=sc m.cf (ns m.cf)) (ht:(s.tc:Int)<=4000000000000000000) (hf:(r.look.step m.cf s.ws).2.1.found=false) (he:(r.look.step m.cf s.ws).1=true):
  Calls prog 162 #[ptr b1,ptr b2,ptr b3] W (bV W0 p0 m who ((K2 k (.bO {r with look:=(r.look.step m.cf s.ws).2.1})).finish m.cf who {Mod.Ev.zero with slot:=r.many}) (s.cells (s.ws,(r.look.step m.cf s.ws).2.2))):=by
 have hstp:=oF (X.below bY).mx.laid (X.below bY).at'.look (X.below bY).mx.mem ⟨⟨by have:=hM.w;omega,by have:=hM.w;omega⟩,⟨by have:=hM.s;omega,by have:=hM.s;omega⟩⟩ (X.below bY).at'.fa.1 ⟨ag,ht⟩ ok.look (by rw[hlen];rfl);obtain⟨q,hq⟩:∃ q,q=r.look.step m.cf s.ws:=⟨_,rfl⟩
 rw[<- hq]at hstp hf he ⊢;clear hq;obtain⟨en,f2,n2⟩:=q;dsimp only at hstp hf he ⊢;subst he;have c1:=cP ab X.c1;have c2:=cP p.gb X.c2;have c3:=cC who X.c3;have a2:=cP fb X.a2;have g5:=cP p.mb X.g5;have a0:=cC r.st X.a0;rw[hst]at a0;have XD:=uH (X.below bY);have HF:=uH hf;clear X hst ok hM hlen ht hf
 go_enter func162,ntmps162
 go_wp2_with fail
 go_region_held3 (fun w'=>w'.cell? ⟨b1,0,none⟩=some (ptr ab)/\w'.cell? ⟨ab,2,none⟩=some (ptr fb)/\w'.cell? ⟨b2,0,none⟩=some (ptr p.gb)/\w'.cell? ⟨p.gb,5,none⟩=some (ptr p.mb)) (first | go_keep | exact⟨aI,aI,aI,aI⟩)
  ((first
  | (go_at_call 163;refine hstp.mono ?_;rintro e w5 ⟨rfl,sG,wX,gz⟩;have X5:gJ W0 p0 w5 p m who k v {s with ws:=s.ws,tc:=s.tc+n2} b1 b2 b3 ab fb ro {r with look:=f2}:=XD.out.jI gz sG wX;have Re:=cP ab X5.c1;have Rf:=cP p.gb X5.c2;have Rh:=cC who X5.c3;have Zo:=cP fb X5.a2;have U1:=cP p.mb X5.g5)))
 have iV:=dV X5.at'.look;rw[if_neg (by rw[HF.out];decide)]at iV;have HX:=uH X5;clear X5 sG wX gz hstp;go_wp2_with fail;refine iV.mono ?_;rintro e w6 ⟨rfl,hb6⟩;have X6:=HX.out.below hb6;have Wv:=cP ab X6.c1;have ec2:=cP p.gb X6.c2;have ec3:=cC who X6.c3;have ea1:=cC r.many X6.a1;have X7:=X6.below bY;have hen:=gU (X7.mx.same (k':=K2 k (.bO {r with look:=f2})) (v':=v) (fK k _ v)) {Mod.Ev.zero with slot:=r.many};have Wx:=uH X7;clear X6 X7 iV hb6 c1 c2 c3 a2 a0 g5 Re Rf Rh Zo U1;go_wp2_with fail
 go_region_held3 (fun w'=>w'.cell? ⟨b1,0,none⟩=some (ptr ab)/\w'.cell? ⟨b2,0,none⟩=some (ptr p.gb)/\w'.cell? ⟨b3,0,none⟩=some (.i who)/\w'.cell? ⟨ab,1,none⟩=some (.i r.many)) (first | go_keep | exact⟨aI,aI,aI,aI⟩)
  ((first
  | (go_at_call 88;refine hen.mono ?_;rintro e w9 ⟨rfl,v9,h9,a9,c9⟩;obtain⟨z1,z2,z3,z4⟩:=Wx.out.kb c9)))
 have H9:=uH h9;have A9:=uH a9;clear hen h9 a9 c9;go_wp2_with fail
 first | go_end0 | refine bP ?_
 exact⟨rfl,p,v9,H9.out,A9.out⟩
theorem xW (X:gJ W0 p0 W p m who k v s b1 b2 b3 ab fb ro r) (hst:r.st=0) (ok:nL m.cf r) (hM:aA m.cf) (hlen:s.ws.length=sc m.cf (ns m.cf)) (ht:(s.tc:Int)<=4000000000000000000) (hf:(r.look.step m.cf s.ws).2.1.found=false) (he:(r.look.step m.cf s.ws).1=false):
  Calls prog 162 #[ptr b1,ptr b2,ptr b3] W (bV W0 p0 m who (K2 k (.bO {r with look:=(r.look.step m.cf s.ws).2.1})) (s.cells (s.ws,(r.look.step m.cf s.ws).2.2))):=by
 have hstp:=oF (X.below bY).mx.laid (X.below bY).at'.look (X.below bY).mx.mem ⟨⟨by have:=hM.w;omega,by have:=hM.w;omega⟩,⟨by have:=hM.s;omega,by have:=hM.s;omega⟩⟩ (X.below bY).at'.fa.1 ⟨ag,ht⟩ ok.look (by rw[hlen];rfl);obtain⟨q,hq⟩:∃ q,q=r.look.step m.cf s.ws:=⟨_,rfl⟩
 rw[<- hq]at hstp hf he ⊢;clear hq;obtain⟨en,f2,n2⟩:=q;dsimp only at hstp hf he ⊢;subst he;have c1:=cP ab X.c1;have c2:=cP p.gb X.c2;have c3:=cC who X.c3;have a2:=cP fb X.a2;have g5:=cP p.mb X.g5;have a0:=cC r.st X.a0;rw[hst]at a0;have XD:=uH (X.below bY);have HF:=uH hf;clear X hst ok hM hlen ht hf
 go_enter func162,ntmps162
 go_wp2_with fail
 go_region_held3 (fun w'=>w'.cell? ⟨b1,0,none⟩=some (ptr ab)/\w'.cell? ⟨ab,2,none⟩=some (ptr fb)/\w'.cell? ⟨b2,0,none⟩=some (ptr p.gb)/\w'.cell? ⟨p.gb,5,none⟩=some (ptr p.mb)) (first | go_keep | exact⟨aI,aI,aI,aI⟩)
  ((first
  | (go_at_call 163;refine hstp.mono ?_;rintro e w5 ⟨rfl,sG,wX,gz⟩;have X5:gJ W0 p0 w5 p m who k v {s with ws:=s.ws,tc:=s.tc+n2} b1 b2 b3 ab fb ro {r with look:=f2}:=XD.out.jI gz sG wX;have Re:=cP ab X5.c1;have Rf:=cP p.gb X5.c2;have Rh:=cC who X5.c3;have Zo:=cP fb X5.a2;have U1:=cP p.mb X5.g5)))
 have iV:=dV X5.at'.look;rw[if_neg (by rw[HF.out];decide)]at iV;have HX:=uH X5;clear X5 sG wX gz hstp;go_wp2_with fail;refine iV.mono ?_;rintro e w6 ⟨rfl,hb6⟩;have X6:=HX.out.below hb6;have Ri:=uH X6;clear X6 iV hb6;go_wp2_with fail
 first | go_end0 | refine bP ?_
 exact Ri.out.post
end
def Cr (w:Int) (out:Bool):Bool:=out && !((dec w).getD S.zero).marked && !((dec w).getD S.zero).broken
theorem Cs (w:Int) (out:Bool):(match dec w with | some x=>out && !x.marked && !x.broken | none=>out)=Cr w out:=by
 unfold Cr
 cases dec w with
 | none=>simp[S.zero]
 | some s=>rfl
def Iz (c:Cf) (r:Rp) (out:Bool):Rp:=if Cr r.look.word out then {r with st:=2} else {r with rt:=some (Rt.new (sc c r.look.at') r.look.word),st:=3}
section
variable {W0 W:World} {p0 p:Mp} {m:Mc} {who:Nat} {k:Wk} {v:KV} {s:Sh} {b1 b2 b3 ab fb:Nat} {ro:Option Nat} {r:Rp}
theorem Pg (X:gJ W0 p0 W p m who k v s b1 b2 b3 ab fb ro r) (hst:r.st=1) (ok:nL m.cf r) (hM:aA m.cf) (hgd:(s.good:Int)<=1000000) (hbd:(s.bad:Int)<=1000000):
  Calls prog 165 #[ptr ab,ptr p.gb] W (bV W0 p0 m who (K2 k (.bO (Iz m.cf r s.outcome))) s.next):=by
 have iV:=dV X.at'.look;have hfo:=ok.found (.inl hst);have hin:r.look.at' < ns m.cf:=ok.look.2.2 hfo;rw[if_pos hfo]at iV;have UZ:RowKit.Hid (Small m.cf):=uH ⟨⟨by have:=hM.w;omega,by have:=hM.w;omega⟩,⟨by have:=hM.s;omega,by have:=hM.s;omega⟩⟩;have Yy:=uH hin;have hdc:=fun w' hL=>aS w' r.look.word hL
 obtain⟨u,hu⟩:∃ u,u=(dec r.look.word).getD S.zero:=⟨_,rfl⟩
 have hko:Cr r.look.word s.outcome=(s.outcome && !u.marked && !u.broken):=by rw[hu];rfl
 have hrr:Iz m.cf r s.outcome=if (s.outcome && !u.marked && !u.broken)=true then {r with st:=2} else {r with rt:=some (Rt.new (sc m.cf r.look.at') r.look.word),st:=3}:=by unfold Iz;rw[hko]
 rw[hrr];simp only[<- hu]at hdc;clear hko hrr hu;generalize (dec r.look.word).isSome=Zp at *;have hnx:=fun(w':World) (h:aO.nV w' p.ob p.rb p.wv s.ahead s.good s.bad)=>wJ w' p.ob p.rb p.wv s.ahead s.good s.bad h hgd hbd
 rw[show s.ahead.headD true=s.outcome from rfl]at hnx;have a2:W.cell? ⟨ab,2,none⟩=some (ptr fb):=X.a2;have HX:=uH X;clear X hst ok hM hfo hin hgd hbd
 have hsn:∀ (q:Bool),s.outcome=q->s.next={s with ahead:=s.ahead.tail,good:=if q then s.good+1 else s.good,bad:=if q then s.bad else s.bad+1}:=by
  intro q hq;have ho:s.ahead.headD true=q:=hq;unfold Sh.next;rw[ho]
 cases hout:s.outcome
 focus
  rw[hsn false hout];rw[if_neg (by simp[hout])];simp only[hout]at hnx;clear hsn hout
 rotate_left
 focus
  cases hmk:u.marked
 focus
  cases hbr:u.broken
 focus
  rw[hsn true hout];rw[if_pos (by simp[hout,hmk,hbr])];simp only[hout]at hnx;clear hsn hout;have Wy:=uH hmk;clear hmk;have Zq:=uH hbr;clear hbr
 rotate_left
 focus
  rw[hsn true hout];rw[if_neg (by simp[hout,hmk,hbr])];simp only[hout]at hnx;clear hsn hout;have Wy:=uH hmk;clear hmk;have Zq:=uH hbr;clear hbr
 rotate_left
 focus
  rw[hsn true hout];rw[if_neg (by simp[hout,hmk])];simp only[hout]at hnx;clear hsn hout;have Wy:=uH hmk;clear hmk
 rotate_left
 all_goals
  go_enter func165,ntmps165
  go_wp2_with fail;refine iV.mono ?_;rintro e w1 ⟨rfl,hb1⟩;have X1:=HX.out.below hb1;have hD:=hdc w1 X1.mx.laid;have Wz:=uH X1;clear iV X1 hdc hb1;go_wp2_with fail;refine hD.mono ?_;rintro e w5 ⟨rfl,hb5⟩;have X5:=Wz.out.below hb5;dsimp only;go_step;refine gl (.tuple #[u.val,.bool Zp]) ?_;refine gl u.val ?_;refine gl (.bool Zp) ?_;refine dU (ob:=.cells av 57) (Z:=av) (cs:=u.cells) (t:=57) 57 (.tmp 7) (.tmp 21) rfl ?_;refine gl (.bool Zp) (ay ?_)
  rw[aG];have X6:=X5.below (bZ.alloc aQ (.cells u.cells 57));have r6:af (w5.alloc (.cells u.cells 57)) w5.heap.size u.cells 57:=heap_alloc_new w5 _;have how:p.ow w5.heap.size=8+who:=X5.mx.fresh _ aQ;generalize (w5.alloc (.cells u.cells 57))=w6 at *;generalize w5.heap.size=sb at *;have cg7:w6.cell? ⟨p.gb,7,none⟩=some (ptr p.ob):=X6.g7;have hN:=hnx w6 X6.mx.core.Fz;have Ri:=uH X6;clear hD hb5 X5 X6 hnx;go_wp2_with fail;refine hN.mono ?_;rintro e w9 ⟨rfl,wv9,Zr,Zt,tQ⟩;have r9:af w9 sb u.cells 57:=af.aK r6 tQ (fun e=>by have h5:p.ow sb=5:=Ri.out.mx.core.lo sb e;omega);have X9:=Ri.out.world Zr Zt tQ
 focus
  have u4:w9.cell? ⟨sb,4,none⟩=some (.bool u.marked):=(af.cell r9 4).trans (by show some (Value.bool u.marked)=_;rfl);have u3:w9.cell? ⟨sb,3,none⟩=some (.bool u.broken):=(af.cell r9 3).trans (by show some (Value.bool u.broken)=_;rfl)
 rotate_left
 ·have u4:w9.cell? ⟨sb,4,none⟩=some (.bool false):=(af.cell r9 4).trans (by show some (Value.bool u.marked)=_;rw[Wy.out]);have u3:w9.cell? ⟨sb,3,none⟩=some (.bool false):=(af.cell r9 3).trans (by show some (Value.bool u.broken)=_;rw[Zq.out]);clear hN Zr Zt tQ r6 r9 how cg7;have fa0:w9.cell? ⟨ab,0,none⟩=some (.i r.st):=X9.a0;have ff0:=X9.at'.frozen 0;have Ye:=uH X9;clear X9;go_wp2_with fail
  first | go_end0 | refine bP ?_
  exact(Ye.out.put 0 (.i 2) {r with st:=2} rfl rfl rfl).post
 focus
  have u4:w9.cell? ⟨sb,4,none⟩=some (.bool false):=(af.cell r9 4).trans (by show some (Value.bool u.marked)=_;rw[Wy.out]);have u3:w9.cell? ⟨sb,3,none⟩=some (.bool true):=(af.cell r9 3).trans (by show some (Value.bool u.broken)=_;rw[Zq.out])
 rotate_left
 focus
  have u4:w9.cell? ⟨sb,4,none⟩=some (.bool true):=(af.cell r9 4).trans (by show some (Value.bool u.marked)=_;rw[Wy.out]);have u3:w9.cell? ⟨sb,3,none⟩=some (.bool u.broken):=(af.cell r9 3).trans (by show some (Value.bool u.broken)=_;rfl)
 rotate_left
 all_goals
  clear hN Zr Zt tQ r6 r9 how cg7;have fa3:w9.cell? ⟨ab,3,none⟩=some (fJ ro):=X9.a3;have ff3:=X9.at'.frozen 3;have i0:w9.cell? ⟨p.gb,0,none⟩=some (.i m.cf.workers):=X9.mx.az 0;have i1:w9.cell? ⟨p.gb,1,none⟩=some (.i m.cf.slots):=X9.mx.az 1;have i2:w9.cell? ⟨p.gb,2,none⟩=some (.i m.cf.streams):=X9.mx.az 2;have i3:w9.cell? ⟨p.gb,3,none⟩=some (.i m.cf.waiters):=X9.mx.az 3;have i4:w9.cell? ⟨p.gb,4,none⟩=some (.i m.cf.uses):=X9.mx.az 4;have hrn:=iG w9 m.cf r.look.at' r.look.word UZ.out Yy.out;simp only[Cf.val,Cf.cells]at hrn;have Ye:=uH X9;clear X9;go_wp2_with fail;refine hrn.mono ?_;rintro e dH ⟨rb,rfl,hR,hge,jA⟩;have Zu:=Ye.out.below jA;have ha3:dH.cell? ⟨ab,3,none⟩=some (fJ ro):=Zu.a3;have hf3:=Zu.at'.frozen 3;have X11:=Ye.out.mW hR jA hge;have TD:=uH X11;clear Zu X11 hrn jA hR;go_upto_region 5 with(fail)
  generalize dH.setCell ⟨ab,3,none⟩ (ptr rb)=kU at *;have ja0:kU.cell? ⟨ab,0,none⟩=some (.i r.st):=TD.out.a0;have jf0:=TD.out.at'.frozen 0;clear ha3 hf3;go_wp2_with fail
  first | go_end0 | refine bP ?_
  exact(TD.out.put 0 (.i 3) {r with rt:=some (Rt.new (sc m.cf r.look.at') r.look.word),st:=3} rfl rfl rfl).post
theorem IA (X:gJ W0 p0 W p m who k v s b1 b2 b3 ab fb ro r) (hst:r.st=1) (ok:nL m.cf r) (hM:aA m.cf) (hgd:(s.good:Int)<=1000000) (hbd:(s.bad:Int)<=1000000):
  Calls prog 162 #[ptr b1,ptr b2,ptr b3] W (bV W0 p0 m who (K2 k (.bO (Iz m.cf r s.outcome))) s.next):=by
 have hk:=Pg X hst ok hM hgd hbd;have c1:W.cell? ⟨b1,0,none⟩=some (ptr ab):=X.c1;have c2:W.cell? ⟨b2,0,none⟩=some (ptr p.gb):=X.c2;have a0:W.cell? ⟨ab,0,none⟩=some (.i r.st):=X.a0;rw[hst]at a0;clear X hst ok hM hgd hbd
 go_enter func162,ntmps162
 go_wp2_with fail;refine hk.mono ?_;rintro e w9 ⟨rfl,p9,v9,h9,a9⟩;have H9:=uH h9;have A9:=uH a9;clear hk h9 a9;go_wp2_with fail
 first | go_end0 | refine bP ?_
 exact⟨rfl,p9,v9,H9.out,A9.out⟩
end
section
variable {W0 W:World} {p0 p:Mp} {m:Mc} {who:Nat} {k:Wk} {v:KV} {s:Sh} {b1 b2 b3 ab fb:Nat} {ro:Option Nat} {r:Rp}
theorem uX (X:gJ W0 p0 W p m who k v s b1 b2 b3 ab fb ro r) (hst:r.st=2) (ok:nL m.cf r) (hM:aA m.cf) (hlen:s.ws.length=sc m.cf (ns m.cf)) (ht:(s.tc:Int)<=4000000000000000000) {nw:Int} (hnw:bn r.look.word 10 who 0=some nw):
  Calls prog 162 #[ptr b1,ptr b2,ptr b3] W (bV W0 p0 m who (K2 k (.bO r.kC)) (s.cells ((dF s.ws (sc m.cf r.look.at') r.look.word nw).2,1))):=by
 have iV:=dV X.at'.look;have hfo:=ok.found (.inr (.inl hst));have hin:r.look.at' < ns m.cf:=ok.look.2.2 hfo;have hns:=hM.ns;rw[if_pos hfo]at iV;have hat:r.look.at'<=1000:=ag
 have HAT:=uH hat;have iJ:=fun w' hL=>kW w' r.look.word 10 who (by unfold iw;omega) hL
 simp only[hnw,Option.getD_some,Option.isSome_some,Option.getD_none,Option.isSome_none]at iJ;have hsl:=fun W=>bg W m.cf r.look.at' (by have:=hM.w;omega) (by have:=hM.s;omega)
 have hsc:(3+2 * m.cf.workers+(r.look.at':Int))=((sc m.cf r.look.at':Nat):Int):=by have:=hM.w;unfold sc;omega
 simp only[hsc,Cf.val,Cf.cells]at hsl;have hlt:sc m.cf r.look.at' < s.ws.length:=by rw[hlen];unfold sc;omega
 have hcs:=fun w' (hm:bB w' p.mb p.wb s.ws s.tc)=>FB hm ⟨ag,ht⟩ (sc m.cf r.look.at') hlt r.look.word nw
 have HCS:=uH hcs;have HSL:=uH hsl;clear hsl hsc hlt hcs;have c1:=cP ab X.c1;have c2:=cP p.gb X.c2;have c3:=cC who X.c3;have a2:=cP fb X.a2;have a0:=cC r.st X.a0;rw[hst]at a0;have HX:=uH X;clear X hst ok hM hlen ht hnw hfo hin hns hat;generalize sc m.cf r.look.at'=cell at *
 go_enter func162,ntmps162
 go_wp2_with fail;refine iV.mono ?_;rintro e w1 ⟨rfl,hb1⟩;have X1:=HX.out.below hb1;have Re:=cP ab X1.c1;have Rf:=cP p.gb X1.c2;have Rh:=cC who X1.c3;have hA:=iJ w1 X1.mx.laid;have Wz:=uH X1;clear iV X1 iJ hb1;go_wp2_with fail;refine hA.mono ?_;rintro e w2 ⟨rfl,hb2⟩;have X2:=Wz.out.below hb2;have Wv:=cP ab X2.c1;have ec2:=cP p.gb X2.c2;have ec3:=cC who X2.c3;have eg5:=cP p.mb X2.g5;obtain⟨i0,i1,i2,i3,i4⟩:=cQ m.cf X2.mx.az;have XD:=uH (X2.below bY);clear hA hb2 X2;go_wp2_with fail
 go_region_held3 (fun w'=>w'.cell? ⟨b2,0,none⟩=some (ptr p.gb)/\w'.cell? ⟨p.gb,5,none⟩=some (ptr p.mb)/\w'.cell? ⟨p.gb,0,none⟩=some (.i m.cf.workers)/\w'.cell? ⟨p.gb,1,none⟩=some (.i m.cf.slots)/\w'.cell? ⟨p.gb,2,none⟩=some (.i m.cf.streams)/\w'.cell? ⟨p.gb,3,none⟩=some (.i m.cf.waiters)/\w'.cell? ⟨p.gb,4,none⟩=some (.i m.cf.uses)) (first | go_keep | exact⟨aI,aI,aI,aI,aI,aI,aI⟩)
  ((first
  | (go_at_call 54;refine(HSL.out _).mono ?_;rintro e w3 ⟨rfl,hb3⟩;have X3:=XD.out.below hb3;have fc1:=cP ab X3.c1;have fc2:=cP p.gb X3.c2;have fc3:=cC who X3.c3;have fg5:=cP p.mb X3.g5;obtain⟨fi0,fi1,fi2,fi3,fi4⟩:=cQ m.cf X3.mx.az)
  | (go_at_call 166;refine(HCS.out w3 X3.mx.mem).mono ?_;rintro e w4 ⟨rfl,Oi,hc4⟩;have X4:gJ W0 p0 w4 p m who k v {s with ws:=(dF s.ws cell r.look.word nw).2,tc:=s.tc+1} b1 b2 b3 ab fb ro r:=X3.bU hc4 Oi;have hc1:=cP ab X4.c1;have hc2:=cP p.gb X4.c2;have hc3:=cC who X4.c3;have hg5:=cP p.mb X4.g5;obtain⟨hi0,hi1,hi2,hi3,hi4⟩:=cQ m.cf X4.mx.az)))
 have hgo:=rM X4.at' HAT.out;have HX4:=uH X4;clear X3 X4 hb3 Oi hc4;go_wp2_with fail;refine hgo.mono ?_;rintro e w9 ⟨rfl,LK,tQ⟩;have X9:=uH (HX4.out.kC tQ LK);clear hgo LK tQ;go_wp2_with fail
 first | go_end0 | refine bP ?_
 exact X9.out.post
theorem uY (X:gJ W0 p0 W p m who k v s b1 b2 b3 ab fb ro r) (hst:r.st=2) (ok:nL m.cf r) (hM:aA m.cf) (hlen:s.ws.length=sc m.cf (ns m.cf)) (ht:(s.tc:Int)<=4000000000000000000) (hnw:bn r.look.word 10 who 0=none):
  Calls prog 162 #[ptr b1,ptr b2,ptr b3] W (bV W0 p0 m who (K2 k (.bO r.kC)) s):=by
 have iV:=dV X.at'.look;have hfo:=ok.found (.inr (.inl hst));have hin:r.look.at' < ns m.cf:=ok.look.2.2 hfo;have hns:=hM.ns;rw[if_pos hfo]at iV;have hat:r.look.at'<=1000:=ag
 have HAT:=uH hat;have iJ:=fun w' hL=>kW w' r.look.word 10 who (by unfold iw;omega) hL
 simp only[hnw,Option.getD_some,Option.isSome_some,Option.getD_none,Option.isSome_none]at iJ;have c1:=cP ab X.c1;have c2:=cP p.gb X.c2;have c3:=cC who X.c3;have a2:=cP fb X.a2;have a0:=cC r.st X.a0;rw[hst]at a0;have HX:=uH X;clear X hst ok hM hlen ht hnw hfo hin hns hat
 go_enter func162,ntmps162
 go_wp2_with fail;refine iV.mono ?_;rintro e w1 ⟨rfl,hb1⟩;have X1:=HX.out.below hb1;have Re:=cP ab X1.c1;have Rf:=cP p.gb X1.c2;have Rh:=cC who X1.c3;have hA:=iJ w1 X1.mx.laid;have Wz:=uH X1;clear iV X1 iJ hb1;go_wp2_with fail;refine hA.mono ?_;rintro e w2 ⟨rfl,hb2⟩;have X2:=Wz.out.below hb2;have Wv:=cP ab X2.c1;have ec2:=cP p.gb X2.c2;have ec3:=cC who X2.c3;have eg5:=cP p.mb X2.g5;have hgo:=rM X2.at' HAT.out;have HX2:=uH X2;clear hA hb2 X2;go_wp2_with fail;refine hgo.mono ?_;rintro e w9 ⟨rfl,LK,tQ⟩;have X9:=uH (HX2.out.kC tQ LK);clear hgo LK tQ;go_wp2_with fail
 first | go_end0 | refine bP ?_
 exact X9.out.post
theorem zJ (X:gJ W0 p0 W p m who k v s b1 b2 b3 ab fb ro r) {x:Rt} (hx:r.rt=some x) (hst:r.st=3) (ok:nL m.cf r) (hM:aA m.cf) (hlen:s.ws.length=sc m.cf (ns m.cf)) (ht:(s.tc:Int)<=4000000000000000000) (hb:(x.step s.ws).1=false):
  Calls prog 162 #[ptr b1,ptr b2,ptr b3] W (bV W0 p0 m who (K2 k (.bO {r with rt:=some (x.step s.ws).2.1})) (s.cells (x.step s.ws).2.2)):=by
 obtain⟨rb,hro,hrt⟩:=X.at'.ret x hx;subst hro;have hxk:=ok.rt x hx;have hxl:=hxk.1.1;have hns:=hM.ns;have hra:=X.at'.ra rb rfl;have hfo:=ok.found (.inr (.inr hst));have hin:r.look.at' < ns m.cf:=ok.look.2.2 hfo;have hat:r.look.at'<=1000:=ag
 have HAT:=uH hat;have bJ:=jS (cK.below hrt bY) (X.below bY).mx.mem hra.1 ⟨ag,ht⟩ (X.below bY).mx.laid (by rw[hlen];exact hxl) hxk.1.2 (by rw[hlen,fI];omega);obtain⟨q,hq⟩:∃ q,q=(x.step s.ws):=⟨_,rfl⟩
 rw[<- hq]at bJ hb ⊢;clear hq;obtain⟨en,x2,jq,n2⟩:=q;dsimp only at bJ hb ⊢;subst hb;have c1:=cP ab X.c1;have c2:=cP p.gb X.c2;have c3:=cC who X.c3;have g5:=cP p.mb X.g5;have a0:=cC r.st X.a0;have a3:=cP rb X.a3;rw[hst]at a0;have XD:=uH (X.below bY);clear X hst ok hM hlen ht hx hrt hxk hxl hns hra hfo hin hat
 go_enter func162,ntmps162
 go_wp2_with fail
 go_region_held3 (fun w'=>w'.cell? ⟨b1,0,none⟩=some (ptr ab)/\w'.cell? ⟨ab,3,none⟩=some (ptr rb)/\w'.cell? ⟨b2,0,none⟩=some (ptr p.gb)/\w'.cell? ⟨p.gb,5,none⟩=some (ptr p.mb)) (first | go_keep | exact⟨aI,aI,aI,aI⟩)
  ((first
  | (go_at_call 168;refine bJ.mono ?_;rintro e w5 ⟨rfl,sG,wX,gz⟩;have X5:gJ W0 p0 w5 p m who k v {s with ws:=jq,tc:=s.tc+n2} b1 b2 b3 ab fb (some rb) {r with rt:=some x2}:=XD.out.lK rfl gz sG wX;have Re:=cP ab X5.c1;have Rf:=cP p.gb X5.c2;have Rh:=cC who X5.c3;have U1:=cP p.mb X5.g5;have da3:=cP rb X5.a3)))
 have WA:=uH X5;clear X5 sG wX gz bJ;go_wp2_with fail
 first | go_end0 | refine bP ?_
 exact WA.out.post
theorem rO (X:gJ W0 p0 W p m who k v s b1 b2 b3 ab fb ro r) {x:Rt} (hx:r.rt=some x) (hst:r.st=3) (ok:nL m.cf r) (hM:aA m.cf) (hlen:s.ws.length=sc m.cf (ns m.cf)) (ht:(s.tc:Int)<=4000000000000000000) (hb:(x.step s.ws).1=true) (hsw:(x.step s.ws).2.1.swapped=true):
  Calls prog 162 #[ptr b1,ptr b2,ptr b3] W (bV W0 p0 m who (K2 k (.bO {r with rt:=some (x.step s.ws).2.1,many:=wrap64 (r.many+1),look:=r.look.go,st:=0})) (s.cells (x.step s.ws).2.2)):=by
 obtain⟨rb,hro,hrt⟩:=X.at'.ret x hx;subst hro;have hxk:=ok.rt x hx;have hxl:=hxk.1.1;have hns:=hM.ns;have hra:=X.at'.ra rb rfl;have hfo:=ok.found (.inr (.inr hst));have hin:r.look.at' < ns m.cf:=ok.look.2.2 hfo;have hat:r.look.at'<=1000:=ag
 have HAT:=uH hat;have bJ:=jS (cK.below hrt bY) (X.below bY).mx.mem hra.1 ⟨ag,ht⟩ (X.below bY).mx.laid (by rw[hlen];exact hxl) hxk.1.2 (by rw[hlen,fI];omega);obtain⟨q,hq⟩:∃ q,q=(x.step s.ws):=⟨_,rfl⟩
 rw[<- hq]at bJ hb hsw ⊢;clear hq;obtain⟨en,x2,jq,n2⟩:=q;dsimp only at bJ hb hsw ⊢;subst hb;have c1:=cP ab X.c1;have c2:=cP p.gb X.c2;have c3:=cC who X.c3;have g5:=cP p.mb X.g5;have a0:=cC r.st X.a0;have a3:=cP rb X.a3;rw[hst]at a0;have XD:=uH (X.below bY);clear X hst ok hM hlen ht hx hrt hxk hxl hns hra hfo hin hat;have Vm:=uH hsw;clear hsw
 go_enter func162,ntmps162
 go_wp2_with fail
 go_region_held3 (fun w'=>w'.cell? ⟨b1,0,none⟩=some (ptr ab)/\w'.cell? ⟨ab,3,none⟩=some (ptr rb)/\w'.cell? ⟨b2,0,none⟩=some (ptr p.gb)/\w'.cell? ⟨p.gb,5,none⟩=some (ptr p.mb)) (first | go_keep | exact⟨aI,aI,aI,aI⟩)
  ((first
  | (go_at_call 168;refine bJ.mono ?_;rintro e w5 ⟨rfl,sG,wX,gz⟩;have X5:gJ W0 p0 w5 p m who k v {s with ws:=jq,tc:=s.tc+n2} b1 b2 b3 ab fb (some rb) {r with rt:=some x2}:=XD.out.lK rfl gz sG wX;have Re:=cP ab X5.c1;have Rf:=cP p.gb X5.c2;have Rh:=cC who X5.c3;have U1:=cP p.mb X5.g5;have da3:=cP rb X5.a3)))
 have hdn:=oI sG;rw[Vm.out]at hdn;generalize x2.done=dn at *;have WA:=uH X5;clear X5 sG wX gz bJ;go_wp2_with fail;refine hdn.mono ?_;rintro e w6 ⟨rfl,hb6⟩;have X6:=WA.out.below hb6;have Wv:=cP ab X6.c1;have ea1:=cC r.many X6.a1;have ef1:=X6.at'.frozen 1;have X7:=X6.put 1 (.i (wrap64 (r.many+1))) {r with rt:=some x2,many:=wrap64 (r.many+1)} rfl rfl rfl;have Wx:=uH X7;clear X6 X7 hdn hb6;go_upto_region 21 with(fail);generalize w6.setCell ⟨ab,1,none⟩ (.i (wrap64 (r.many+1)))=w7 at *;have hc1:=cP ab Wx.out.c1;have hgo:=rM Wx.out.at' HAT.out;go_wp2_with fail;refine hgo.mono ?_;rintro e w9 ⟨rfl,LK,tQ⟩;have X9:=uH (Wx.out.kC tQ LK);clear hgo LK tQ;go_wp2_with fail
 first | go_end0 | refine bP ?_
 exact X9.out.post
theorem xX (X:gJ W0 p0 W p m who k v s b1 b2 b3 ab fb ro r) {x:Rt} (hx:r.rt=some x) (hst:r.st=3) (ok:nL m.cf r) (hM:aA m.cf) (hlen:s.ws.length=sc m.cf (ns m.cf)) (ht:(s.tc:Int)<=4000000000000000000) (hb:(x.step s.ws).1=true) (hsw:(x.step s.ws).2.1.swapped=false):
  Calls prog 162 #[ptr b1,ptr b2,ptr b3] W (bV W0 p0 m who (K2 k (.bO {r with rt:=some (x.step s.ws).2.1,look:=r.look.go,st:=0})) (s.cells (x.step s.ws).2.2)):=by
 obtain⟨rb,hro,hrt⟩:=X.at'.ret x hx;subst hro;have hxk:=ok.rt x hx;have hxl:=hxk.1.1;have hns:=hM.ns;have hra:=X.at'.ra rb rfl;have hfo:=ok.found (.inr (.inr hst));have hin:r.look.at' < ns m.cf:=ok.look.2.2 hfo;have hat:r.look.at'<=1000:=ag
 have HAT:=uH hat;have bJ:=jS (cK.below hrt bY) (X.below bY).mx.mem hra.1 ⟨ag,ht⟩ (X.below bY).mx.laid (by rw[hlen];exact hxl) hxk.1.2 (by rw[hlen,fI];omega);obtain⟨q,hq⟩:∃ q,q=(x.step s.ws):=⟨_,rfl⟩
 rw[<- hq]at bJ hb hsw ⊢;clear hq;obtain⟨en,x2,jq,n2⟩:=q;dsimp only at bJ hb hsw ⊢;subst hb;have c1:=cP ab X.c1;have c2:=cP p.gb X.c2;have c3:=cC who X.c3;have g5:=cP p.mb X.g5;have a0:=cC r.st X.a0;have a3:=cP rb X.a3;rw[hst]at a0;have XD:=uH (X.below bY);clear X hst ok hM hlen ht hx hrt hxk hxl hns hra hfo hin hat;have Vm:=uH hsw;clear hsw
 go_enter func162,ntmps162
 go_wp2_with fail
 go_region_held3 (fun w'=>w'.cell? ⟨b1,0,none⟩=some (ptr ab)/\w'.cell? ⟨ab,3,none⟩=some (ptr rb)/\w'.cell? ⟨b2,0,none⟩=some (ptr p.gb)/\w'.cell? ⟨p.gb,5,none⟩=some (ptr p.mb)) (first | go_keep | exact⟨aI,aI,aI,aI⟩)
  ((first
  | (go_at_call 168;refine bJ.mono ?_;rintro e w5 ⟨rfl,sG,wX,gz⟩;have X5:gJ W0 p0 w5 p m who k v {s with ws:=jq,tc:=s.tc+n2} b1 b2 b3 ab fb (some rb) {r with rt:=some x2}:=XD.out.lK rfl gz sG wX;have Re:=cP ab X5.c1;have Rf:=cP p.gb X5.c2;have Rh:=cC who X5.c3;have U1:=cP p.mb X5.g5;have da3:=cP rb X5.a3)))
 have hdn:=oI sG;rw[Vm.out]at hdn;generalize x2.done=dn at *;have WA:=uH X5;clear X5 sG wX gz bJ;go_wp2_with fail;refine hdn.mono ?_;rintro e w6 ⟨rfl,hb6⟩;have X6:=WA.out.below hb6;have Wv:=cP ab X6.c1;have hgo:=rM X6.at' HAT.out;have Ri:=uH X6;clear X6 hdn hb6;go_wp2_with fail;refine hgo.mono ?_;rintro e w9 ⟨rfl,LK,tQ⟩;have X9:=uH (Ri.out.kC tQ LK);clear hgo LK tQ;go_wp2_with fail
 first | go_end0 | refine bP ?_
 exact X9.out.post
end
end Mc
end Go.Proofs.YtbklamnimfmjkaaGreatDoor
