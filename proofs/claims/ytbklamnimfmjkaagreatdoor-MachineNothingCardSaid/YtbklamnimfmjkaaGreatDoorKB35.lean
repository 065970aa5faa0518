/- Part 35 of the walks and plain laws that the last text joins. -/
import Derived.Test.YtbklamnimfmjkaaGreatDoorKB34
set_option maxRecDepth 100000
set_option maxHeartbeats 16000000
set_option linter.all false
open Go.Proofs.Tryz
namespace Go.Proofs.YtbklamnimfmjkaaGreatDoor
namespace Mc
open Go.RowKit Hp ah aj Slot ai Tk Cl
theorem Rj:(∀ {W0 W:World} {p0 p:Mp} {m:Mc} {who:Nat} {k:Wk} {v:KV} {s:Sh} (h:Mx W0 p0 W p m who k v s) {t:Tw} {tb:Nat} {vr vl:Value} (hst:k.st=3) (hv:v.two=ptr tb) (hg:dD W tb p.mb p.wb vr vl t s.ws s.tc) (hd:∀ b,qD tb vr vl b->In W p.ow (8+who) b) (ok:pG m.cf t) (h9:t.rounds<=1000000) (hM:aA m.cf) (hlen:s.ws.length=sc m.cf (ns m.cf)) (ht:(s.tc:Int)<=4000000000000000000) (hdn:(t.step s.ws).1.done=false),Calls prog 65 #[ptr p.gb,.i who] W (bV W0 p0 m who ({k with two:=some (t.step s.ws).1}) (s.cells (s.ws,(t.step s.ws).2))))/\(∀ {W0 W:World} {p0 p:Mp} {m:Mc} {who:Nat} {k:Wk} {v:KV} {s:Sh} (h:Mx W0 p0 W p m who k v s) {t:Tw} {tb:Nat} {vr vl:Value} (hst:k.st=3) (hv:v.two=ptr tb) (hg:dD W tb p.mb p.wb vr vl t s.ws s.tc) (hd:∀ b,qD tb vr vl b->In W p.ow (8+who) b) (ok:pG m.cf t) (h9:t.rounds<=1000000) (hM:aA m.cf) (hlen:s.ws.length=sc m.cf (ns m.cf)) (ht:(s.tc:Int)<=4000000000000000000) (hdn:(t.step s.ws).1.done=true),Calls prog 65 #[ptr p.gb,.i who] W (bV W0 p0 m who (if (t.step s.ws).1.last.any (fun w=>eF w 3 who) then {k with two:=some (t.step s.ws).1,bq:=some (.get (Tk.new m.cf who)),st:=2} else ({k with two:=some (t.step s.ws).1}:Wk).finish m.cf who {Mod.Ev.zero with e:=3}) (s.cells (s.ws,(t.step s.ws).2)))):=by
 refine⟨?_,?_⟩
 focus
  intro W0 W p0 p m who k v s h t tb vr vl hst hv hg hd ok h9 hM hlen ht hdn;obtain⟨hx0,hx1,hx2⟩:=idx h.hw;have hcf:=ok.cf;have hns:=hM.ns;have bJ:=jY (hg.below bY) ⟨ag,ht⟩ (by rw[hcf];exact hM) (by rw[hcf];exact hlen) (by rw[hcf];exact ok) h9;have hle:(t.step s.ws).1.done=true->(t.step s.ws).1.last.length=ns m.cf:=fun e=>((ok.step hM s.ws).last) ((ok.step hM s.ws).done e)
  rw[hdn]at bJ;obtain⟨r,hr⟩:∃ r,r=t.step s.ws:=⟨_,rfl⟩
  rw[<- hr]at bJ hdn hle ⊢;clear hr;obtain⟨g2,n2⟩:=r;dsimp only at bJ hdn hle ⊢
 rotate_left
 focus
  intro W0 W p0 p m who k v s h t tb vr vl hst hv hg hd ok h9 hM hlen ht hdn;obtain⟨hx0,hx1,hx2⟩:=idx h.hw;have hcf:=ok.cf;have hns:=hM.ns;have bJ:=jY (hg.below bY) ⟨ag,ht⟩ (by rw[hcf];exact hM) (by rw[hcf];exact hlen) (by rw[hcf];exact ok) h9;have hle:(t.step s.ws).1.done=true->(t.step s.ws).1.last.length=ns m.cf:=fun e=>((ok.step hM s.ws).last) ((ok.step hM s.ws).done e)
  rw[hdn]at bJ;obtain⟨r,hr⟩:∃ r,r=t.step s.ws:=⟨_,rfl⟩
  rw[<- hr]at bJ hdn hle ⊢;clear hr;obtain⟨g2,n2⟩:=r;dsimp only at bJ hdn hle ⊢;obtain⟨KR,ZE⟩:∃ KR,KR=(if g2.last.any (fun w=>eF w 3 who) then ({k with two:=some g2,bq:=some (.get (Tk.new m.cf who)),st:=2}:Wk) else ({k with two:=some g2}:Wk).finish m.cf who {Mod.Ev.zero with e:=3}):=⟨_,rfl⟩
  rw[<- ZE];have Yh:=uH ZE;clear ZE
 rotate_left
 all_goals
  have g5:W.cell? ⟨p.gb,5,none⟩=some (ptr p.mb):=h.az 5;have g9:W.cell? ⟨p.gb,9,none⟩=some (.slice (some ⟨p.kb,0,none⟩) m.ks.length m.ks.length):=h.az 9;have k12:W.cell? ⟨p.kb,who * 35+12,none⟩=some (ptr tb):=(h.aL 12 (u:=v.two) rfl).trans (by rw[hv]);have hdr:Below W.heap.size W W.drew:=bY;have H:=uH (h.below hdr);have hd0:∀ b,qD tb vr vl b->In W.drew p.ow (8+who) b:=fun b hb=>(hd b hb).mono hdr.size
  have HD:=uH hd0;have HST:=uH hst;have HV:=uH hv;have Fx:=uH hdn;have Sb:=uH hle;have TF:RowKit.Hid (0 < ns m.cf/\ns m.cf<=16):=uH ⟨ag,ag⟩;clear h hst hv hd hd0 hdr ok hM hlen ht hcf hg hdn hle hns h9
  go_enter func65,ntmps65
  go_wp2_with fail
  go_region_held3 (fun w'=>w'.cell? ⟨p.kb,who * 35+12,none⟩=some (ptr tb)/\w'.cell? ⟨p.gb,5,none⟩=some (ptr p.mb)) (first | go_keep | exact⟨aI,aI⟩)
   ((first
   | (go_at_call 83;refine bJ.mono ?_;rintro e w5 ⟨rfl,WB,WC,jD,zu⟩;have eG:dD w5 tb p.mb p.wb WB WC g2 s.ws ((s.tc+n2:Nat):Int):=jD;have h5:=H.out.mG (fun b hb=>HD.out b hb) zu.2 eG.mem;have F5:=H.out.zK HD.out zu.2.size zu.1 eG.Dc;have ZF:w5.cell? ⟨p.kb,who * 35+12,none⟩=some (ptr tb):=(h5.aL 12 (u:=v.two) rfl).trans (by rw[HV.out]);have d5:w5.cell? ⟨p.gb,5,none⟩=some (ptr p.mb):=h5.az 5)))
  have h6:=h5.same (k':={k with two:=some g2}) (v':=v) rfl
 ·have H6:=uH h6;have A6:=uH (show bF w5 p.gb p.mb p.wb (In w5 p.ow (8+who)) who s.ws ((s.tc+n2:Nat):Int) m.cf {k with two:=some g2} v from⟨fun e=>absurd (HST.out.symm.trans e) aT,fun _=>⟨g2,tb,WB,WC,rfl,HV.out,eG,F5⟩,fun e=>e.elim (fun e=>absurd (HST.out.symm.trans e) aT) (fun e=>absurd (HST.out.symm.trans e) aT),fun e=>absurd (HST.out.symm.trans e) aT⟩);clear h5 h6 eG zu jD bJ F5;go_wp2_with fail
  first | go_end0 | refine bP ?_
  exact⟨rfl,p,v,H6.out,A6.out⟩
 ·have hlast:=Sb.out Fx.out;have hl0:0 < g2.last.length:=by rw[hlast];exact TF.out.1
  have hl1:g2.last.length<=1000:=by rw[hlast];have:=TF.out.2;omega
  have kG:=wZ eG Fx.out hl0 hl1;generalize g2.last=l at *;have H6:=uH h6;have QJ:=uH hl1;clear h5 h6 eG zu jD bJ F5 hlast hl0 hl1;go_wp2_with fail;refine kG.mono ?_;rintro e w6 ⟨g6,rfl,Yf,IB,hb6⟩;have h7:=H6.out.below hb6;have H7:=uH h7;have HG:=uH Yf;have Vd:∀ j:Nat,j < l.length->∃ x,l[j]? =some x:=fun j hj=>⟨_,List.getElem?_eq_getElem hj⟩
  have HX:=uH Vd;clear kG h7 Yf IB hb6 Vd ZF d5 k12 g5 g9 H6;go_wp2_with fail
  go_loopw [31] (fun i wr=>∃ q:Nat,q<=l.length/\i=.i q/\Below w6.heap.size w6 wr/\(∀ x ∈ l.take q,eF x 3 who=false)) (fun i _=>l.length - (intOf i).toNat)
  case atStart=>exact⟨0,ag,rfl,Below.refl _ _,au⟩
  case round=>
   obtain⟨q,hq,rfl,hb,hno⟩:=hrel;have k0:(0:Int)<=(q:Int):=ag
   by_cases hlt:q < l.length
   ·obtain⟨x,hx⟩:=HX.out q hlt;have h8:=H7.out.below hb;have hD:=aS wr x h8.laid;have hg8:mR wr g6 l:=(hb.block _ (af.lt HG.out)).trans HG.out;have hcx:wr.cell? ⟨g6,q,none⟩=some (.i x):=hg8.get hx;have k1:(q:Int) < (l.length:Int):=ag
    have k2:q<=1000:=by have:=QJ.out;omega
    have e1:l.take (q+1)=l.take q ++ [x]:=by rw[List.take_add_one,hx];rfl
    have E1:=uH e1;have HXX:=uH hx;have HB:=uH hb;have HNO:=uH hno;have Ph:=uH hlt;clear h8 hg8 hx hb hno e1 hlt
    cases yY:dec x with
    | none=>
     have hfw:eF x 3 who=false:=by unfold eF;rw[yY]
     have Yi:=uH hfw;simp only[yY,Option.getD_none,Option.isSome_none]at hD;clear yY hfw;go_wp2_with fail;refine hD.mono ?_;rintro e w8 ⟨rfl,cZ⟩;have B8:=aW HB.out cZ;clear hD cZ hcx;dsimp only;go_step;refine gl (.tuple #[S.zero.val,.bool false]) ?_;refine gl S.zero.val ?_;refine gl (.bool false) ?_;refine dU (ob:=.cells av 57) (Z:=av) (cs:=S.zero.cells) (t:=57) 57 (.tmp 7) (.tmp 38) rfl ?_;refine gl (.bool false) (ay ?_)
     rw[aG];have B9:Below w6.heap.size w6 (w8.alloc (.cells S.zero.cells 57)):=B8.alloc B8.size _;have r9:af (w8.alloc (.cells S.zero.cells 57)) w8.heap.size S.zero.cells 57:=heap_alloc_new w8 _;generalize w8.alloc (.cells S.zero.cells 57)=w9 at *;generalize w8.heap.size=sb at *;have U2:=uH B9;clear B8 B9 r9;go_wp2_with fail
     go_roundw
     case rel=>exact⟨q+1,by have:=Ph.out;omega,by go_num,U2.out,fun y hy=>by rw[E1.out]at hy;rcases List.mem_append.1 hy with hy | hy;exact HNO.out y hy;rw[List.mem_singleton.1 hy];exact Yi.out⟩
     case measure=>have:=Ph.out;simp[intOf];omega
    | some z=>
     have hfw:eF x 3 who=Find.fits z 3 who:=by unfold eF;rw[yY]
     have Yi:=uH hfw;simp only[yY,Option.getD_some,Option.isSome_some]at hD;clear yY hfw;go_wp2_with fail;refine hD.mono ?_;rintro e w8 ⟨rfl,cZ⟩;have B8:=aW HB.out cZ;clear hD cZ hcx;dsimp only;go_step;refine gl (.tuple #[z.val,.bool true]) ?_;refine gl z.val ?_;refine gl (.bool true) ?_;refine dU (ob:=.cells av 57) (Z:=av) (cs:=z.cells) (t:=57) 57 (.tmp 7) (.tmp 38) rfl ?_;refine gl (.bool true) (ay ?_)
     rw[aG];have B9:Below w6.heap.size w6 (w8.alloc (.cells z.cells 57)):=B8.alloc B8.size _;have r9:af (w8.alloc (.cells z.cells 57)) w8.heap.size z.cells 57:=heap_alloc_new w8 _;generalize w8.alloc (.cells z.cells 57)=w9 at *;generalize w8.heap.size=sb at *;have t0:w9.cell? ⟨sb,0,none⟩=some (.i z.state):=af.cell r9 0;have t1:w9.cell? ⟨sb,1,none⟩=some (.i z.own):=af.cell r9 1;have t2:w9.cell? ⟨sb,2,none⟩=some (.i z.streams):=af.cell r9 2;have t3:w9.cell? ⟨sb,3,none⟩=some (.bool z.broken):=af.cell r9 3;have t4:w9.cell? ⟨sb,4,none⟩=some (.bool z.marked):=af.cell r9 4;have t5:w9.cell? ⟨sb,5,none⟩=some (.i z.uses):=af.cell r9 5;have t6:w9.cell? ⟨sb,6,none⟩=some (.i z.gen):=af.cell r9 6;have t7:w9.cell? ⟨sb,7,none⟩=some (.i z.aJ):=af.cell r9 7;have t8:w9.cell? ⟨sb,8,none⟩=some (.i z.version):=af.cell r9 8;have hft:=Find.vS w9 z 3 who ag
     simp only[S.val,S.cells]at hft;have U2:=uH B9;clear B8 B9 r9;cases U3:Find.fits z 3 who
     ·rw[U3]at hft;have HFF:=uH (Yi.out.trans U3);clear U3;go_wp2_with fail;refine hft.mono ?_;rintro e dH ⟨rfl,jA⟩;have ZG:=uH (aW U2.out jA);clear hft jA t0 t1 t2 t3 t4 t5 t6 t7 t8;go_wp2_with fail
      go_roundw
      case rel=>exact⟨q+1,by have:=Ph.out;omega,by go_num,ZG.out,fun y hy=>by rw[E1.out]at hy;rcases List.mem_append.1 hy with hy | hy;exact HNO.out y hy;rw[List.mem_singleton.1 hy];exact HFF.out⟩
      case measure=>have:=Ph.out;simp[intOf];omega
     ·rw[U3]at hft;have hany:l.any (fun w=>eF w 3 who)=true:=List.any_eq_true.2 ⟨x,List.mem_of_getElem? HXX.out,Yi.out.trans U3⟩;have hkr:=Yh.out;rw[if_pos hany]at hkr;subst hkr;clear U3 hany;go_wp2_with fail;refine hft.mono ?_;rintro e dH ⟨rfl,jA⟩;have h10:=H7.out.below (aW U2.out jA);have d0:dH.cell? ⟨p.gb,0,none⟩=some (.i m.cf.workers):=h10.az 0;have d1:dH.cell? ⟨p.gb,1,none⟩=some (.i m.cf.slots):=h10.az 1;have d2:dH.cell? ⟨p.gb,2,none⟩=some (.i m.cf.streams):=h10.az 2;have d3:dH.cell? ⟨p.gb,3,none⟩=some (.i m.cf.waiters):=h10.az 3;have d4:dH.cell? ⟨p.gb,4,none⟩=some (.i m.cf.uses):=h10.az 4;have hnew:=Cl.nU dH m.cf who;simp only[Cf.val,Cf.cells]at hnew;have uZ:=uH h10;clear h10 hft jA t0 t1 t2 t3 t4 t5 t6 t7 t8 Yh;go_wp2_with fail;refine hnew.mono ?_;rintro e kU ⟨ub,rfl,hr,hge,ku⟩;have hmk:=Ec kU p.gb who ub
      have HR:=uH hr;have HGE:=uH hge;have WI:=uH ku;clear hnew hr hge ku d0 d1 d2 d3 d4;go_wp2_with fail;refine hmk.mono ?_;rintro e uo ⟨u,q1,q2,q3,rfl,hcl,jL⟩;have hJ:=FK uZ.out HR.out ⟨rfl,rfl⟩ HGE.out WI.out hcl jL;have TJ:=aW WI.out jL;have h12:=uZ.out.below TJ;obtain⟨uF,TB,Yb⟩:=hJ.fn;subst Yb;have u11:uo.cell? ⟨p.kb,who * 35+11,none⟩=some (v.work):=h12.aL 11 rfl;have Ik:uo.frozen? ⟨p.kb,who * 35+11,none⟩=false:=h12.dZ 11 aT;have vV:=h12.put 11 aT (.func (.func uF) #[] TB) (k':={k with two:=some g2}) (v':={v with work:=.func (.func uF) #[] TB}) rfl;have Ep:aD (fun b=>b=p.kb) uo (uo.setCell ⟨p.kb,who * 35+11,none⟩ (.func (.func uF) #[] TB)):=(aD.refl _ _).setCell _ _ (fun _=>rfl);have IJ:=TJ.size
      have WJ:=hJ.aK (L':=In (uo.setCell ⟨p.kb,who * 35+11,none⟩ (.func (.func uF) #[] TB)) p.ow (8+who)) Ep (fun e=>by have h7:p.ow p.kb=7:=h12.core.lk;have h0:p.ow 0=0:=h12.core.l0.1;rw[<- e,h0]at h7;omega) (fun b hb e=>by have hh:p.kb < dH.heap.size:=uZ.out.core.uU;omega) vV.mem (fun b hb=>⟨by have:=Ep.size;omega,uZ.out.fresh b hb.1⟩);have Nl:=uH vV;have ZH:=uH WJ;clear hJ WJ h12 vV Ep hcl jL TJ hmk IJ;go_upto_region 8 with(fail);generalize uo.setCell ⟨p.kb,who * 35+11,none⟩ (.func (.func uF) #[] TB)=JL at *;have e0:JL.cell? ⟨p.kb,who * 35,none⟩=some (.i k.st):=Nl.out.aL 0 rfl;have U0:JL.frozen? ⟨p.kb,who * 35,none⟩=false:=Nl.out.dZ 0 aT;clear u11 Ik;go_wp2_with fail
      first | go_end0 | refine bP ?_
      have yE:=Nl.out.put 0 aT (.i 2) (k':={k with two:=some g2,st:=2,bq:=some (.get (Tk.new m.cf who))}) (v':={v with work:=.func (.func uF) #[] TB}) rfl;have IG:aD (fun b=>b=p.kb) JL (JL.setCell ⟨p.kb,who * 35,none⟩ (.i 2)):=(aD.refl _ _).setCell _ _ (fun _=>rfl);have ZI:=ZH.out.aK (L':=In (JL.setCell ⟨p.kb,who * 35,none⟩ (.i 2)) p.ow (8+who)) IG (fun e=>by have h7:p.ow p.kb=7:=Nl.out.core.lk;have h0:p.ow 0=0:=Nl.out.core.l0.1;rw[<- e,h0]at h7;omega) (fun b hb e=>Nl.out.SN hb e) yE.mem (fun b hb=>hb.mono IG.size);exact⟨rfl,p,_,yE,⟨fun _=>⟨_,rfl,ZI⟩,fun e=>absurd (show(2:Nat)=3 from e) aT,fun e=>absurd (show(2:Nat)=4\/(2:Nat)=8 from e) aT,fun e=>absurd (show(2:Nat)=5 from e) aT⟩⟩
   ·have WG:q=l.length:=ag
    subst WG
    have hany:l.any (fun w=>eF w 3 who)=false:=by
     rw[List.take_length]at hno;rw[List.any_eq_false];intro y hy;rw[hno y hy]
     decide
    have hkr:=Yh.out;rw[if_neg (by rw[hany];decide)]at hkr;subst hkr;have hen:=gU (H7.out.below hb) {Mod.Ev.zero with e:=3};clear hany hno hb Yh;go_wp2_with fail;refine hen.mono ?_;rintro e w9 ⟨rfl,v9,h9,a9,-⟩;have H9:=uH h9;have A9:=uH a9;clear hen h9 a9;go_wp2_with fail
    first | go_end0 | refine bP ?_
    exact⟨rfl,p,v9,H9.out,A9.out⟩
def Ip:=@And.left _ _ Rj
def Ck:=@And.right _ _ Rj
theorem evi:∃ i0,prog.info? 47=some i0/\i0.zero=some Mod.Ev.zero.val/\i0.size=18/\i0.bytes=136:=by
 have h:(prog.info? 47).map (fun i=>(i.zero,i.size,i.bytes))=some (some Mod.Ev.zero.val,18,136):=ax
 cases hi:prog.info? 47 with
 | none=>rw[hi]at h;cases h
 | some i0=>
  rw[hi]at h;simp only[Option.map_some,Option.some.injEq,Prod.mk.injEq]at h;exact⟨i0,rfl,h.1,h.2.1,h.2.2⟩
section
variable {ops:Array Oper} {Q:Exit->Act->World->Prop} {md:Region.Mode} {S:World->Prop}
variable {listed:Array Bool}
theorem ja {i fuel:Nat} {a:Act} {w:World} {d:Option Tmp} (x:Operand)
  (ho:(ops[i]?).map (fun o=>(o.dst,o.op,o.guard))=some (d,Op.buildSlice 41 1 #[(0,x)],none)) (y:Mod.Ev) (hx:a.eval x=.agg y.cells)
  (hS:S (w.alloc (.cells y.cells 47))) (h:S (w.alloc (.cells y.cells 47))->wpAnyH prog md ops Q S fuel (listed.setIfInBounds i true) (a.put d (.slice (some ⟨w.heap.size,0,none⟩) 1 1)) (w.alloc (.cells y.cells 47))):ko prog md ops Q S fuel listed a w i:=by
 obtain⟨o,sF,vO,vP,yU⟩:=nG ho;refine wpOp_step sF fun K hK=>?_
 rw[if_pos (by simp[Region.wanted,yU])];have e:((#[(0,x)]:Array (Nat×Operand)).map fun(i,x)=>(i,a.eval x))=#[(0,.agg y.cells)]:=by simp[hx]
 unfold Oper.wp execOp;simp only[vP];rw[e];simp only[Sem.run_bind,Mod.JR w y,Result.andThen_ok];rw[<- vO]at h;exact hK _ _ ⟨hS,h hS⟩
theorem nQ {i fuel:Nat} {a:Act} {w:World} {d:Option Tmp} (s z:Operand)
  (ho:(ops[i]?).map (fun o=>(o.dst,o.op,o.guard))=some (d,Op.call {callee:=Callee.builtin Builtin.append,args:=#[s,z],argTypes:=#[41,41]},none))
  (v:Value) (evs:List Mod.Ev) (y:Mod.Ev) (b:Nat) (hs:a.eval s=v) (hown:bR w v evs.length 18 (gL evs)) (hn:evs.length<=100000000) (hz:a.eval z=.slice (some ⟨b,0,none⟩) 1 1) (hb:af w b y.cells 47)
  (hK:∀ a' c' w',bR w' (.slice a' (evs.length+1) c') (evs.length+1) 18 (gL (evs ++ [y]))->(∀ k,Fp (.slice a' (evs.length+1) c') k->Fp v k\/w.heap.size<=k)->aD (Fp v) w w'->S w'/\wpAnyH prog md ops Q S fuel (listed.setIfInBounds i true) (a.put d (.slice a' (evs.length+1) c')) w'):ko prog md ops Q S fuel listed a w i:=by
 obtain⟨i0,hi,hz0,hz1,hz2⟩:=evi;obtain⟨o,sF,vO,vP,yU⟩:=nG ho;refine wpOp_step sF fun K Fe=>?_
 rw[if_pos (by simp[Region.wanted,yU])]
 obtain⟨a',c',w',hrun,r1,r2,r3⟩:=Hp.pR (P:=prog) w 41 o.type 47 i0 Mod.Ev.zero.val 18 136 underlying41 hi hz0 hz1 hz2 rfl aT v evs.length (gL evs) hown ⟨b,0,none⟩ 1 1 y.cells.toList (by unfold Mod.Ev.cells;rfl)
  (by
   intro j u hu;have:=af.cell hb j;rw[<- Array.getElem?_toList,hu]at this;have he:(⟨b,0,none⟩:Addr).add j=⟨b,j,none⟩:=by by_cases h0:j=0<;>simp[Addr.add,h0]
   rw[he];exact this)
  (by
   intro u hu;have h1:y.cells.all (·.oneCell')=true:=ax
   rw[Array.all_eq_true_iff_forall_mem]at h1;exact h1 u (Array.mem_toList_iff.1 hu)) (by unfold maxLen;omega) ag
 unfold Oper.wp;simp[execOp,vP,resolve,invoke,builtin,hs,hz,hrun,Result.andThen];subst vO;exact Fe _ _ (hK _ _ _ (by simpa [gL] using r1) r2 r3)
end
def Mp.event (p:Mp) (W W1:World) (v:Value):Mp:={p with ev:=v,ow:=fun b=>if W.heap.size<=b/\b < W1.heap.size then 6 else p.ow b}
def Mc.told (m:Mc) (y:Mod.Ev):Mc:={m with evs:=m.evs ++ [y]}
section
variable {W0 W W1:World} {p0 p:Mp} {m:Mc} {who:Nat} {k:Wk} {v:KV} {s:Sh}
theorem eT {u:Value} {b:Nat} (hb:b < W.heap.size):(p.event W W1 u).ow b=p.ow b:=if_neg ag
theorem Hg {u:Value} {b:Nat} (hb:W1.heap.size<=b):(p.event W W1 u).ow b=p.ow b:=if_neg ag
theorem Hl {u:Value} {b:Nat} (h1:W.heap.size<=b) (h2:b < W1.heap.size):(p.event W W1 u).ow b=6:=if_pos ⟨h1,h2⟩
theorem yC {u:Value} (h:Core W p m) (hc:aD (Fp p.ev) W W1):aD (fun b=>Fp p.ev b\/b=p.gb) W (W1.setCell ⟨p.gb,8,none⟩ u):=
 (hc.mono (fun b _ e=>.inl e)).setCell _ _ (fun _=>.inr rfl)
theorem Core.event (h:Core W p m) {a':Option Addr} {c':Nat} {y:Mod.Ev} (ho:bR W1 (.slice a' (m.evs.length+1) c') (m.evs.length+1) 18 (gL (m.evs ++ [y]))) (hf:∀ b,Fp (.slice a' (m.evs.length+1) c') b->Fp p.ev b\/W.heap.size<=b) (hc:aD (Fp p.ev) W W1):
  Core (W1.setCell ⟨p.gb,8,none⟩ (.slice a' (m.evs.length+1) c')) (p.event W W1 (.slice a' (m.evs.length+1) c')) (m.told y):=by
 have hs:=hc.size;have hcc:=yC (u:=.slice a' (m.evs.length+1) c') h hc;have hn:∀ b,p.ow b≠6->p.ow b≠1->¬ (Fp p.ev b\/b=p.gb):=fun b h6 h1 e=>e.elim (fun e=>h6 (h.le b e)) (fun e=>h1 (by rw[e];exact h.lg))
 have l0:0 < W.heap.size:=h.laid.lt aT;have l2:2 < W.heap.size:=dN (h.tab 0 aT);have hrow:=af.aK h.row hc (fun e=>by have:=h.le _ e;rw[h.lg]at this;cases this)
 have UN:∀ b,Fp (.slice a' (m.evs.length+1) c') b->¬ b=p.gb:=by
  rintro b hb rfl
  rcases hf _ hb with e | e
  ·have:=h.le _ e;rw[h.lg]at this;cases this
  ·have:=h.qp;omega
 refine⟨?_,h.mem.stable (hcc.block _ h.mem.lt.1 (hn _ (by rw[h.lm];decide) (by rw[h.lm];decide))) (hcc.block _ h.mem.lt.2 (hn _ (by rw[h.lw];decide) (by rw[h.lw];decide))),af.aK h.JH hcc (hn p.cb (by rw[h.lc];decide) (by rw[h.lc];decide)),
  h.Fz.aK hcc (fun b hb=>hn _ (by rw[h.lo b hb];decide) (by rw[h.lo b hb];decide)),?_,h.ks.stable (hcc.block _ h.uU (hn _ (by rw[h.lk];decide) (by rw[h.lk];decide))),h.k0,
  h.laid.stable (hcc.block 0 l0 (hn _ (by rw[h.l0.1];decide) (by rw[h.l0.1];decide))),h.tab.stable (hcc.block 2 l2 (hn _ (by rw[h.l0.2];decide) (by rw[h.l0.2];decide))),
  ⟨(eT l0).trans h.l0.1,(eT l2).trans h.l0.2⟩,(eT h.qp).trans h.lg,(eT h.mem.lt.1).trans h.lm,(eT h.mem.lt.2).trans h.lw,(eT h.Ot).trans h.lc,fun b hb=>(eT (h.Fz.lt hb)).trans (h.lo b hb),?_,(eT h.uU).trans h.lk⟩
 ·exact af.aB hrow 8 _
 ·have hl:(m.evs ++ [y]).length=m.evs.length+1:=au
  show bR _ _ (m.evs ++ [y]).length 18 (gL (m.evs ++ [y]))
  rw[hl];exact ho.aK ((aD.refl (fun b=>b=p.gb) _).setCell _ _ (fun _=>rfl)) UN
 ·intro b hb
  by_cases hbs:b < W.heap.size
  ·refine(eT hbs).trans (h.le b ?_)
   rcases hf b hb with e | e
   ·exact e
   ·omega
  ·exact Hl ag (ho.lt hb)
theorem Mx.event (h:Mx W0 p0 W p m who k v s) {a':Option Addr} {c':Nat} {y:Mod.Ev} (ho:bR W1 (.slice a' (m.evs.length+1) c') (m.evs.length+1) 18 (gL (m.evs ++ [y]))) (hf:∀ b,Fp (.slice a' (m.evs.length+1) c') b->Fp p.ev b\/W.heap.size<=b) (hc:aD (Fp p.ev) W W1):
  Mx W0 p0 (W1.setCell ⟨p.gb,8,none⟩ (.slice a' (m.evs.length+1) c')) (p.event W W1 (.slice a' (m.evs.length+1) c')) (m.told y) who k v s:=by
 have hcc:aD (fun b=>Fp p.ev b\/b=p.gb) W (W1.setCell ⟨p.gb,8,none⟩ (.slice a' (m.evs.length+1) c')):=yC (p:=p.mid who v) (m:=m.mid who k s) h.core hc;have hs:=hcc.size;have hs1:(W1.setCell ⟨p.gb,8,none⟩ (.slice a' (m.evs.length+1) c')).heap.size=W1.heap.size:=by simp[World.setCell]
 have hn:∀ b,p.ow b≠6->p.ow b≠1->¬ (Fp p.ev b\/b=p.gb):=fun b h6 h1 e=>e.elim (fun e=>h6 (h.core.le b e)) (fun e=>h1 (by rw[e];exact h.core.lg))
 have hm:=h.mem;refine⟨h.core.event ho hf hc,fun i q hi hq=>?_,h.hw,fun b hb=>(Hg ag).trans (h.fresh b ag),h.kept.trans ⟨⟨rfl,rfl,rfl,rfl,rfl,rfl,rfl⟩,fun b hb=>eT hb,hcc.mono (fun b _ e=>?_)⟩⟩
 ·refine bF.aK (h.jobs i q hi hq) hcc (hn 0 (by rw[show p.ow 0=0 from h.core.l0.1];decide) (by rw[show p.ow 0=0 from h.core.l0.1];decide)) (fun b hb=>hn b (by rw[hb.2];omega) (by rw[hb.2];omega)) ?_ (fun b hb=>⟨by have:=hb.1;omega,(eT hb.1).trans hb.2⟩);exact hm.stable (hcc.block _ hm.lt.1 (hn _ (by rw[show p.ow p.mb=2 from h.core.lm];decide) (by rw[show p.ow p.mb=2 from h.core.lm];decide))) (hcc.block _ hm.lt.2 (hn _ (by rw[show p.ow p.wb=3 from h.core.lw];decide) (by rw[show p.ow p.wb=3 from h.core.lw];decide)))
 ·rcases e with e | e
  ·rw[show p.ow b=6 from h.core.le b e];decide
  ·rw[e,show p.ow p.gb=1 from h.core.lg];decide
end
theorem RA (x:Mod.Ev) (who at':Int) (a:Mod.Ask):(((((((((x.cells.setIfInBounds 0 (.bool true)).setIfInBounds 1 (.i who)).setIfInBounds 2 (.i at')).setIfInBounds 3 (.i a.op)).setIfInBounds 4 (.i a.deadline)).setIfInBounds 5 (.bool a.wait)).setIfInBounds 6 (.bool a.force)).setIfInBounds 7 (.i a.slot)).setIfInBounds 8 (.i a.gen)).setIfInBounds 9 (.i a.stream)=({x with ended:=true,who:=who,at':=at',ask:=a}:Mod.Ev).cells:=by
 simp only[Mod.Ev.cells,sA,sZ,sS]
theorem Nv {W:World} {eb:Nat} {Z:Array Value} {t:TypeId} (r:af W eb Z t) (a:Mod.Ask):af (W.setCells eb 3 ((Ag a.op a.deadline a.wait a.force a.slot a.gen a.stream):Array Value).toList) eb (((((((Z.setIfInBounds 3 (.i a.op)).setIfInBounds 4 (.i a.deadline)).setIfInBounds 5 (.bool a.wait)).setIfInBounds 6 (.bool a.force)).setIfInBounds 7 (.i a.slot)).setIfInBounds 8 (.i a.gen)).setIfInBounds 9 (.i a.stream)) t:=by
 simp only[World.setCells];exact af.aB (af.aB (af.aB (af.aB (af.aB (af.aB (af.aB (r) 3 (.i a.op)) 4 (.i a.deadline)) 5 (.bool a.wait)) 6 (.bool a.force)) 7 (.i a.slot)) 8 (.i a.gen)) 9 (.i a.stream)
theorem stb {w:World} {g off:Nat} {Z:Array Value} {t:TypeId} {b:Bool} (h:af w g Z t) (ho:off < Z.size):(Instr.storeAt 4 (.pointer (some ⟨g,off,none⟩)) (.bool b)).run prog w=.ok () (w.setCell ⟨g,off,none⟩ (.bool b)):=by
 have hc:=h.cell off;rw[Array.getElem?_eq_getElem ho]at hc;have hf:=h.frozen off;generalize Z[off]=z at hc;clear h ho
 go_simp
theorem sti {w:World} {g off:Nat} {Z:Array Value} {t:TypeId} {b:Int} (h:af w g Z t) (ho:off < Z.size):(Instr.storeAt 3 (.pointer (some ⟨g,off,none⟩)) (.i b)).run prog w=.ok () (w.setCell ⟨g,off,none⟩ (.i b)):=by
 have hc:=h.cell off;rw[Array.getElem?_eq_getElem ho]at hc;have hf:=h.frozen off;generalize Z[off]=z at hc;clear h ho
 go_simp
theorem sts {w:World} {g off:Nat} {z:Value} {a:Option Addr} {n c:Nat} (hc:w.cell? ⟨g,off,none⟩=some z) (hf:w.frozen? ⟨g,off,none⟩=false):(Instr.storeAt 41 (.pointer (some ⟨g,off,none⟩)) (.slice a n c)).run prog w=.ok () (w.setCell ⟨g,off,none⟩ (.slice a n c)):=by
 go_simp
theorem Mx.range {W0 W:World} {p0 p:Mp} {m:Mc} {who:Nat} {k:Wk} {v:KV} {s:Sh} (h:Mx W0 p0 W p m who k v s):W.rangeAt p.kb (who * 35+17) k.ans.cells.toList:=by
 intro j u hu;rw[Nat.add_assoc];refine h.aL (17+j) ?_;rw[<- Array.getElem?_toList,qf,List.getElem?_append_right (by show 17<=17+j;omega)];rw[show 17+j - (zn k v).length=j by show 17+j - 17=j;omega];exact hu
theorem Ir {W0 W:World} {p0 p:Mp} {m:Mc} {who:Nat} {k:Wk} {v:KV} {s:Sh} (h:Mx W0 p0 W p m who k v s) {t:Ty.Ty} {tb:Nat} {lo ro:Option Nat} (hst:k.st=5) (hv:v.tidy=ptr tb) (hg:bu W tb p.mb p.wb lo ro t s.ws s.tc) (hd:∀ b,jo tb lo ro b->In W p.ow (8+who) b) (ok:BZ m.cf who t) (hM:aA m.cf) (hm:Ia m.cf s.ws) (ht:(s.tc:Int)<=4000000000000000000) (hdn:¬ (t.step s.ws).1.st=17):Calls prog 67 #[ptr p.gb,.i who] W (bV W0 p0 m who ({k with tidy:=some (t.step s.ws).1}) (s.cells (t.step s.ws).2)):=by
 obtain⟨hx0,hx1,hx2⟩:=idx h.hw;have hcf:=ok.cf;have bJ:=tV (hg.below bY) (by rw[hm.l.len];exact ok.ok) ⟨fun o ho=>hm.pin o (by rw[<- hcf];exact ho),by obtain⟨L,hL⟩:=hm.l.line;have:=hL.bd hM;omega⟩ ⟨ag,ht⟩;unfold mJ kY at bJ;rw[decide_eq_false hdn]at bJ;obtain⟨r,hr⟩:∃ r,r=t.step s.ws:=⟨_,rfl⟩
 rw[<- hr]at bJ hdn ⊢;clear hr;obtain⟨g2,jq,n2⟩:=r;dsimp only at bJ hdn ⊢;have g5:W.cell? ⟨p.gb,5,none⟩=some (ptr p.mb):=h.az 5;have g9:W.cell? ⟨p.gb,9,none⟩=some (.slice (some ⟨p.kb,0,none⟩) m.ks.length m.ks.length):=h.az 9;have k14:W.cell? ⟨p.kb,who * 35+14,none⟩=some (ptr tb):=(h.aL 14 (u:=v.tidy) rfl).trans (by rw[hv]);have hdr:Below W.heap.size W W.drew:=bY;have H:=uH (h.below hdr);have hd0:∀ b,jo tb lo ro b->In W.drew p.ow (8+who) b:=fun b hb=>(hd b hb).mono hdr.size
 have HD:=uH hd0;have HST:=uH hst;have HV:=uH hv;clear h hst hv hd hd0 hdr ok hM hm ht hcf hg hdn
 go_enter func67,ntmps67
 go_wp2_with fail
 go_region_held3 (fun w'=>w'.cell? ⟨p.kb,who * 35+14,none⟩=some (ptr tb)/\w'.cell? ⟨p.gb,5,none⟩=some (ptr p.mb)) (first | go_keep | exact⟨aI,aI⟩)
  ((first
  | (go_at_call 92;refine bJ.mono ?_;rintro e w5 ⟨rfl,jZ,iE,jD,xh,IE,gz⟩;have eG:bu w5 tb p.mb p.wb jZ iE g2 jq ((s.tc+n2:Nat):Int):=jD;have h5:=H.out.mG (fun b hb=>HD.out b hb) gz eG.mem;have F5:=H.out.zK HD.out gz.size (tu xh IE) (bu.Dc eG);have TG:w5.cell? ⟨p.kb,who * 35+14,none⟩=some (ptr tb):=(h5.aL 14 (u:=v.tidy) rfl).trans (by rw[HV.out]);have d5:w5.cell? ⟨p.gb,5,none⟩=some (ptr p.mb):=h5.az 5)))
 have h6:=h5.same (k':={k with tidy:=some g2}) (v':=v) rfl;have H6:=uH h6;have A6:=uH (show bF w5 p.gb p.mb p.wb (In w5 p.ow (8+who)) who jq ((s.tc+n2:Nat):Int) m.cf {k with tidy:=some g2} v from⟨fun e=>absurd (HST.out.symm.trans e) aT,fun e=>absurd (HST.out.symm.trans e) aT,fun e=>e.elim (fun e=>absurd (HST.out.symm.trans e) aT) (fun e=>absurd (HST.out.symm.trans e) aT),fun _=>⟨g2,tb,jZ,iE,rfl,HV.out,eG,F5⟩⟩);clear h5 h6 eG gz jD bJ F5;go_wp2_with fail
 first | go_end0 | refine bP ?_
 exact⟨rfl,p,v,H6.out,A6.out⟩
theorem Cn {W0 W:World} {p0 p:Mp} {m:Mc} {who:Nat} {k:Wk} {v:KV} {s:Sh} (h:Mx W0 p0 W p m who k v s) {t:Ty.Ty} {tb:Nat} {lo ro:Option Nat} (hst:k.st=5) (hv:v.tidy=ptr tb) (hg:bu W tb p.mb p.wb lo ro t s.ws s.tc) (hd:∀ b,jo tb lo ro b->In W p.ow (8+who) b) (ok:BZ m.cf who t) (hM:aA m.cf) (hm:Ia m.cf s.ws) (ht:(s.tc:Int)<=4000000000000000000) (hdn:(t.step s.ws).1.st=17) (hpk:k.dO=true):Calls prog 67 #[ptr p.gb,.i who] W (bV W0 p0 m who ({k with tidy:=some (t.step s.ws).1,st:=6}) (s.cells (t.step s.ws).2)):=by
 obtain⟨hx0,hx1,hx2⟩:=idx h.hw;have hcf:=ok.cf;have bJ:=tV (hg.below bY) (by rw[hm.l.len];exact ok.ok) ⟨fun o ho=>hm.pin o (by rw[<- hcf];exact ho),by obtain⟨L,hL⟩:=hm.l.line;have:=hL.bd hM;omega⟩ ⟨ag,ht⟩;unfold mJ kY at bJ;rw[decide_eq_true hdn]at bJ;obtain⟨r,hr⟩:∃ r,r=t.step s.ws:=⟨_,rfl⟩
 rw[<- hr]at bJ hdn ⊢;clear hr;obtain⟨g2,jq,n2⟩:=r;dsimp only at bJ hdn ⊢;have g5:W.cell? ⟨p.gb,5,none⟩=some (ptr p.mb):=h.az 5;have g9:W.cell? ⟨p.gb,9,none⟩=some (.slice (some ⟨p.kb,0,none⟩) m.ks.length m.ks.length):=h.az 9;have k14:W.cell? ⟨p.kb,who * 35+14,none⟩=some (ptr tb):=(h.aL 14 (u:=v.tidy) rfl).trans (by rw[hv]);have hdr:Below W.heap.size W W.drew:=bY;have H:=uH (h.below hdr);have hd0:∀ b,jo tb lo ro b->In W.drew p.ow (8+who) b:=fun b hb=>(hd b hb).mono hdr.size
 have HD:=uH hd0;have HST:=uH hst;have HV:=uH hv;have ZB:=uH hpk;clear h hst hv hd hd0 hdr ok hM hm ht hcf hg hdn hpk
 go_enter func67,ntmps67
 go_wp2_with fail
 go_region_held3 (fun w'=>w'.cell? ⟨p.kb,who * 35+14,none⟩=some (ptr tb)/\w'.cell? ⟨p.gb,5,none⟩=some (ptr p.mb)) (first | go_keep | exact⟨aI,aI⟩)
  ((first
  | (go_at_call 92;refine bJ.mono ?_;rintro e w5 ⟨rfl,jZ,iE,jD,xh,IE,gz⟩;have eG:bu w5 tb p.mb p.wb jZ iE g2 jq ((s.tc+n2:Nat):Int):=jD;have h5:=H.out.mG (fun b hb=>HD.out b hb) gz eG.mem;have F5:=H.out.zK HD.out gz.size (tu xh IE) (bu.Dc eG);have TG:w5.cell? ⟨p.kb,who * 35+14,none⟩=some (ptr tb):=(h5.aL 14 (u:=v.tidy) rfl).trans (by rw[HV.out]);have d5:w5.cell? ⟨p.gb,5,none⟩=some (ptr p.mb):=h5.az 5)))
 have h6:=h5.same (k':={k with tidy:=some g2}) (v':=v) rfl;have e15:w5.cell? ⟨p.kb,who * 35+15,none⟩=some (.bool true):=(h6.aL 15 (u:=.bool k.dO) rfl).trans (by rw[ZB.out]);have e0:w5.cell? ⟨p.kb,who * 35,none⟩=some (.i k.st):=h6.aL 0 rfl;have U0:w5.frozen? ⟨p.kb,who * 35,none⟩=false:=h6.dZ 0 aT;have H6:=uH h6;clear h5 h6 eG gz jD bJ F5;go_wp2_with fail
 first | go_end0 | refine bP ?_
 exact⟨rfl,p,v,H6.out.put 0 aT (.i 6) (k':={k with tidy:=some g2,st:=6}) (v':=v) rfl,kH (.inr (.inr (.inl rfl)))⟩
end Mc
end Go.Proofs.YtbklamnimfmjkaaGreatDoor
