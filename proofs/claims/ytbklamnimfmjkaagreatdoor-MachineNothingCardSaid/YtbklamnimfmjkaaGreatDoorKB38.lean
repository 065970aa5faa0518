/- Part 38 of the walks and plain laws that the last text joins. -/
import Derived.Test.YtbklamnimfmjkaaGreatDoorKB37
set_option maxRecDepth 100000
set_option maxHeartbeats 16000000
set_option linter.all false
open Go.Proofs.Tryz
namespace Go.Proofs.YtbklamnimfmjkaaGreatDoor
namespace Mc
open Go.RowKit Hp ah aj Slot ai Tk Cl
theorem Il {W:World} {p:Mp} {m:Mc} (h:Core W p m) {w:Int} (hw:m.has w=false):Calls prog 34 #[ptr p.gb,.i w] W (fun e W'=>e=.returned (.bool false)/\Below W.heap.size W W'):=by
 have hhas:=gV h w;rw[hw]at hhas;clear h hw
 go_enter func34,ntmps34
 go_wp2_with fail;refine hhas.mono ?_;rintro e w1 ⟨rfl,rfl⟩;clear hhas;go_wp2_with fail;go_ret;exact⟨rfl,Below.refl _ _⟩
section
variable {W W':World} {p:Mp} {m:Mc}
theorem aZ.stay (h:aZ W p m) (hb:Below W.heap.size W W'):∃ p',aZ W' p' m/\Kept W p W' p':=by
 obtain⟨k,hk⟩:∃ k,m.ks[0]? =some k:=⟨_,List.getElem?_eq_getElem h.core.k0⟩
 obtain⟨hx,ha⟩:=Mx.begin h hk;have:=(hx.below hb).fin (ha.below hx hb);rw[rD hk]at this;exact this
theorem aZ.no (h:aZ W p m) {F:Nat} {vals:Array Value} (hc:Calls prog F vals W (fun e W'=>e=.returned (.bool false)/\Below W.heap.size W W')):Calls prog F vals W (iI W p (.bool false) m):=by
 refine hc.mono ?_;rintro e w1 ⟨rfl,hb⟩;exact⟨rfl,h.stay hb⟩
theorem qx {w:Int} (hw:m.has w=true):(w.toNat:Int)=w/\m.ks[w.toNat]? =some (m.worker w):=by
 have h:=of_decide_eq_true hw;have hl:w.toNat < m.ks.length:=ag
 refine⟨ag,?_⟩;unfold Mc.worker;rw[List.getElem?_eq_getElem hl];rfl
theorem KT (h:aZ W p m) {n:Nat} (hE:∀ (i:Nat) (k:Wk),m.ks[i]? =some k->Env n m.cf i k m.sh) (hev:m.evs.length<=100000000) (w:Int):Calls prog 34 #[ptr p.gb,.i w] W (iI W p (.bool (m.pick w).1) (m.pick w).2):=by
 cases hw:m.has w
 ·have e:m.pick w=(false,m):=by unfold Mc.pick;rw[hw];rfl
  rw[e];exact h.no (Il h.core hw)
 ·obtain⟨e0,hk⟩:=qx hw;have E:=hE _ _ hk;obtain⟨hx,ha⟩:=Mx.begin h hk;have e:m.pick w=if (m.worker w).may m.cf w.toNat m.sh then (true,{m with ks:=m.ks.set w.toNat ((m.worker w).step m.cf w.toNat m.at' m.sh).1,sh:=((m.worker w).step m.cf w.toNat m.at' m.sh).2.1,evs:=m.evs ++ ((m.worker w).step m.cf w.toNat m.at' m.sh).2.2.toList}) else (false,m):=by unfold Mc.pick;rw[hw,Bool.true_and]
  rw[e];clear e;generalize m.worker w=k at *;generalize w.toNat=who at *;subst e0;cases AB:k.may m.cf who m.sh
  ·rw[if_neg aT];refine h.no ?_
   by_cases h0:k.st=0
   ·exact Ed (p:=p.next W who) hx h0
   ·by_cases h6:k.st=6
    ·exact Ci (p:=p.next W who) hx h6 E.cf E.who E.ws.l.len AB
    ·unfold Wk.may at AB;rw[if_neg h0,if_neg h6]at AB;cases AB
  ·rw[if_pos rfl]
   have hg:Calls prog 34 #[ptr p.gb,.i who] W (fun e W'=>e=.returned (.bool true)/\∃ p' v',Mx W p W' p' (m.tells (k.step m.cf who m.at' m.sh).2.2) who (k.step m.cf who m.at' m.sh).1 v' (k.step m.cf who m.at' m.sh).2.1/\bF W' p'.gb p'.mb p'.wb (In W' p'.ow (8+who)) who (k.step m.cf who m.at' m.sh).2.1.ws (k.step m.cf who m.at' m.sh).2.1.tc m.cf (k.step m.cf who m.at' m.sh).1 v'):=by
    by_cases h6:k.st=6
    ·exact Ee (p:=p.next W who) hx ha E hev h6 AB
    ·refine Im (p:=p.next W who) hx ha E hev (fun h0=>?_) h6;unfold Wk.may at AB;rw[if_pos h0]at AB;cases AB
   refine hg.mono ?_;rintro e w1 ⟨rfl,p',v',h',a'⟩;exact⟨rfl,h'.fin a'⟩
end
theorem bF.bU {W0 W W':World} {p0 p:Mp} {m:Mc} {who:Nat} {k:Wk} {v:KV} {s:Sh} (a:bF W p.gb p.mb p.wb (In W p.ow (8+who)) who s.ws s.tc m.cf k v) (h:Mx W0 p0 W p m who k v s) (hc:aD (dJ p.mb p.wb) W W') {ws:List Int} {tc:Nat} (hm:bB W' p.mb p.wb ws tc):bF W' p.gb p.mb p.wb (In W' p.ow (8+who)) who ws tc m.cf k v:=
 a.aK hc (by
  have l2:p.ow p.mb=2:=h.core.lm;have l3:p.ow p.wb=3:=h.core.lw;have l0:p.ow 0=0:=h.core.l0.1;rintro(e | e)
  ·rw[<- e]at l2;omega
  ·rw[<- e]at l3;omega) (fun _ e=>h.GZ e) hm (fun b hL=>hL.mono hc.size)
def Fy (W0:World) (p0:Mp) (m:Mc) (who:Nat) (k:Wk) (r:Bool) (s':Sh) (e:Ending) (W':World):Prop:=e=.returned (.bool r)/\∃ p' v',Mx W0 p0 W' p' m who k v' s'/\bF W' p'.gb p'.mb p'.wb (In W' p'.ow (8+who)) who s'.ws s'.tc m.cf k v'
theorem DT {W0 W:World} {p0 p:Mp} {m:Mc} {who:Nat} {k:Wk} {v:KV} {s:Sh} (h:Mx W0 p0 W p m who k v s) (a:bF W p.gb p.mb p.wb (In W p.ow (8+who)) who s.ws s.tc m.cf k v) {i:Int} (hi:i < 0\/m.cf.slots<=i):Calls prog 37 #[ptr p.gb,.i i] W (Fy W0 p0 m who k false s):=by
 obtain⟨g0,g1,g2,g3,g4⟩:=cQ m.cf h.az;have hs:=fun W=>sJ W m.cf i hi
 simp only[Cf.val,Cf.cells]at hs;have H:=uH h;have A:=uH a;clear h a hi
 go_enter func37,ntmps37
 go_wp2_with fail;refine(hs _).mono ?_;rintro e w1 ⟨rfl,hb1⟩;have HB:=uH hb1;clear hb1 hs;go_wp2_with fail;go_ret;exact⟨rfl,p,v,H.out.below HB.out,A.out.below H.out HB.out⟩
theorem KO:(∀ {W0 W:World} {p0 p:Mp} {m:Mc} {who:Nat} {k:Wk} {v:KV} {s:Sh} (h:Mx W0 p0 W p m who k v s) (a:bF W p.gb p.mb p.wb (In W p.ow (8+who)) who s.ws s.tc m.cf k v) {i:Nat} (hi:(i:Int) < m.cf.slots) (hM:aA m.cf) (hlen:s.ws.length=sc m.cf (ns m.cf)) (ht:(s.tc:Int)<=3999999999999999999) (hn:bn (rd s.ws (sc m.cf i)) 13 0 0=none),Calls prog 37 #[ptr p.gb,.i i] W (Fy W0 p0 m who k false (s.cells (s.ws,1))))/\(∀ {W0 W:World} {p0 p:Mp} {m:Mc} {who:Nat} {k:Wk} {v:KV} {s:Sh} (h:Mx W0 p0 W p m who k v s) (a:bF W p.gb p.mb p.wb (In W p.ow (8+who)) who s.ws s.tc m.cf k v) {i:Nat} (hi:(i:Int) < m.cf.slots) (hM:aA m.cf) (hlen:s.ws.length=sc m.cf (ns m.cf)) (ht:(s.tc:Int)<=3999999999999999999) {nw:Int} (hn:bn (rd s.ws (sc m.cf i)) 13 0 0=some nw),Calls prog 37 #[ptr p.gb,.i i] W (Fy W0 p0 m who k true (s.cells (s.ws.set (sc m.cf i) nw,2)))):=by
 refine⟨?_,?_⟩
 focus
  intro W0 W p0 p m who k v s h a i hi hM hlen ht hn;have hs:=fun W=>bg W m.cf i (by have:=hM.w;omega) (by have:=hM.s;omega)
  have hsc:(3+2 * m.cf.workers+(i:Int))=((sc m.cf i:Nat):Int):=by have:=hM.w;unfold sc;omega
  simp only[hsc,Cf.val,Cf.cells]at hs;have hlt:sc m.cf i < s.ws.length:=by rw[hlen];unfold sc ns;omega
  have hld:=fun(w':World) (hm:bB w' p.mb p.wb s.ws s.tc)=>aU hm ⟨ag,ag⟩ (sc m.cf i) _ (rd_some hlt)
  have iJ:=fun w' hL=>kW w' (rd s.ws (sc m.cf i)) 13 0 (by unfold iw;omega) hL
  simp only[hn,Option.getD_some,Option.isSome_some,Option.getD_none,Option.isSome_none]at iJ;obtain⟨g0,g1,g2,g3,g4⟩:=cQ m.cf h.az;have g5:=cP p.mb (h.az 5);have hc0:(0:Int)<=((sc m.cf i:Nat):Int):=ag
  clear hn hsc;have H:=uH h;have A:=uH a;have XZ:=uH hld;have HAF:=uH iJ
 rotate_left
 focus
  intro W0 W p0 p m who k v s h a i hi hM hlen ht nw hn;have hs:=fun W=>bg W m.cf i (by have:=hM.w;omega) (by have:=hM.s;omega)
  have hsc:(3+2 * m.cf.workers+(i:Int))=((sc m.cf i:Nat):Int):=by have:=hM.w;unfold sc;omega
  simp only[hsc,Cf.val,Cf.cells]at hs;have hlt:sc m.cf i < s.ws.length:=by rw[hlen];unfold sc ns;omega
  have hld:=fun(w':World) (hm:bB w' p.mb p.wb s.ws s.tc)=>aU hm ⟨ag,ag⟩ (sc m.cf i) _ (rd_some hlt)
  have hst:=fun(w':World) (hm:bB w' p.mb p.wb s.ws (s.tc+1:Nat))=>gu hm ⟨ag,ag⟩ (sc m.cf i) _ (rd_some hlt) nw
  have iJ:=fun w' hL=>kW w' (rd s.ws (sc m.cf i)) 13 0 (by unfold iw;omega) hL
  simp only[hn,Option.getD_some,Option.isSome_some,Option.getD_none,Option.isSome_none]at iJ;obtain⟨g0,g1,g2,g3,g4⟩:=cQ m.cf h.az;have g5:=cP p.mb (h.az 5);have hc0:(0:Int)<=((sc m.cf i:Nat):Int):=ag
  clear hn hsc;have H:=uH h;have A:=uH a;have XZ:=uH hld;have HAF:=uH iJ;have HST:=uH hst;clear hst
 rotate_left
 all_goals
  clear h a hld iJ hlt hlen ht hM hi;generalize rd s.ws (sc m.cf i)=x at *;generalize sc m.cf i=c at *
  go_enter func37,ntmps37
  go_wp2_with fail;refine(hs _).mono ?_;rintro e w1 ⟨rfl,hb1⟩;have h1:=H.out.below hb1;have a1:=A.out.below H.out hb1;have d5:=cP p.mb (h1.az 5);have hld:=XZ.out w1 h1.mem;have H1:=uH h1;have A1:=uH a1;clear h1 a1 hb1 hs;go_wp2_with fail;refine hld.mono ?_;rintro e w2 ⟨rfl,hm2,hc2⟩;have h2:Mx W0 p0 w2 p m who k v {s with ws:=s.ws,tc:=s.tc+1}:=H1.out.bU hc2 hm2;have a2:=A1.out.bU (ws:=s.ws) (tc:=s.tc+1) H1.out hc2 hm2;have u5:=cP p.mb (h2.az 5);have iJ:=HAF.out w2 h2.laid;have H2:=uH h2;have A2:=uH a2;clear h2 a2 hm2 hc2 hld;go_wp2_with fail;refine iJ.mono ?_;rintro e w3 ⟨rfl,hb3⟩;have h3:=H2.out.below hb3;have a3:=A2.out.below H2.out hb3;have e5:=cP p.mb (h3.az 5)
 ·have H3:=uH h3;have A3:=uH a3;clear h3 a3 hb3 iJ;go_wp2_with fail;go_ret;exact⟨rfl,p,v,H3.out,A3.out⟩
 ·have hst:=HST.out w3 h3.mem;have H3:=uH h3;have A3:=uH a3;clear h3 a3 hb3 iJ;go_wp2_with fail;refine hst.mono ?_;rintro e w4 ⟨rfl,Oi,hc4⟩;have h4:Mx W0 p0 w4 p m who k v {s with ws:=s.ws.set c nw,tc:=s.tc+1+1}:=H3.out.bU hc4 Oi;have a4:=A3.out.bU (ws:=s.ws.set c nw) (tc:=s.tc+1+1) H3.out hc4 Oi;have H4:=uH h4;have A4:=uH a4;clear h4 a4 Oi hc4 hst;go_wp2_with fail;go_ret;exact⟨rfl,p,v,H4.out,A4.out⟩
def BA:=@And.left _ _ KO
def BB:=@And.right _ _ KO
section
variable {W0 W W':World} {p0 p:Mp} {m:Mc} {who:Nat} {k:Wk} {v:KV} {s:Sh}
theorem Core.clock {m:Mc} (h:Core W p m) (hc:aD (fun b=>b=p.cb) W W') {t:Int} (hk:af W' p.cb #[.i t] 96):Core W' p {m with sh:={m.sh with now:=t}}:=by
 have hn:∀ b,p.ow b≠4->¬ b=p.cb:=fun b h4 e=>h4 (by rw[e];exact h.lc)
 have l0:0 < W.heap.size:=h.laid.lt aT;have l2:2 < W.heap.size:=dN (h.tab 0 aT)
 exact⟨af.aK h.row hc (hn _ (by rw[h.lg];decide)),h.mem.stable (hc.block _ h.mem.lt.1 (hn _ (by rw[h.lm];decide))) (hc.block _ h.mem.lt.2 (hn _ (by rw[h.lw];decide))),hk,
  h.Fz.aK hc (fun b hb=>hn _ (by rw[h.lo b hb];decide)),h.evs.aK hc (fun b hb=>hn _ (by rw[h.le b hb];decide)),h.ks.stable (hc.block _ h.uU (hn _ (by rw[h.lk];decide))),h.k0,
  h.laid.stable (hc.block 0 l0 (hn _ (by rw[h.l0.1];decide))),h.tab.stable (hc.block 2 l2 (hn _ (by rw[h.l0.2];decide))),h.l0,h.lg,h.lm,h.lw,h.lc,h.lo,h.le,h.lk⟩
theorem Core.YV {m:Mc} (h:Core W p m) (hc:aD (fun b=>b=p.cb) W W'):bB W' p.mb p.wb m.sh.ws m.sh.tc:=
 h.mem.stable (hc.block _ h.mem.lt.1 (fun e=>by have:=h.lm;rw[e,h.lc]at this;cases this)) (hc.block _ h.mem.lt.2 (fun e=>by have:=h.lw;rw[e,h.lc]at this;cases this))
theorem aZ.clock {m:Mc} (h:aZ W p m) (hc:aD (fun b=>b=p.cb) W W') {t:Int} (hk:af W' p.cb #[.i t] 96):∃ p',aZ W' p' {m with sh:={m.sh with now:=t}}/\Kept W p W' p':=by
 refine⟨p,⟨h.core.clock hc hk,fun i q hq=>?_⟩,⟨Same.refl p,fun _ _=>rfl,hc.mono (fun b _ e=>by rw[e,h.core.lc];decide)⟩⟩;exact(h.act i q hq).aK hc (fun e=>by have:=h.core.lc;rw[<- e,h.core.l0.1]at this;cases this) (fun b hb e=>by have:=hb.2;rw[e,h.core.lc]at this;omega) (h.core.YV hc) (fun b hb=>hb.mono hc.size)
end
section
variable {W W':World} {p:Mp} {m:Mc}
theorem aZ.world (h:aZ W p m) {wv:Value} {l:List Bool} {g b:Nat} (hw:aO.nV W' p.ob p.rb wv l g b) (hf:∀ k,Fp wv k->Fp p.wv k\/W.heap.size<=k) (hc:aD (aO.AA p.ob p.rb p.wv) W W'):
  ∃ p',aZ W' p' {m with sh:={m.sh with ahead:=l,good:=g,bad:=b}}/\Kept W p W' p':=by
 obtain⟨k,hk⟩:∃ k,m.ks[0]? =some k:=⟨_,List.getElem?_eq_getElem h.core.k0⟩
 obtain⟨hx,ha⟩:=Mx.begin h hk;have hx2:=hx.world hw hf hc;have ha2:=ha.aK (L':=In W' ((p.next W 0).world W W' wv).ow (8+0)) hc (fun e=>by have:=hx.core.lo 0 e;have h0:(p.next W 0).ow 0=0:=hx.core.l0.1;have h5:(p.next W 0).ow 0=5:=this;omega) (fun b hb e=>by have:=hx.core.lo b e;have h5:(p.next W 0).ow b=5:=this;have:=hb.2;omega) hx2.mem (fun b hb=>hx.rA hc.size hb);have:=hx2.fin ha2
 have e:m.mid 0 k {m.sh with ahead:=l,good:=g,bad:=b}={m with sh:={m.sh with ahead:=l,good:=g,bad:=b}}:=by
  have:=rD hk;unfold Mc.mid at this ⊢;rw[show m.ks.set 0 k=m.ks from congrArg Mc.ks this]
 rw[e]at this;exact this
theorem He (h:aZ W p m) (x:Bool):Calls prog 36 #[ptr p.ob,.bool x] W (iI W p (.bool (decide (m.sh.ahead.length < 1000))) (if m.sh.ahead.length < 1000 then {m with sh:={m.sh with ahead:=m.sh.ahead ++ [x]}} else m)):=by
 by_cases hl:m.sh.ahead.length < 1000
 ·rw[if_pos hl,decide_eq_true hl];refine(aO.KU W p.ob p.rb p.wv m.sh.ahead m.sh.good m.sh.bad x h.core.Fz hl).mono ?_;rintro e w1 ⟨rfl,wv,hw,hf,hc⟩;exact⟨rfl,h.world hw hf hc⟩
 ·rw[if_neg hl,decide_eq_false hl];refine(aO.Ou W p.ob p.rb p.wv m.sh.ahead m.sh.good m.sh.bad x h.core.Fz ag).mono ?_;rintro e w1 ⟨rfl,wv,hw,hf,hc⟩;exact⟨rfl,h.world hw hf hc⟩
theorem G9 (h:aZ W p m) (h0:0<=m.sh.now/\m.sh.now<=1099511627776) (n:Int) (hn:-9223372036854775808<=n/\n<=9223372036854775807):Calls prog 35 #[ptr p.cb,.i n] W (fun e W'=>(∃ v,e=.returned v)/\∃ p',aZ W' p' {m with sh:={m.sh with now:=tick m.sh.now n}}/\Kept W p W' p'):=by
 refine(Clock.JP W ⟨p.cb,0,none⟩ m.sh.now n (af.cell h.core.JH 0) (af.frozen h.core.JH 0) h0.1 h0.2 hn.1 hn.2).mono ?_;rintro e w1 ⟨rfl,rfl⟩;have et:Clock.tick m.sh.now n=tick m.sh.now n:=by unfold Clock.tick tick;omega
 rw[et];refine⟨⟨_,rfl⟩,h.clock ((((aD.refl (fun b=>b=p.cb) W).setCell _ _ (fun _=>rfl))).drew) (af.drew (af.aB h.core.JH 0 (.i (tick m.sh.now n))))⟩
end
abbrev En.cells (x:En):Array Value:=(Ah x.kind x.who x.ask.op x.ask.deadline x.ask.wait x.ask.force x.ask.slot x.ask.gen x.ask.stream x.n x.good)
theorem Ow {W0 W:World} {p0 p:Mp} {m:Mc} {who:Nat} {k:Wk} {v:KV} {s:Sh} (h:Mx W0 p0 W p m who k v s) (w:Int):(m.mid who k s).has w=m.has w:=by
 show decide (0<=w/\w < (((m.ks.set who k).length:Nat):Int))=decide (0<=w/\w < ((m.ks.length:Nat):Int))
 rw[List.length_set]
theorem mH {W0 W:World} {p0 p:Mp} {m:Mc} {who:Nat} {k:Wk} {v:KV} {s:Sh} (h:Mx W0 p0 W p m who k v s):∃ a c,p.ev=.slice a m.evs.length c:=by
 rcases h.core.evs.2 with⟨e,n0⟩ | ⟨g,off,cap,e,_⟩
 ·exact⟨none,0,by rw[show m.evs.length=0 from n0];exact e⟩
 ·exact⟨_,_,e⟩
section
variable {W W':World} {p:Mp} {m:Mc}
theorem BD (h:aZ W p m) (hM:aA m.cf) (hlen:m.sh.ws.length=sc m.cf (ns m.cf)) (ht:(m.sh.tc:Int)<=3999999999999999999) (i:Int):Calls prog 37 #[ptr p.gb,.i i] W (iI W p (.bool (m.break' i).1) (m.break' i).2):=by
 obtain⟨k,hk⟩:∃ k,m.ks[0]? =some k:=⟨_,List.getElem?_eq_getElem h.core.k0⟩
 obtain⟨hx,ha⟩:=Mx.begin h hk
 have hm:∀ s',m.mid 0 k s'={m with sh:=s'}:=by
  intro s';have:=rD hk;unfold Mc.mid at this ⊢;rw[show m.ks.set 0 k=m.ks from congrArg Mc.ks this]
 have fin:∀ {r:Bool} {s':Sh},Calls prog 37 #[ptr p.gb,.i i] W (Fy W p m 0 k r s')->Calls prog 37 #[ptr p.gb,.i i] W (iI W p (.bool r) {m with sh:=s'}):=by
  intro r s' hc;refine hc.mono ?_;rintro e w1 ⟨rfl,p',v',h',a'⟩;have:=h'.fin a';rw[hm]at this;exact⟨rfl,this⟩
 by_cases hs:0<=i/\i < m.cf.slots
 ·obtain⟨j,rfl⟩:∃ j:Nat,i=j:=⟨i.toNat,ag⟩
  have e:m.break' j=(match bn (rd m.sh.ws (sc m.cf j)) 13 0 0 with | some nw=>(true,{m with sh:=m.sh.cells (m.sh.ws.set (sc m.cf j) nw,2)}) | none=>(false,{m with sh:=m.sh.cells (m.sh.ws,1)})):=by
   unfold Mc.break' bW;rw[decide_eq_true hs,if_pos rfl];rfl
  rw[e]
  cases hn:bn (rd m.sh.ws (sc m.cf j)) 13 0 0 with
  | none=>exact fin (BA (p:=p.next W 0) hx ha hs.2 hM hlen ht hn)
  | some nw=>exact fin (BB (p:=p.next W 0) hx ha hs.2 hM hlen ht hn)
 ·have e:m.break' i=(false,m):=by
   unfold Mc.break' bW;rw[decide_eq_false hs,if_neg aT]
  rw[e];exact fin (DT (p:=p.next W 0) hx ha ag)
end
section
variable {W W':World} {p:Mp} {m:Mc}
theorem Core.own (h:Core W p m) (hc:aD (fun b=>b=p.gb) W W') {e a:Nat} (hr:af W' p.gb (wI p m.cf m.ks.length e a) 79):Core W' p {m with entries:=e,at':=a}:=by
 have hn:∀ b,p.ow b≠1->¬ b=p.gb:=fun b h1 e=>h1 (by rw[e];exact h.lg)
 have l0:0 < W.heap.size:=h.laid.lt aT;have l2:2 < W.heap.size:=dN (h.tab 0 aT)
 exact⟨hr,h.mem.stable (hc.block _ h.mem.lt.1 (hn _ (by rw[h.lm];decide))) (hc.block _ h.mem.lt.2 (hn _ (by rw[h.lw];decide))),af.aK h.JH hc (hn _ (by rw[h.lc];decide)),
  h.Fz.aK hc (fun b hb=>hn _ (by rw[h.lo b hb];decide)),h.evs.aK hc (fun b hb=>hn _ (by rw[h.le b hb];decide)),h.ks.stable (hc.block _ h.uU (hn _ (by rw[h.lk];decide))),h.k0,
  h.laid.stable (hc.block 0 l0 (hn _ (by rw[h.l0.1];decide))),h.tab.stable (hc.block 2 l2 (hn _ (by rw[h.l0.2];decide))),h.l0,h.lg,h.lm,h.lw,h.lc,h.lo,h.le,h.lk⟩
theorem aZ.own (h:aZ W p m) (hc:aD (fun b=>b=p.gb) W W') {e a:Nat} (hr:af W' p.gb (wI p m.cf m.ks.length e a) 79):∃ p',p'=p/\aZ W' p' {m with entries:=e,at':=a}/\Kept W p W' p':=by
 refine⟨p,rfl,⟨h.core.own hc hr,fun i q hq=>?_⟩,⟨Same.refl p,fun _ _=>rfl,hc.mono (fun b _ e=>by rw[e,h.core.lg];decide)⟩⟩;have hn:∀ b,p.ow b≠1->¬ b=p.gb:=fun b h1 e=>h1 (by rw[e];exact h.core.lg)
 exact(h.act i q hq).aK hc (hn 0 (by rw[h.core.l0.1];decide)) (fun b hb=>hn b (by rw[hb.2];omega)) (h.core.mem.stable (hc.block _ h.core.mem.lt.1 (hn _ (by rw[h.core.lm];decide))) (hc.block _ h.core.mem.lt.2 (hn _ (by rw[h.core.lw];decide)))) (fun b hb=>hb.mono hc.size)
theorem aZ.counted (h:aZ W p m):aZ ((W.setCell ⟨p.gb,11,none⟩ (.i m.entries)).setCell ⟨p.gb,10,none⟩ (.i ((m.entries+1:Nat):Int))) p {m with at':=m.entries,entries:=m.entries+1}/\Kept W p ((W.setCell ⟨p.gb,11,none⟩ (.i m.entries)).setCell ⟨p.gb,10,none⟩ (.i ((m.entries+1:Nat):Int))) p:=by
 obtain⟨p',rfl,h',k'⟩:=h.own (e:=m.entries+1) (a:=m.entries) (((aD.refl (fun b=>b=p.gb) W).setCell ⟨p.gb,11,none⟩ (.i m.entries) (fun _=>rfl)).setCell ⟨p.gb,10,none⟩ (.i ((m.entries+1:Nat):Int)) (fun _=>rfl)) (af.aB (af.aB h.core.row 11 (.i m.entries)) 10 (.i ((m.entries+1:Nat):Int)));exact⟨h',k'⟩
end
abbrev Mc.counted (m:Mc):Mc:={m with at':=m.entries,entries:=m.entries+1}
theorem Om {W:World} {p:Mp} {m m':Mc} {r:Bool} (h:aZ W p m) {x:En} (hk:x.kind=3) (hen:m.entries<=1000000000) (hC:∀ W2 p2,p2.gb=p.gb->aZ W2 p2 m.counted->Calls prog 36 #[ptr p2.ob,.bool x.good] W2 (iI W2 p2 (.bool r) m')):Calls prog 12 #[ptr p.gb,.agg x.cells] W (iI W p (.bool r) m'):=by
 have hb1:Below W.heap.size W (W.alloc (.cells x.cells 37)):=bZ.alloc aQ _;obtain⟨p1,h1,k1⟩:=h.stay hb1;have eg:p1.gb=p.gb:=k1.same.gb;have r1:af (W.alloc (.cells x.cells 37)) W.heap.size x.cells 37:=heap_alloc_new W _;have hne:¬ W.heap.size=p.gb:=fun e=>by have:=h.core.qp;omega
 have K1:=uH k1;have H1:=uH h1;have R1:=uH r1;have EG:=uH eg;have ew:wrap64 ((m.entries:Int)+1)=((m.entries:Int)+1):=by unfold wrap64;omega
 have c10:(W.alloc (.cells x.cells 37)).cell? ⟨p.gb,10,none⟩=some (.i m.entries):=by rw[<- eg];exact af.cell h1.core.row 10
 have c11:(W.alloc (.cells x.cells 37)).cell? ⟨p.gb,11,none⟩=some (.i m.at'):=by rw[<- eg];exact af.cell h1.core.row 11
 have f10:(W.alloc (.cells x.cells 37)).frozen? ⟨p.gb,10,none⟩=false:=by rw[<- eg];exact af.frozen h1.core.row 10
 have f11:(W.alloc (.cells x.cells 37)).frozen? ⟨p.gb,11,none⟩=false:=by rw[<- eg];exact af.frozen h1.core.row 11
 clear h h1 k1 r1 eg hb1
 go_enter func12,ntmps12
 go_upto_region 1 with(fail);generalize W.alloc (.cells x.cells 37)=w1 at *;generalize W.heap.size=bx at *;go_upto_region 3 with(fail);obtain⟨h2,k2⟩:=H1.out.counted;rw[EG.out,show((m.entries+1:Nat):Int)=(m.entries:Int)+1 from rfl]at h2 k2;have r2:=af.aK R1.out (((aD.refl (fun b=>b=p.gb) w1).setCell ⟨p.gb,11,none⟩ (.i m.entries) (fun _=>rfl)).setCell ⟨p.gb,10,none⟩ (.i ((m.entries:Int)+1)) (fun _=>rfl)) hne;have K2:=uH (K1.out.trans k2);have H2:=uH h2;have R2:=uH r2;clear h2 k2 r2 c10 c11 f10 f11;generalize (w1.setCell ⟨p.gb,11,none⟩ (.i m.entries)).setCell ⟨p.gb,10,none⟩ (.i ((m.entries:Int)+1))=w2 at *;have b0:=cC 3 ((af.cell R2.out 0).trans (by show some (Value.int .i64 x.kind)=_;rw[hk]));obtain⟨p2,h2,k2⟩:=H2.out.stay (Below.refl w2.heap.size w2).drew;have UW:p2.gb=p.gb:=k2.same.gb.trans EG.out
 have a6:w2.drew.cell? ⟨p.gb,7,none⟩=some (ptr p2.ob):=by rw[<- UW];exact af.cell h2.core.row 7
 have a9:=cV (.bool x.good) (af.cell (af.drew R2.out) 10);have hc:=hC w2.drew p2 UW h2;have YW:=uH (K2.out.trans k2);clear hC h2 k2;go_upto_region 12 with(fail);refine jr (S:=fun w'=>True) trivial (fun hHeld=>?_);refine tH 0 43 hHeld ?_;refine tH 1 44 hHeld ?_;refine tH 2 45 hHeld ?_;refine tH 4 47 hHeld ?_;refine gI (i:=3) (k:=5) ax ?_ ?_
 focus
  refine aY (some 46) (ptr p2.ob) ax ax (by go_simp;try with_reducible rfl) trivial (fun hHeld=>ay ?_)
  refine rK 5 48 (.bool x.good) hHeld ?_ (by go_simp;try with_reducible rfl)
 rotate_left
 focus
  refine aY (some 48) (.bool x.good) ax ax (by go_simp;try with_reducible rfl) trivial (fun hHeld=>ay ?_)
  refine rK 3 46 (ptr p2.ob) hHeld ?_ (by go_simp;try with_reducible rfl)
 rotate_left
 all_goals
  try simp only[Act.put,sA,sZ,sS]
  refine mP (i:=6) 36 #[.tmp 46,.tmp 48] #[75,4] (some 49) none #[ptr p2.ob,.bool x.good] (aH func36) ?_;refine hc.mono ?_;rintro e w3 ⟨rfl,p3,h3,k3⟩;have H3:=uH h3;have K3:=uH (YW.out.trans k3);clear h3 k3 hc;refine⟨_,rfl,trivial,fun hHeld=>ay ?_⟩
  refine tH 7 4 hHeld ?_;refine iR ?_;go_wp2_with fail;go_ret;exact⟨rfl,p3,H3.out,K3.out⟩
theorem Oo {W:World} {p:Mp} {m m':Mc} {r:Bool} (h:aZ W p m) {x:En} (hk:x.kind=2) (hen:m.entries<=1000000000) (hr:r=true) (hC:∀ W2 p2,p2.gb=p.gb->aZ W2 p2 m.counted->Calls prog 35 #[ptr p2.cb,.i x.n] W2 (fun e W'=>(∃ v,e=.returned v)/\∃ p',aZ W' p' m'/\Kept W2 p2 W' p')):Calls prog 12 #[ptr p.gb,.agg x.cells] W (iI W p (.bool r) m'):=by
 subst hr;have hb1:Below W.heap.size W (W.alloc (.cells x.cells 37)):=bZ.alloc aQ _;obtain⟨p1,h1,k1⟩:=h.stay hb1;have eg:p1.gb=p.gb:=k1.same.gb;have r1:af (W.alloc (.cells x.cells 37)) W.heap.size x.cells 37:=heap_alloc_new W _;have hne:¬ W.heap.size=p.gb:=fun e=>by have:=h.core.qp;omega
 have K1:=uH k1;have H1:=uH h1;have R1:=uH r1;have EG:=uH eg;have ew:wrap64 ((m.entries:Int)+1)=((m.entries:Int)+1):=by unfold wrap64;omega
 have c10:(W.alloc (.cells x.cells 37)).cell? ⟨p.gb,10,none⟩=some (.i m.entries):=by rw[<- eg];exact af.cell h1.core.row 10
 have c11:(W.alloc (.cells x.cells 37)).cell? ⟨p.gb,11,none⟩=some (.i m.at'):=by rw[<- eg];exact af.cell h1.core.row 11
 have f10:(W.alloc (.cells x.cells 37)).frozen? ⟨p.gb,10,none⟩=false:=by rw[<- eg];exact af.frozen h1.core.row 10
 have f11:(W.alloc (.cells x.cells 37)).frozen? ⟨p.gb,11,none⟩=false:=by rw[<- eg];exact af.frozen h1.core.row 11
 clear h h1 k1 r1 eg hb1
 go_enter func12,ntmps12
 go_upto_region 1 with(fail);generalize W.alloc (.cells x.cells 37)=w1 at *;generalize W.heap.size=bx at *;go_upto_region 3 with(fail);obtain⟨h2,k2⟩:=H1.out.counted;rw[EG.out,show((m.entries+1:Nat):Int)=(m.entries:Int)+1 from rfl]at h2 k2;have r2:=af.aK R1.out (((aD.refl (fun b=>b=p.gb) w1).setCell ⟨p.gb,11,none⟩ (.i m.entries) (fun _=>rfl)).setCell ⟨p.gb,10,none⟩ (.i ((m.entries:Int)+1)) (fun _=>rfl)) hne;have K2:=uH (K1.out.trans k2);have H2:=uH h2;have R2:=uH r2;clear h2 k2 r2 c10 c11 f10 f11;generalize (w1.setCell ⟨p.gb,11,none⟩ (.i m.entries)).setCell ⟨p.gb,10,none⟩ (.i ((m.entries:Int)+1))=w2 at *;have b0:=cC 2 ((af.cell R2.out 0).trans (by show some (Value.int .i64 x.kind)=_;rw[hk]));obtain⟨p2,h2,k2⟩:=H2.out.stay (Below.refl w2.heap.size w2).drew;have UW:p2.gb=p.gb:=k2.same.gb.trans EG.out
 have a6:w2.drew.cell? ⟨p.gb,6,none⟩=some (ptr p2.cb):=by rw[<- UW];exact af.cell h2.core.row 6
 have a9:=cC x.n (af.cell (af.drew R2.out) 9);have hc:=hC w2.drew p2 UW h2;have YW:=uH (K2.out.trans k2);clear hC h2 k2;go_upto_region 9 with(fail);refine jr (S:=fun w'=>True) trivial (fun hHeld=>?_);refine tH 0 34 hHeld ?_;refine tH 1 35 hHeld ?_;refine tH 2 36 hHeld ?_;refine tH 4 38 hHeld ?_;refine gI (i:=3) (k:=5) ax ?_ ?_
 focus
  refine aY (some 37) (ptr p2.cb) ax ax (by go_simp;try with_reducible rfl) trivial (fun hHeld=>ay ?_)
  refine rK 5 39 (.i x.n) hHeld ?_ (by go_simp;try with_reducible rfl)
 rotate_left
 focus
  refine aY (some 39) (.i x.n) ax ax (by go_simp;try with_reducible rfl) trivial (fun hHeld=>ay ?_)
  refine rK 3 37 (ptr p2.cb) hHeld ?_ (by go_simp;try with_reducible rfl)
 rotate_left
 all_goals
  try simp only[Act.put,sA,sZ,sS]
  refine mP (i:=6) 35 #[.tmp 37,.tmp 39] #[73,3] (some 40) none #[ptr p2.cb,.i x.n] (aH func35) ?_;refine hc.mono ?_;rintro e w3 ⟨⟨u,rfl⟩,p3,h3,k3⟩;have H3:=uH h3;have K3:=uH (YW.out.trans k3);clear h3 k3 hc;refine⟨_,rfl,trivial,fun hHeld=>ay ?_⟩
  refine iR ?_;go_wp2_with fail;go_ret;exact⟨rfl,p3,H3.out,K3.out⟩
theorem zw:(∀ {W:World} {p:Mp} {m m':Mc} {r:Bool} (h:aZ W p m) {x:En} (hk:x.kind=1) (hen:m.entries<=1000000000) (hC:∀ W2 p2,p2.gb=p.gb->aZ W2 p2 m.counted->Calls prog 34 #[ptr p.gb,.i x.who] W2 (iI W2 p2 (.bool r) m')),Calls prog 12 #[ptr p.gb,.agg x.cells] W (iI W p (.bool r) m'))/\(∀ {W:World} {p:Mp} {m m':Mc} {r:Bool} (h:aZ W p m) {x:En} (hk:x.kind=4) (hen:m.entries<=1000000000) (hC:∀ W2 p2,p2.gb=p.gb->aZ W2 p2 m.counted->Calls prog 37 #[ptr p.gb,.i x.ask.slot] W2 (iI W2 p2 (.bool r) m')),Calls prog 12 #[ptr p.gb,.agg x.cells] W (iI W p (.bool r) m'))/\(∀ {W:World} {p:Mp} {m m':Mc} {r:Bool} (h:aZ W p m) {x:En} (hk:x.kind=0) (hen:m.entries<=1000000000) (hC:∀ W2 p2,p2.gb=p.gb->aZ W2 p2 m.counted->Calls prog 33 #[ptr p.gb,.agg x.cells] W2 (iI W2 p2 (.bool r) m')),Calls prog 12 #[ptr p.gb,.agg x.cells] W (iI W p (.bool r) m'))/\(∀ {W:World} {p:Mp} {m m':Mc} {r:Bool} (h:aZ W p m) {x:En} {kd:Int} (hk:x.kind=kd) (hen:m.entries<=1000000000) (hkd:x.kind≠0/\x.kind≠1/\x.kind≠2/\x.kind≠3/\x.kind≠4) (hr:r=false) (hm:m'=m.counted),Calls prog 12 #[ptr p.gb,.agg x.cells] W (iI W p (.bool r) m')):=by
 refine⟨?_,?_,?_,?_⟩
 focus
  intro W p m m' r h x hk hen hC
 rotate_left
 focus
  intro W p m m' r h x hk hen hC
 rotate_left
 focus
  intro W p m m' r h x hk hen hC
 rotate_left
 focus
  intro W p m m' r h x kd hk hen hkd hr hm
 rotate_left
 all_goals
  have hb1:Below W.heap.size W (W.alloc (.cells x.cells 37)):=bZ.alloc aQ _;obtain⟨p1,h1,k1⟩:=h.stay hb1;have eg:p1.gb=p.gb:=k1.same.gb;have r1:af (W.alloc (.cells x.cells 37)) W.heap.size x.cells 37:=heap_alloc_new W _;have hne:¬ W.heap.size=p.gb:=fun e=>by have:=h.core.qp;omega
  have K1:=uH k1;have H1:=uH h1;have R1:=uH r1;have EG:=uH eg;have ew:wrap64 ((m.entries:Int)+1)=((m.entries:Int)+1):=by unfold wrap64;omega
  have c10:(W.alloc (.cells x.cells 37)).cell? ⟨p.gb,10,none⟩=some (.i m.entries):=by rw[<- eg];exact af.cell h1.core.row 10
  have c11:(W.alloc (.cells x.cells 37)).cell? ⟨p.gb,11,none⟩=some (.i m.at'):=by rw[<- eg];exact af.cell h1.core.row 11
  have f10:(W.alloc (.cells x.cells 37)).frozen? ⟨p.gb,10,none⟩=false:=by rw[<- eg];exact af.frozen h1.core.row 10
  have f11:(W.alloc (.cells x.cells 37)).frozen? ⟨p.gb,11,none⟩=false:=by rw[<- eg];exact af.frozen h1.core.row 11
  clear h h1 k1 r1 eg hb1
  go_enter func12,ntmps12
  go_upto_region 1 with(fail);generalize W.alloc (.cells x.cells 37)=w1 at *;generalize W.heap.size=bx at *;go_upto_region 3 with(fail);obtain⟨h2,k2⟩:=H1.out.counted;rw[EG.out,show((m.entries+1:Nat):Int)=(m.entries:Int)+1 from rfl]at h2 k2;have r2:=af.aK R1.out (((aD.refl (fun b=>b=p.gb) w1).setCell ⟨p.gb,11,none⟩ (.i m.entries) (fun _=>rfl)).setCell ⟨p.gb,10,none⟩ (.i ((m.entries:Int)+1)) (fun _=>rfl)) hne;have K2:=uH (K1.out.trans k2);have H2:=uH h2;have R2:=uH r2;clear h2 k2 r2 c10 c11 f10 f11;generalize (w1.setCell ⟨p.gb,11,none⟩ (.i m.entries)).setCell ⟨p.gb,10,none⟩ (.i ((m.entries:Int)+1))=w2 at *
 focus
  have b0:=cC 1 ((af.cell R2.out 0).trans (by show some (Value.int .i64 x.kind)=_;rw[hk]));have b1:=cC x.who (af.cell R2.out 1);have hc:=hC w2 p1 EG.out H2.out
 rotate_left
 focus
  have b0:=cC 4 ((af.cell R2.out 0).trans (by show some (Value.int .i64 x.kind)=_;rw[hk]));have b6:=cC x.ask.slot (af.cell R2.out 6);have hc:=hC w2 p1 EG.out H2.out
 rotate_left
 focus
  have b0:=cC 0 ((af.cell R2.out 0).trans (by show some (Value.int .i64 x.kind)=_;rw[hk]));have b1:=cC x.who (af.cell R2.out 1);have b2:=cC x.ask.op (af.cell R2.out 2);have b3:=cC x.ask.deadline (af.cell R2.out 3);have b4:=cV (.bool x.ask.wait) (af.cell R2.out 4);have b5:=cV (.bool x.ask.force) (af.cell R2.out 5);have b6:=cC x.ask.slot (af.cell R2.out 6);have b7:=cC x.ask.gen (af.cell R2.out 7);have b8:=cC x.ask.stream (af.cell R2.out 8);have b9:=cC x.n (af.cell R2.out 9);have b10:=cV (.bool x.good) (af.cell R2.out 10);have hc:=hC w2 p1 EG.out H2.out;rw[show x.cells=(Ah 0 x.who x.ask.op x.ask.deadline x.ask.wait x.ask.force x.ask.slot x.ask.gen x.ask.stream x.n x.good) from by unfold En.cells;rw[hk]]at hc
 rotate_left
 ·have b0:=cC kd ((af.cell R2.out 0).trans (by show some (Value.int .i64 x.kind)=_;rw[hk]));subst hr hm;have q0:(kd == 0)=false:=by rw[beq_eq_false_iff_ne];omega
  have q1:(kd == 1)=false:=by rw[beq_eq_false_iff_ne];omega
  have q2:(kd == 2)=false:=by rw[beq_eq_false_iff_ne];omega
  have q3:(kd == 3)=false:=by rw[beq_eq_false_iff_ne];omega
  have q4:(kd == 4)=false:=by rw[beq_eq_false_iff_ne];omega
  clear hkd hk;go_wp2_with fail;go_ret;exact⟨rfl,p1,H2.out,K2.out⟩
 all_goals
  clear hC;go_wp2_with fail;refine hc.mono ?_;rintro e w3 ⟨rfl,p3,h3,k3⟩;have H3:=uH h3;have K3:=uH (K2.out.trans k3);clear h3 k3 hc;go_wp2_with fail;go_ret;exact⟨rfl,p3,H3.out,K3.out⟩
def Oq:=@And.left _ _ zw
def G7:=@And.left _ _ (And.right zw)
def G8:=@And.left _ _ (And.right (And.right zw))
def KS:=@And.right _ _ (And.right (And.right zw))
theorem zi {W:World} {p:Mp} {m:Mc} (h:aZ W p m):Calls prog 28 #[ptr p.gb] W (fun e W'=>e=.returned (.i m.entries)/\Below W.heap.size W W'):=by
 have c10:W.cell? ⟨p.gb,10,none⟩=some (.i m.entries):=af.cell h.core.row 10;have H:=uH h;clear h
 go_enter func28,ntmps28
 go_wp2_with fail;go_ret;exact⟨rfl,Below.refl _ _⟩
theorem DJ {W:World} {p:Mp} {m:Mc} (h:aZ W p m) (w:Int):Calls prog 25 #[ptr p.gb,.i w] W (fun e W'=>e=.returned (.i (m.state w))/\Below W.heap.size W W'):=by
 have hhas:=gV h.core w;unfold Mc.state;cases hw:m.has w
 focus
  rw[hw]at hhas;rw[if_neg aT];have H:=uH h;clear h hw
 rotate_left
 focus
  rw[hw]at hhas;rw[if_pos rfl];obtain⟨e0,hk⟩:=qx hw;obtain⟨hx,ha⟩:=Mx.begin h hk;generalize m.worker w=k at *;generalize w.toNat=who at *;subst e0;obtain⟨hx0,hx1,hx2⟩:=idx hx.hw;have g9:W.cell? ⟨p.gb,9,none⟩=some (.slice (some ⟨p.kb,0,none⟩) m.ks.length m.ks.length):=af.cell h.core.row 9;have k0:W.cell? ⟨p.kb,who * 35,none⟩=some (.i k.st):=hx.aL 0 rfl;have H:=uH h;clear h hw hx ha hk
 rotate_left
 all_goals
  go_enter func25,ntmps25
  go_wp2_with fail;refine hhas.mono ?_;rintro e w1 ⟨rfl,rfl⟩;clear hhas;go_wp2_with fail;go_ret;exact⟨rfl,Below.refl _ _⟩
theorem qy {W:World} {p:Mp} {m:Mc} (h:aZ W p m):Calls prog 16 #[ptr p.gb] W (fun e W'=>∃ a c,e=.returned (.slice a m.sh.ws.length c)/\bR W' (.slice a m.sh.ws.length c) m.sh.ws.length 1 (m.sh.ws.map (Value.int .i64))/\(∀ k,Fp (.slice a m.sh.ws.length c) k->W.heap.size<=k)/\Below W.heap.size W W'):=by
 have c5:W.cell? ⟨p.gb,5,none⟩=some (ptr p.mb):=af.cell h.core.row 5;have hc:=yj h.core.mem;have H:=uH h;clear h
 go_enter func16,ntmps16
 go_wp2_with fail;refine hc.mono ?_;rintro e w1 ⟨a,c,rfl,ho,hf,hb⟩;clear hc;go_wp2_with fail;go_ret;exact⟨a,c,rfl,ho,hf,hb⟩
end Mc
namespace Mc
open Go.RowKit Hp Slot ah ai
theorem G6 (w:World) (b off n c:Nat) (news:List Value) (hl:news.length=n * 18) (hn:n<=2000)
  (hc:∀ j u,news[j]? =some u->w.cell? ⟨b,off+j,none⟩=some u) (h1:∀ u ∈ news,u.oneCell'=true):
  Calls prog 39 #[.slice (some ⟨b,off,none⟩) n c] w fun e w'=>∃ g cap,e=.returned (.slice (some ⟨g,0,none⟩) n cap)/\bR w' (.slice (some ⟨g,0,none⟩) n cap) n 18 news/\w.heap.size<=g/\Below w.heap.size w w':=by
 have q22:∀ (w:World) (a:Option Addr) (n c n' c':Nat),(binOp .eql 41 (.slice a n c) (.slice none n' c')).run prog w=.ok (.bool a.isNone) w:=fun w a n c n' c'=>Lib.run_eql_slice_nil w _ _ a n c n' c' underlying41
 have HC:=uH hc;have H1:=uH h1;have HL:=uH hl;obtain⟨i0,hi,hz0,hz1,hz2⟩:=evi;clear hc h1 hl
 go_enter func39,ntmps39
 go_wp2_with (at_builtin;refine wpList_append_own _ rfl _ _ 41 rfl w.heap.size 47 i0 Mod.Ev.zero.val 18 136 underlying41 hi hz0 hz1 hz2 rfl aT _ _ _ rfl (World.ownsRow_made w #[] 0 aQ (Nat.zero_le _) au) ⟨b,off,none⟩ n c news rfl ?qc1 ?qc2 ?qc3 ?qc4 ?qc5 ?qc6 ?_)
 case qc1=>exact HL.out
 case qc2=>
  intro j u hj;rw[Addr.add_lit];exact Lib.cell?_alloc_some _ (HC.out j u hj)
 case qc3=>exact H1.out
 case qc4=>unfold maxLen;omega
 case qc5=>omega
 case qc6=>simp
 intro v' w1 hown hgrow hnil;obtain⟨g,cap,rfl,hg⟩:=Mod.DV hown (fun e=>by simpa using hnil e);have HOWN:=uH hown;have Qv:=uH hgrow;clear hown hgrow hnil q22 hi hz0 hz1 hz2
 go_wp2
 go_ret;have h3:=nO HOWN.out
 try simp only[Nat.zero_add,List.nil_append]at h3
 refine⟨g,cap,au,by simpa using h3,hg,?_⟩;exact((Below.refl _ w).alloc aQ _).grown Qv.out au (by intro k hk;simp[Value.ownBlock]at hk;omega)
end Mc
namespace Mc
open Go.RowKit Hp ah aj Slot ai Tk Cl
theorem zx (w:World):Calls prog 39 #[.slice none 0 0] w fun e w'=>e=.returned (.slice none 0 0)/\w=w':=by
 have q22:∀ (w:World) (a:Option Addr) (n c n' c':Nat),(binOp .eql 41 (.slice a n c) (.slice none n' c')).run prog w=.ok (.bool a.isNone) w:=fun w a n c n' c'=>Lib.run_eql_slice_nil w _ _ a n c n' c' underlying41
 go_enter func39,ntmps39
 go_wp2
 go_ret;exact⟨rfl,rfl⟩
theorem Hf (l:List Mod.Ev):∀ u ∈ gL l,u.oneCell'=true:=by
 intro u hu;unfold gL at hu;obtain⟨x,_,hx⟩:=List.mem_flatMap.1 hu;simp only[Mod.Ev.cells,List.mem_cons,List.not_mem_nil,or_false]at hx
 rcases hx with rfl | rfl | rfl | rfl | rfl | rfl | rfl | rfl | rfl | rfl | rfl | rfl | rfl | rfl | rfl | rfl | rfl | rfl<;>rfl
theorem nT {W:World} {p:Mp} {m:Mc} (h:aZ W p m) (hn:m.evs.length<=2000):Calls prog 14 #[ptr p.gb] W (fun e W'=>∃ a c,e=.returned (.slice a m.evs.length c)/\bR W' (.slice a m.evs.length c) m.evs.length 18 (gL m.evs)/\(∀ k,Fp (.slice a m.evs.length c) k->W.heap.size<=k)/\Below W.heap.size W W'):=by
 have c8:=cV p.ev (af.cell h.core.row 8)
 have hc:Calls prog 39 #[p.ev] W fun e W'=>∃ a c,e=.returned (.slice a m.evs.length c)/\bR W' (.slice a m.evs.length c) m.evs.length 18 (gL m.evs)/\(∀ k,Fp (.slice a m.evs.length c) k->W.heap.size<=k)/\Below W.heap.size W W':=by
  have hE:=h.core.evs
  rcases hE.2 with⟨e,n0⟩ | ⟨g,off,cap,e,h1,h2,h3,h4,h5,h6⟩
  ·have e1:m.evs=[]:=List.eq_nil_of_length_eq_zero n0;rw[e,e1];refine(zx W).mono ?_;rintro e w1 ⟨rfl,rfl⟩;exact⟨none,0,rfl,fG _ _,fun k hk=>by(obtain⟨a,n,c,e,_⟩:=hk;cases e),Below.refl _ _⟩
  ·rw[e];refine(G6 W g off m.evs.length cap (gL m.evs) hE.1 hn h6 (Hf m.evs)).mono ?_;rintro e w1 ⟨g2,c2,rfl,ho,hg,hb⟩;exact⟨_,_,rfl,ho,fun k hk=>by(obtain⟨a,n,c,e,hb'⟩:=hk;cases e;exact hb' ▸ hg),hb⟩
 have H:=uH h;clear h
 go_enter func14,ntmps14
 generalize p.ev=ev at *;go_wp2_with fail;refine hc.mono ?_;rintro e w1 ⟨a,c,rfl,ho,hf,hb⟩;clear hc;go_wp2_with fail;go_ret;exact⟨a,c,rfl,ho,hf,hb⟩
end Mc
end Go.Proofs.YtbklamnimfmjkaaGreatDoor
