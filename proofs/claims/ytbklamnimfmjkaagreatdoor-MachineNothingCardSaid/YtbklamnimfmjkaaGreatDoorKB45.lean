/- Part 45 of the walks and plain laws that the last text joins. -/
import Derived.Test.YtbklamnimfmjkaaGreatDoorKB39
import Derived.Test.YtbklamnimfmjkaaGreatDoorKB40
import Derived.Test.YtbklamnimfmjkaaGreatDoorKB41
import Derived.Test.YtbklamnimfmjkaaGreatDoorKB42
import Derived.Test.YtbklamnimfmjkaaGreatDoorKB43
import Derived.Test.YtbklamnimfmjkaaGreatDoorKB44
set_option maxRecDepth 100000
set_option maxHeartbeats 16000000
set_option linter.all false
open Go.Proofs.Tryz
namespace Go.Proofs.YtbklamnimfmjkaaGreatDoor
namespace Mc
open Go.RowKit Hp ah aj Slot ai Tk Cl
section
variable {W W':World} {p:Mp} {m:Mc}
theorem DY (h:aZ W p m) (x:En):Calls prog 33 #[ptr p.gb,.agg x.cells] W (iI W p (.bool (m.invoke x.who x.ask).1) (m.invoke x.who x.ask).2):=by
 cases hw:m.has x.who
 ·have e:m.invoke x.who x.ask=(false,m):=by unfold Mc.invoke;rw[hw];rfl
  rw[e];obtain⟨k,hk⟩:∃ k,m.ks[0]? =some k:=⟨_,List.getElem?_eq_getElem h.core.k0⟩
  obtain⟨hx,ha⟩:=Mx.begin h hk;exact h.no (DZ (p:=p.next W 0) hx hw)
 ·obtain⟨e0,hk⟩:=qx hw;obtain⟨hx,ha⟩:=Mx.begin h hk
  by_cases h0:(m.worker x.who).st=0
  ·by_cases hfl:m.evs.length < 1999
   ·by_cases hop:0<=x.ask.op/\x.ask.op < 8
    ·have e:m.invoke x.who x.ask=(true,{m with evs:=m.evs ++ [{Mod.Ev.zero with who:=x.who,at':=m.at',ask:=x.ask}],ks:=m.ks.set x.who.toNat {Wk.zero with st:=1,ask:=x.ask}}):=by
      unfold Mc.invoke;rw[if_pos (by rw[hw,decide_eq_true h0,decide_eq_true hfl,decide_eq_true hop];rfl)]
     rw[e];refine(D5 (p:=p.next W x.who.toNat) hx e0.symm h0 hfl hop).mono ?_;rintro e w1 ⟨rfl,p',v',h',a'⟩;have:=h'.fin a';rw[e0]at this;exact⟨rfl,this⟩
    ·have e:m.invoke x.who x.ask=(false,m):=by
      unfold Mc.invoke;rw[decide_eq_false hop,Bool.and_false,if_neg aT]
     rw[e]
     by_cases hlo:x.ask.op < 0
     ·exact h.no (D6 (p:=p.next W x.who.toNat) hx e0.symm h0 hfl hlo)
     ·exact h.no (BH (p:=p.next W x.who.toNat) hx e0.symm h0 hfl ag)
   ·have e:m.invoke x.who x.ask=(false,m):=by
     unfold Mc.invoke;rw[decide_eq_false hfl,Bool.and_false,Bool.false_and,if_neg aT]
    rw[e];exact h.no (BI (p:=p.next W x.who.toNat) hx e0.symm h0 ag)
  ·have e:m.invoke x.who x.ask=(false,m):=by
    unfold Mc.invoke;rw[decide_eq_false h0,Bool.and_false,Bool.false_and,Bool.false_and,if_neg aT]
   rw[e];exact h.no (BJ (p:=p.next W x.who.toNat) hx e0.symm h0)
end
structure QK (n:Nat) (m:Mc):Prop where
 env:∀ (i:Nat) (k:Wk),m.ks[i]? =some k->Env n m.cf i k m.sh
 evs:m.evs.length<=100000000
 cf:aA m.cf
 len:m.sh.ws.length=sc m.cf (ns m.cf)
 tc:(m.sh.tc:Int)<=3999999999999999999
 now:0<=m.sh.now/\m.sh.now<=1099511627776
 en:m.entries<=1000000000
theorem R8 {W:World} {p:Mp} {m:Mc} (h:aZ W p m) {n:Nat} (E:QK n m) (x:En) (hn:-9223372036854775808<=x.n/\x.n<=9223372036854775807):Calls prog 12 #[ptr p.gb,.agg x.cells] W (iI W p (.bool (m.lG x).1) (m.lG x).2):=by
 show Calls prog 12 #[ptr p.gb,.agg x.cells] W (iI W p (.bool (m.counted.does x).1) (m.counted.does x).2)
 unfold Mc.does
 by_cases h0:x.kind=0
 ·rw[if_pos h0];exact G8 h h0 E.en (fun W2 p2 eg h2=>by rw[<- eg];exact DY h2 x)
 rw[if_neg h0]
 by_cases h1:x.kind=1
 ·rw[if_pos h1];exact Oq h h1 E.en (fun W2 p2 eg h2=>by rw[<- eg];exact KT h2 E.env E.evs x.who)
 rw[if_neg h1]
 by_cases h2:x.kind=2
 ·rw[if_pos h2];exact Oo h h2 E.en rfl (fun W2 p2 eg h2=>G9 h2 E.now x.n hn)
 rw[if_neg h2]
 by_cases h3:x.kind=3
 ·rw[if_pos h3];exact Om h h3 E.en (fun W2 p2 eg h2=>He h2 x.good)
 rw[if_neg h3]
 by_cases h4:x.kind=4
 ·rw[if_pos h4];exact G7 h h4 E.en (fun W2 p2 eg h2=>by rw[<- eg];exact BD h2 E.cf E.len E.tc x.ask.slot)
 rw[if_neg h4];exact KS h rfl E.en ⟨h0,h1,h2,h3,h4⟩ rfl rfl
theorem dw.live {n:Nat} {c:Cf} {who:Nat} {k:Wk} (h:dw n k) (hk:dY c who k):Live n k:=by
 refine⟨fun g h2 hj=>?_,fun f q h2 hj=>?_,fun q hs hq=>?_,h.two,h.stats⟩
 ·have h3:=h.give g h2 hj;have h4:=(hk.bq _ hj).2.1.st;omega
 ·have h3:=h.close f q h2 hj;have h4:=((hk.bq _ hj).2.2 q rfl).st;omega
 ·have h3:=h.queue q hs hq;have h4:=(hk.queue q hq).1.st;omega
structure Good (n:Nat) (m:Mc):Prop where
 ok:Fj n m
 live:nA n m
theorem Good.new {c:Cf} (hc:aA c):Good 0 (Mc.new c):=⟨.new hc,.new c⟩
theorem Good.lG {n:Nat} {m:Mc} (h:Good n m) (x:En):Good (n+1) (m.lG x).2:=⟨h.ok.lG x,h.live.lG h.ok x⟩
theorem Good.env {n:Nat} {m:Mc} (h:Good n m) (hn:n<=1000):QK n m:=by
 have ho:=h.ok;have h1:=ho.tc;have h2:=ho.asked;have h3:=ho.entries;have h4:=ho.evs;have h5:=ho.len;have h6:=ho.c.nw;refine⟨fun i k hk=>⟨ho.ks i k hk,(h.live i k hk).live (ho.ks i k hk),ho.c,?_,ho.ws,ag,ag,ag,ag⟩,ag,ho.c,ho.ws.l.len,ag,ho.now,ag⟩;have:=(List.getElem?_eq_some_iff.1 hk).1;omega
section
variable {W0 W W':World} {p:Mp} {m m':Mc} {K:Nat->Prop} {gb n:Nat}
theorem aZ.rest (h:aZ W p m) (hb:Below W.heap.size W W'):aZ W' {p with ow:=fun b=>if b < W.heap.size then p.ow b else 0} m:=by
 have ho:∀ b,b < W.heap.size->(if b < W.heap.size then p.ow b else 0)=p.ow b:=fun b hb=>if_pos hb
 have hm:=h.core.mem.below hb;refine⟨(h.core.relabel {p with ow:=fun b=>if b < W.heap.size then p.ow b else 0} ⟨rfl,rfl,rfl,rfl,rfl,rfl,rfl⟩ rfl rfl rfl ho).obj (G:=fun _=>False) (aD.aF hb) (fun _ _ e=>e.elim) hm,fun i k hk=>?_⟩;exact(h.act i k hk).aK (G:=fun _=>False) (aD.aF hb) (fun e=>e) (fun _ _ e=>e) hm (fun b hL=>⟨Nat.lt_of_lt_of_le hL.1 hb.size,(if_pos hL.1).trans hL.2⟩)
structure Lb (W0:World) (K:Nat->Prop) (gb n:Nat) (W:World) (p:Mp) (m:Mc):Prop where
 pos:2 < W0.heap.size
 gb:p.gb=gb
 at':aZ W p m
 new:∀ b,b < W.heap.size->p.ow b≠0->W0.heap.size<=b
 keep:∀ b,K b->p.ow b=0/\b < W.heap.size
 pF:Below W0.heap.size W0 W
 good:Good n m
def UT (K:Nat->Prop) (W W':World):Prop:=W.heap.size<=W'.heap.size/\∀ b,K b->W'.heap[b]? =W.heap[b]?
theorem UT.row {g:Nat} {cs:Array Value} {T:TypeId} (h:UT K W W') (hg:K g) (hr:af W g cs T):af W' g cs T:=(h.2 g hg).trans hr
theorem Lb.more (h:Lb W0 K gb n W p m) (hb:Below W.heap.size W W'):∃ p' K',Lb W0 K' gb n W' p' m/\(∀ b,K b->K' b)/\(∀ b,W.heap.size<=b->b < W'.heap.size->K' b):=by
 refine⟨{p with ow:=fun b=>if b < W.heap.size then p.ow b else 0},fun b=>K b\/W.heap.size<=b/\b < W'.heap.size,⟨h.pos,h.gb,h.at'.rest hb,?_,?_,h.pF.trans (hb.mono h.pF.size),h.good⟩,fun b hk=>.inl hk,fun b h1 h2=>.inr ⟨h1,h2⟩⟩
 ·intro b h1 h2
  by_cases hlt:b < W.heap.size
  ·exact h.new b hlt (fun e=>h2 ((if_pos hlt).trans e))
  ·exact absurd (if_neg hlt) h2
 ·rintro b (hk | ⟨h1,h2⟩)
  ·obtain⟨h3,h4⟩:=h.keep b hk;exact⟨(if_pos h4).trans h3,Nat.lt_of_lt_of_le h4 hb.size⟩
  ·exact⟨if_neg ag,h2⟩
theorem Lb.post (h:Lb W0 K gb n W p m) {v:Value} {e:Ending} (hp:iI W p v m' e W') {n':Nat} (hg:Good n' m'):e=.returned v/\∃ p',Lb W0 K gb n' W' p' m'/\UT K W W':=by
 obtain⟨rfl,p',h1,h2⟩:=hp;refine⟨rfl,p',⟨h.pos,h2.same.gb.trans h.gb,h1,?_,?_,h.pF.trans (aD.below (h2.aK.mono (F:=fun b=>p.ow b≠0) (fun b hb e=>(⟨e,hb⟩:p.ow b≠0/\b < W.heap.size))) h.pF.size fun b e=>h.new b e.2 e.1),hg⟩,?_⟩
 ·intro b hb h0
  by_cases hlt:b < W.heap.size
  ·exact h.new b hlt (by rw[<- h2.old b hlt];exact h0)
  ·have:=h.pF.size;omega
 ·intro b hk;obtain⟨h3,h4⟩:=h.keep b hk;exact⟨(h2.old b h4).trans h3,Nat.lt_of_lt_of_le h4 h2.aK.size⟩
 ·exact⟨h2.aK.size,fun b hk=>h2.aK.block b (h.keep b hk).2 (fun e=>e (h.keep b hk).1)⟩
theorem Lb.start {c:Cf} {e:Ending} (h:qX W0 c e W) (hc:aA c) (h2:2 < W0.heap.size):∃ p:Mp,e=.returned (.tuple #[ptr p.gb,.i 0])/\Lb W0 (fun _=>False) p.gb 0 W p (Mc.new c):=by
 obtain⟨p,rfl,h1,h3,h4,h5⟩:=h;exact⟨p,rfl,h2,rfl,h1,fun b _ hb=>h3 b hb,fun _ e=>e.elim,h5,.new hc⟩
theorem qX.pF {w:World} {c:Cf} {e:Ending} (h:qX w c e W):Below w.heap.size w W:=by
 obtain⟨p,-,-,-,-,h5⟩:=h;exact h5
theorem Lb.first {w:World} {c:Cf} {e:Ending} (h:qX w c e W) (hc:aA c) (hB:Below W0.heap.size W0 w) (h2:2 < W0.heap.size) (hK:∀ b,K b->b < w.heap.size):∃ p:Mp,e=.returned (.tuple #[ptr p.gb,.i 0])/\Lb W0 K p.gb 0 W p (Mc.new c):=by
 obtain⟨p,rfl,h1,h3,h4,h5⟩:=h;exact⟨p,rfl,h2,rfl,h1,fun b _ hb=>Nat.le_trans hB.size (h3 b hb),fun b hb=>⟨h4 b (hK b hb),Nat.lt_of_lt_of_le (hK b hb) h5.size⟩,hB.trans (h5.mono hB.size),.new hc⟩
theorem uq {c:Cf} (h:c.right=true):aA c:=by
 simp only[aj.Cf.right,aj.vM,Bool.and_eq_true,decide_eq_true_eq]at h;exact⟨ag,ag,ag,ag,ag⟩
theorem Lb.do (h:Lb W0 K gb n W p m) (hn:n<=1000) (x:En) (hx:-9223372036854775808<=x.n/\x.n<=9223372036854775807):Calls prog 12 #[ptr gb,.agg x.cells] W fun e W'=>e=.returned (.bool (m.lG x).1)/\∃ p',Lb W0 K gb (n+1) W' p' (m.lG x).2/\UT K W W':=by
 have:=R8 h.at' (h.good.env hn) x hx;rw[h.gb]at this;exact this.mono fun e w hp=>h.post hp (h.good.lG x)
end
abbrev C1:Cf:=⟨1,1,0,0,1⟩
def Ob (k:Int):En:=⟨k,0,Mod.Ask.zero,0,false⟩
def aw:Nat->Mc
 | 0=>((Mc.new C1).lG (Ob 0)).2
 | n+1=>((aw n).lG (Ob 1)).2
def XW:Mod.Ev:={Mod.Ev.zero with ended:=true,at':=17,gen:=1}
theorem Sn:((Mc.new C1).lG (Ob 0)).1=true:=ax
theorem Sq:((List.range 18).all fun n=>((aw n).lG (Ob 1)).1 == decide (n < 17))=true:=ax
theorem VF {n:Nat} (h:n<=17):((aw n).lG (Ob 1)).1=decide (n < 17):=by
 have:=List.all_eq_true.1 Sq n (by simp;omega)
 simpa using this
theorem Oc (n:Nat):((aw n).lG (Ob 1)).2=aw (n+1):=rfl
theorem Od:((Mc.new C1).lG (Ob 0)).2=aw 0:=rfl
theorem KF:(aw 18).evs=[Mod.Ev.zero,XW]:=ax
theorem KG:(aw 18).state 0=0:=ax
theorem Sr:(aw 18).entries=19:=ax
attribute [local irreducible] aw
theorem KH:C1.right=true:=aT
theorem KI:aA C1:=⟨aT,aT,aT,aT,aT⟩
theorem VG {P:Program} {ops:Array Oper} {Q:Exit->Act->World->Prop} {rest:List Oper} {o:Oper} {a:Act} {w:World} {b off:Nat} {cs:List Value} (hc:w.rangeAt b off cs) (ty:TypeId) (x:Operand) {d:TypeDesc} (hu:P.underlying ty=some d)
  (h:wpList P ops Q rest (a.put o.dst (.agg cs.toArray)) w) (ho:o.op=.load ty x:=by kernel_rfl) (hx:a.eval x=.pointer (some ⟨b,off,none⟩):=by kernel_rfl) (hd:d.isRow=true:=by rfl) (hi:(P.info? ty).map (·.size)=some cs.length:=by kernel_rfl)
  (hw:Region.wanted o (yielded ops a.tmps)=true:=by kernel_rfl):wpList P ops Q (o :: rest) a w:=
 gl (.agg cs.toArray) h (by unfold execOp;simp only[ho,hx,Instr.loadAt,Instr.sureAddr,Sem.run_bind,Sem.run_pure,Result.andThen_ok,run_loadVar_mid w b off ty cs d hc hu hd hi]) hw
theorem ru {P:Program} {S:World->Prop} {a:Act} (T:TypeId) (x:Operand) (b off:Nat) (cs:List Value) (d:TypeDesc) (hx:a.eval x=.pointer (some ⟨b,off,none⟩)) (hu:P.underlying T=some d) (hd:d.isRow=true) (hi:(P.info? T).map (·.size)=some cs.length)
  (hg:∀ w,S w->w.rangeAt b off cs):∀ o:Oper,o.op=Op.load T x->∀ w,S w->(execOp a.eval o).run P w=.ok (.value (.agg cs.toArray)) w:=by
 intro o ho w hS;have hl:=run_loadVar_mid (P:=P) w b off T cs d (hg w hS) hu hd hi;unfold execOp;simp only[ho,hx,Instr.loadAt,Instr.sureAddr,Sem.run_bind,Sem.run_pure,Result.andThen_ok,hl]
theorem wB {W:World} {a:Option Addr} {n c:Nat} {l:List Int} (h:bR W (.slice a n c) n 1 (l.map (Value.int .i64))) (h0:0 < n):∃ g off,a=some ⟨g,off,none⟩/\∀ (j:Nat) (x:Int),l[j]? =some x->W.cell? ⟨g,off+j,none⟩=some (.i x):=by
 rcases h.2 with⟨e,n0⟩ | ⟨g,off,cap,e,h1,h2,h3,h4,h5,h6⟩
 ·omega
 ·injection e with e1 e2 e3
  exact⟨g,off,e1,fun j x hx=>h6 j _ (by rw[List.getElem?_map,hx];rfl)⟩
theorem vZ:∀ {l:List Mod.Ev} {j q:Nat} {y:Mod.Ev} {v:Value},l[j]? =some y->q < 18->y.cells.toList[q]? =some v->(gL l)[j * 18+q]? =some v
 | [],j,q,y,v,h,_,_=>by simp at h
 | x :: l,0,q,y,v,h,hq,hv=>by
  simp only[List.getElem?_cons_zero,Option.some.injEq]at h;subst h
  show(x.cells.toList ++ gL l)[0 * 18+q]? =some v
  rw[Nat.zero_mul,Nat.zero_add,List.getElem?_append_left (by simpa [Mod.Ev.cells] using hq)];exact hv
 | x :: l,j+1,q,y,v,h,hq,hv=>by
  simp only[List.getElem?_cons_succ]at h
  show(x.cells.toList ++ gL l)[(j+1) * 18+q]? =some v
  rw[List.getElem?_append_right (by simp[Mod.Ev.cells];omega)];have e:(j+1) * 18+q - x.cells.toList.length=j * 18+q:=by simp[Mod.Ev.cells];omega
  rw[e];exact vZ h hq hv
theorem GU {W:World} {a:Option Addr} {n c k:Nat} {l:List Mod.Ev} (h:bR W (.slice a n c) n 18 (gL l)) {j:Nat} {y:Mod.Ev} (hy:l[j]? =some y) (hl:l.length=n):∃ g off,a=some ⟨g,off,none⟩/\W.rangeAt g (off+j * 18) y.cells.toList:=by
 have hj:=(List.getElem?_eq_some_iff.1 hy).1
 rcases h.2 with⟨e,n0⟩ | ⟨g,off,cap,e,h1,h2,h3,h4,h5,h6⟩
 ·omega
 ·injection e with e1 e2 e3
  refine⟨g,off,e1,fun q v hv=>?_⟩;have hq:q < 18:=by have:=(List.getElem?_eq_some_iff.1 hv).1;simpa [Mod.Ev.cells] using this
  have:=h6 (j * 18+q) v (vZ hy hq hv);rw[Nat.add_assoc];exact this
theorem wC (W:World) (hL:Laid W) (hT:TabAt W):Calls prog 9 #[] W fun e W'=>e=.returned (.bool true)/\Below W.heap.size W W':=by
 have hnew:=wD W C1 KH hL hT;have h2:2 < W.heap.size:=dN (hT 0 aT);clear hL hT
 go_enter func9,ntmps9
 go_wp2_with fail;refine hnew.mono ?_;intro e w1 hp;obtain⟨p1,rfl,h1⟩:=Lb.start hp KI h2;generalize p1.gb=gb at *;have hd:=h1.do ag (Ob 0) ⟨aT,aT⟩
 rw[Sn,Od]at hd;clear hnew hp h1 h2;go_wp2_with fail;refine hd.mono ?_;rintro e w2 ⟨rfl,p2,h2,-⟩;have H2:RowKit.Hid (∃ p,Lb W (fun _=>False) gb (0+1) w2 p (aw 0)):=uH ⟨p2,h2⟩;clear hd h2;go_wp2_with fail
 go_loopw [4] (fun v wr=>∃ k:Nat,k<=17/\v=.i k/\RowKit.Hid (∃ p,Lb W (fun _=>False) gb (k+1) wr p (aw k))) (fun v _=>17 - (intOf v).toNat)
 case atStart=>exact⟨0,ag,rfl,H2⟩
 case round=>
  obtain⟨k,hk,rfl,hM⟩:=hrel;clear H2;obtain⟨p3,h3⟩:=hM.out;have hd:=h3.do ag (Ob 1) ⟨aT,aT⟩
  rw[VF hk,Oc]at hd;have i40:(k:Int) < 40:=ag
  clear h3
  by_cases hlt:k < 17
  ·rw[decide_eq_true hlt]at hd;go_wp2_with fail;refine hd.mono ?_;rintro e w4 ⟨rfl,p4,h4,-⟩;have H4:RowKit.Hid (∃ p,Lb W (fun _=>False) gb (k+1+1) w4 p (aw (k+1))):=uH ⟨p4,h4⟩;clear hd h4;go_wp2_with fail;refine⟨⟨k+1,ag,rfl,H4⟩,?_⟩;simp only[intOf];omega
  ·obtain rfl:k=17:=ag
   rw[decide_eq_false hlt]at hd;clear hlt hk;go_wp2_with fail;refine hd.mono ?_;rintro e w4 ⟨rfl,p4,h4,-⟩;have hev:=nT h4.at' (by rw[KF];decide);rw[h4.gb,KF]at hev;have H4:=uH h4;clear hd h4 i40 hM;go_wp2_with fail;refine hev.mono ?_;rintro e w5 ⟨a,c,rfl,ho,hf,hb⟩;obtain⟨g,off,rfl,hr⟩:=GU (k:=0) ho (j:=1) (y:=XW) rfl rfl;obtain⟨p5,K5,h5,-,-⟩:=H4.out.more hb;have hs:=fun v=>DJ h5.at' v
   have hnn:=fun w (hb:Below w5.heap.size w5 w)=>zi (h5.at'.rest hb)
   simp only[h5.gb,Sr]at hnn;simp only[h5.gb]at hs;have hs0:=hs 0;rw[KG]at hs0;have kM:=uH h5.pF;have hes:=fun w=>Mod.Ny w XW
   clear hev ho hf hb h5 hs;go_upto_region 9 with(fail);refine wp_region_lit ?_;refine gl (.bool true) (ay ?_)
   refine gl (.bool true) (ay ?_)
   refine gl (.i 17) (ay ?_)
   refine gl (.bool true) (ay ?_)
   refine gl (.bool true) (ay ?_)
   refine gl (.bool true) (ay ?_)
   refine gl (.slice (some ⟨g,off,none⟩) 2 c) (ay ?_)
   refine gl (.i 2) (ay ?_) (by go_simp;try rfl)
   refine gl (.bool true) (ay ?_)
   refine gl (.bool true) (ay ?_)
   refine gl (.bool true) (ay ?_)
   refine gl (.slice (some ⟨g,off,none⟩) 2 c) (ay ?_)
   refine gl (.pointer (some ⟨g,off+1 * 18,none⟩)) (ay ?_) (by go_simp;try rfl)
   refine VG hr 47 (.tmp 43) underlying47 (ay ?_)
   refine gl (.agg XW.cells) (ay ?_)
   refine gl (.bool true) ?_ (by have hq:=hes w5;go_simp;try rfl)
   try simp only[Act.put,sA,sZ,sS]
   refine gl (.bool true) (ay ?_)
   refine gl (.bool true) (ay ?_)
   refine gl (ptr gb) (ay ?_)
   refine pX 25 #[.tmp 49,.const (.i 0)] #[29,3] #[ptr gb,.i 0] (aH func25) ?_;refine hs0.mono ?_;rintro e w6 ⟨rfl,hb6⟩;refine⟨_,rfl,?_⟩;dsimp only;refine gl (.bool true) (ay ?_)
   refine gl (.bool true) (ay ?_)
   refine gl (.bool true) (ay ?_)
   refine gl (ptr gb) (ay ?_)
   refine pX 28 #[.tmp 54] #[29] #[ptr gb] (aH func28) ?_;have hn6:=hnn w6 hb6;refine hn6.mono ?_;rintro e w7 ⟨rfl,cB⟩;refine⟨_,rfl,?_⟩;dsimp only;refine gl (.bool true) (ay ?_)
   refine gl (.bool true) (ay ?_)
   refine gl (.bool true) (ay ?_)
   refine wpList_nil ?_;have HB:=uH (kM.out.trans ((hb6.trans (cB.mono hb6.size)).mono kM.out.size));clear hb6 cB hnn hs0 hn6 hr hes kM H4;go_wp2_with fail;go_ret;exact⟨rfl,HB.out⟩
end Mc
end Go.Proofs.YtbklamnimfmjkaaGreatDoor
