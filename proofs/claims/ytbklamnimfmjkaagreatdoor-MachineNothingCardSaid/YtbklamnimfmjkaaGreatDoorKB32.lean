/- Part 32 of the walks and plain laws that the last text joins. -/
import Derived.Test.YtbklamnimfmjkaaGreatDoorKB31
set_option maxRecDepth 100000
set_option maxHeartbeats 16000000
set_option linter.all false
open Go.Proofs.Tryz
namespace Go.Proofs.YtbklamnimfmjkaaGreatDoor
namespace Mc
open Go.RowKit Hp ah aj Slot ai Tk Cl
structure Live (n:Nat) (k:Wk):Prop where
 give:∀ g,k.st=2->k.bq=some (.give g)->g.st<=3
 close:∀ f q,k.st=2->k.bq=some (.close f (some q))->q.st<=7
 queue:∀ q,k.st=4\/k.st=8->k.queue=some q->q.st<=7
 two:∀ t,k.two=some t->t.rounds<=n
 stats:∀ t,k.bq=some (.stats t)->t.rounds<=n
structure Env (n:Nat) (c:Cf) (who:Nat) (k:Wk) (s:Sh):Prop where
 ok:dY c who k
 live:Live n k
 cf:aA c
 who:(who:Int) < c.workers
 ws:Ia c s.ws
 n:n<=1000000
 tc:(s.tc:Int)<=4000000000000000000
 good:(s.good:Int)<=1000000
 bad:(s.bad:Int)<=1000000
theorem kJ {W0 W:World} {p0 p:Mp} {m:Mc} {who:Nat} {k:Wk} {v:KV} {s:Sh} (h:Mx W0 p0 W p m who k v s) {F:Nat} {caps:Array Value} {k2:Wk} {s2:Sh} (hw:v.work=.func (.func F) #[] caps) (hE:∀ args w,(callFunc F args).run prog w=.ok (.enter F args) w) (hC:Calls prog F caps W (bV W0 p0 m who k2 s2)):Calls prog 64 #[ptr p.gb,.i who] W (bV W0 p0 m who k2 s2):=by
 obtain⟨hx0,hx1,hx2⟩:=idx h.hw;have g9:=cV (.slice (some ⟨p.kb,0,none⟩) m.ks.length m.ks.length) (h.az 9);have k11:W.cell? ⟨p.kb,who * 35+11,none⟩=some (.func (.func F) #[] caps):=by rw[<- hw];exact h.aL 11 rfl
 clear h hw
 go_enter func64,ntmps64
 go_wp2_with fail;refine hC.mono ?_;rintro e w9 ⟨rfl,p9,v9,h9,a9⟩;have H9:=uH h9;have A9:=uH a9;clear hC h9 a9;go_wp2_with fail
 first | go_end0 | refine bP ?_
 exact⟨rfl,p9,v9,H9.out,A9.out⟩
theorem vE {α β:Type} {c:Prop} [Decidable c] (a b:α) (x:β):(if c then (a,x) else (b,x))=((if c then a else b),x):=by split<;>rfl
theorem Io {n:Nat} {W0 W:World} {p0 p:Mp} {m:Mc} {who:Nat} {k:Wk} {v:KV} {s:Sh} (h:Mx W0 p0 W p m who k v s) (ha:bF W p.gb p.mb p.wb (In W p.ow (8+who)) who s.ws s.tc m.cf k v) (hk:k.st=2) (E:Env n m.cf who k s):
  Calls prog 64 #[ptr p.gb,.i who] W (bV W0 p0 m who (k.works m.cf who s).1 (k.works m.cf who s).2):=by
 obtain⟨j,hj,hJ⟩:=ha.bq hk;have hok:=E.ok.bq j hj;have hlen:=E.ws.l.len
 cases j with
 | get t=>
  obtain⟨b1,b2,b3,tb,lo,ro,hl,hg,hd⟩:=hJ;refine kJ h hl.v (aH func120) ?_;rw[show k.works m.cf who s=k.gets m.cf who t s by unfold Wk.works;rw[hj],Ov];have htk:=hok.2.tk hlen
  by_cases h9:t.st=9
  ·rw[if_pos h9,decide_eq_true h9,Bool.true_and];exact Ho h hk hl hg hd htk E.tc E.good E.bad h9
  ·rw[if_neg h9,decide_eq_false h9,Bool.false_and];exact KW h hk hl hg hd htk E.tc E.good E.bad h9
 | give g=>
  obtain⟨b1,b2,b3,tb,ro,hl,hg,hd⟩:=hJ;refine kJ h hl.v (aH func153) ?_;rw[show k.works m.cf who s=(if (g.step s.ws).1.st=4 then (({k with bq:=some (.give (g.step s.ws).1)}:Wk).finish m.cf who {Mod.Ev.zero with e:=(g.step s.ws).1.e},s.cells (g.step s.ws).2) else ({k with bq:=some (.give (g.step s.ws).1)},s.cells (g.step s.ws).2)) by unfold Wk.works;rw[hj],vE];exact GX h hk hl hg hd hok.2.1 hok.2.2.1 (E.live.give g hk hj) E.cf E.who hlen E.tc
 | stream x=>
  obtain⟨b1,b2,b3,tb,s1,s2,bv,hl,hg,hd⟩:=hJ;refine kJ h hl.v (aH func156) ?_;rw[show k.works m.cf who s=(if (x.step s.ws).1.st=3 then (({k with bq:=some (.stream (x.step s.ws).1)}:Wk).finish m.cf who {Mod.Ev.zero with e:=(x.step s.ws).1.answer.1,stream:=(x.step s.ws).1.answer.2},s.cells (x.step s.ws).2) else ({k with bq:=some (.stream (x.step s.ws).1)},s.cells (x.step s.ws).2)) by unfold Wk.works;rw[hj],vE];exact Bw h hk hl hg hd hok.2.1 E.cf E.who hlen E.tc
 | close f q=>
  have hl0:0 < s.ws.length:=by have:=E.cf.nw;rw[hlen,fI];omega
  cases q with
  | none=>
   obtain⟨b1,b2,b3,b4,hl⟩:=lu.SQ hJ;refine kJ h hl.v (aH func170) ?_;rw[show k.works m.cf who s=({k with bq:=some (.close f (some (Qu.drain m.cf)))},s.cells (if f then s.ws.set 0 2 else (dF s.ws 0 0 1).2,1)) by unfold Wk.works;rw[hj]];cases f
   ·exact tq h hk hl hl0 E.tc
   ·exact uV h hk hl hl0 E.tc
  | some q=>
   obtain⟨b1,b2,b3,b4,tb,hl,hq,hL,hne⟩:=lu.SS hJ;refine kJ h hl.v (aH func170) ?_;rw[show k.works m.cf who s=(if (q.step s.ws).1.st=8 then (({k with bq:=some (.close f (some (q.step s.ws).1))}:Wk).finish m.cf who Mod.Ev.zero,s.cells (q.step s.ws).2) else ({k with bq:=some (.close f (some (q.step s.ws).1))},s.cells (q.step s.ws).2)) by unfold Wk.works;rw[hj],vE]
   by_cases h8:(q.step s.ws).1.st=8
   ·rw[if_pos h8];exact DU h hk hl hq hL hne (hok.2.2 q rfl) E.cf E.ws.l E.tc (E.live.close f q hk hj) h8
   ·rw[if_neg h8];exact G5 h hk hl hq hL hne (hok.2.2 q rfl) E.cf E.ws.l E.tc (E.live.close f q hk hj) h8
 | stats t=>
  obtain⟨b1,b2,b3,tb,vr,vl,hl,hg,hd⟩:=hJ;refine kJ h hl.v (aH func173) ?_;rw[show k.works m.cf who s=(if (t.step s.ws).1.done then (({k with bq:=some (.stats (t.step s.ws).1)}:Wk).finish m.cf who (counted (t.step s.ws).1.last),s.cells (s.ws,(t.step s.ws).2)) else ({k with bq:=some (.stats (t.step s.ws).1)},s.cells (s.ws,(t.step s.ws).2))) by unfold Wk.works;rw[hj],vE];exact Em h hk hl hg hd hok.2 (Nat.le_trans (E.live.stats t hj) E.n) E.cf E.who hlen E.tc
 | bO r=>
  obtain⟨b1,b2,b3,ab,fb,ro,hl,hg,hd⟩:=hJ;refine kJ h hl.v (aH func162) ?_;have X:gJ W0 p0 W p m who k v s b1 b2 b3 ab fb ro r:=⟨h,hl,hg,hd,hk⟩
  have hro:=hok.2;have hr3:=hro.st;rw[show k.works m.cf who s=k.iH m.cf who r s by unfold Wk.works;rw[hj]];have hcs:r.st=0\/r.st=1\/r.st=2\/r.st=3:=ag
  rcases hcs with hst | hst | hst | hst
  ·have e:k.iH m.cf who r s=(if (r.look.step m.cf s.ws).2.1.found then ({k with bq:=some (.bO {r with look:=(r.look.step m.cf s.ws).2.1,st:=1})},s.cells (s.ws,(r.look.step m.cf s.ws).2.2)) else if (r.look.step m.cf s.ws).1 then (({k with bq:=some (.bO {r with look:=(r.look.step m.cf s.ws).2.1})}:Wk).finish m.cf who {Mod.Ev.zero with slot:=r.many},s.cells (s.ws,(r.look.step m.cf s.ws).2.2)) else ({k with bq:=some (.bO {r with look:=(r.look.step m.cf s.ws).2.1})},s.cells (s.ws,(r.look.step m.cf s.ws).2.2))):=by
    unfold Wk.iH;rw[hst];rfl
   rw[e]
   by_cases hf:(r.look.step m.cf s.ws).2.1.found=true
   ·rw[if_pos hf];exact tO X hst hro E.cf hlen E.tc hf
   ·rw[if_neg hf];have hf':(r.look.step m.cf s.ws).2.1.found=false:=by simpa using hf
    by_cases he:(r.look.step m.cf s.ws).1=true
    ·rw[if_pos he];exact wY X hst hro E.cf hlen E.tc hf' he
    ·rw[if_neg he];exact xW X hst hro E.cf hlen E.tc hf' (by simpa using he)
  ·have e:k.iH m.cf who r s=(K2 k (.bO (Iz m.cf r s.outcome)),s.next):=by
    obtain⟨Vx,Bh,qW,rrt⟩:=r;dsimp only at hst;subst hst;rw[Fq];unfold Iz K2;dsimp only
    cases hb:Cr qW.word s.outcome with
    | true=>exact(if_pos ((Cs qW.word s.outcome).trans hb)).trans rfl
    | false=>rw[if_neg (fun e=>by have:=(Cs qW.word s.outcome).symm.trans e;rw[hb]at this;cases this)];rfl
   rw[e];exact IA X hst hro E.cf E.good E.bad
  ·have e:k.iH m.cf who r s=(K2 k (.bO r.kC),match bn r.look.word 10 who 0 with | some nw=>s.cells ((dF s.ws (sc m.cf r.look.at') r.look.word nw).2,1) | none=>s):=by
    unfold Wk.iH;rw[hst];rfl
   rw[e]
   cases hn:bn r.look.word 10 who 0 with
   | none=>exact uY X hst hro E.cf hlen E.tc hn
   | some nw=>exact uX X hst hro E.cf hlen E.tc hn
  ·obtain⟨x,hx⟩:=hro.kz hst;have hrr:r.ret=x:=by unfold Rp.ret;rw[hx];rfl
   by_cases hb:(x.step s.ws).1=true
   ·cases hsw:(x.step s.ws).2.1.swapped
    ·have e:k.iH m.cf who r s=(K2 k (.bO {r with rt:=some (x.step s.ws).2.1,look:=r.look.go,st:=0}),s.cells (x.step s.ws).2.2):=by
      unfold Wk.iH;rw[hst];dsimp only;rw[hrr,if_pos hb,hsw];rfl
     rw[e];exact xX X hx hst hro E.cf hlen E.tc hb hsw
    ·have e:k.iH m.cf who r s=(K2 k (.bO {r with rt:=some (x.step s.ws).2.1,many:=wrap64 (r.many+1),look:=r.look.go,st:=0}),s.cells (x.step s.ws).2.2):=by
      unfold Wk.iH;rw[hst];dsimp only;rw[hrr,if_pos hb,hsw];rfl
     rw[e];exact rO X hx hst hro E.cf hlen E.tc hb hsw
   ·have e:k.iH m.cf who r s=(K2 k (.bO {r with rt:=some (x.step s.ws).2.1}),s.cells (x.step s.ws).2.2):=by
     unfold Wk.iH;rw[hst];dsimp only;rw[hrr,if_neg hb];rfl
    rw[e];exact zJ X hx hst hro E.cf hlen E.tc (by simpa using hb)
theorem kH {W:World} {gb mb wb who:Nat} {L:Nat->Prop} {ws:List Int} {tc:Int} {c:Cf} {k:Wk} {v:KV} (h:k.st=0\/k.st=1\/k.st=6\/k.st=7):bF W gb mb wb L who ws tc c k v:=
 ⟨fun e=>ag,fun e=>ag,fun e=>ag,fun e=>ag⟩
theorem yH {W:World} {gb mb wb who tb:Nat} {L:Nat->Prop} {ws:List Int} {tc:Int} {c:Cf} {k:Wk} {v:KV} {q:Qu} (hk:k.st=4\/k.st=8) (hq:k.queue=some q) (hv:v.queue=ptr tb) (h:iX W tb mb wb q ws tc) (hl:L tb):bF W gb mb wb L who ws tc c k v:=
 ⟨fun e=>ag,fun e=>ag,fun _=>⟨q,tb,hq,hv,h,hl⟩,fun e=>ag⟩
theorem LH:(∀ {W0 W:World} {p0 p:Mp} {m:Mc} {who:Nat} {k:Wk} {v:KV} {s:Sh} (h:Mx W0 p0 W p m who k v s) (hst:k.st=7) (hh:k.half=false) (hM:aA m.cf) (hwn:(who:Int) < m.cf.workers) (hlen:s.ws.length=sc m.cf (ns m.cf)) (ht:(s.tc:Int)<=4000000000000000000),Calls prog 69 #[ptr p.gb,.i who] W (bV W0 p0 m who {k with word:=granted m.cf who s,half:=true} (s.cells (s.ws,1))))/\(∀ {W0 W:World} {p0 p:Mp} {m:Mc} {who:Nat} {k:Wk} {v:KV} {s:Sh} (h:Mx W0 p0 W p m who k v s) (hst:k.st=7) (hh:k.half=true) (hw:k.word < 0) (hM:aA m.cf) (hwn:(who:Int) < m.cf.workers) (hlen:s.ws.length=sc m.cf (ns m.cf)) (ht:(s.tc:Int)<=4000000000000000000),Calls prog 69 #[ptr p.gb,.i who] W (bV W0 p0 m who (({k with half:=false}:Wk).finish m.cf who {Mod.Ev.zero with e:=5}) (s.cells (s.ws.set (Ty.gc m.cf who) 0,1))))/\(∀ {W0 W:World} {p0 p:Mp} {m:Mc} {who:Nat} {k:Wk} {v:KV} {s:Sh} (h:Mx W0 p0 W p m who k v s) (hst:k.st=7) (hh:k.half=true) (hw:¬ k.word < 0) (hM:aA m.cf) (hwn:(who:Int) < m.cf.workers) (hlen:s.ws.length=sc m.cf (ns m.cf)) (ht:(s.tc:Int)<=4000000000000000000),Calls prog 69 #[ptr p.gb,.i who] W (bV W0 p0 m who ({k with half:=false,grant:=k.word,st:=1}) (s.cells (s.ws.set (Ty.gc m.cf who) 0,1)))):=by
 refine⟨?_,?_,?_⟩
 focus
  intro W0 W p0 p m who k v s h hst hh hM hwn hlen ht
 rotate_left
 focus
  intro W0 W p0 p m who k v s h hst hh hw hM hwn hlen ht
 rotate_left
 focus
  intro W0 W p0 p m who k v s h hst hh hw hM hwn hlen ht
 rotate_left
 all_goals
  obtain⟨hx0,hx1,hx2⟩:=idx h.hw;have hgn:=fun W=>oC W m.cf who (by have:=hM.w;omega) hwn
  have hgc:(3+m.cf.workers+(who:Int))=((Ty.gc m.cf who:Nat):Int):=by have:=hM.w;unfold Ty.gc;omega
  simp only[hgc,Cf.val,Cf.cells]at hgn;have hlt:Ty.gc m.cf who < s.ws.length:=by rw[hlen];have:=hM.nw;unfold Ty.gc sc;omega
  have g0:W.cell? ⟨p.gb,0,none⟩=some (.i m.cf.workers):=h.az 0;have g1:W.cell? ⟨p.gb,1,none⟩=some (.i m.cf.slots):=h.az 1;have g2:W.cell? ⟨p.gb,2,none⟩=some (.i m.cf.streams):=h.az 2;have g3:W.cell? ⟨p.gb,3,none⟩=some (.i m.cf.waiters):=h.az 3;have g4:W.cell? ⟨p.gb,4,none⟩=some (.i m.cf.uses):=h.az 4;have g5:W.cell? ⟨p.gb,5,none⟩=some (ptr p.mb):=h.az 5;have g9:W.cell? ⟨p.gb,9,none⟩=some (.slice (some ⟨p.kb,0,none⟩) m.ks.length m.ks.length):=h.az 9
 focus
  have k8:W.cell? ⟨p.kb,who * 35+8,none⟩=some (.bool k.half):=h.aL 8 rfl;rw[hh]at k8;have hld:=fun(w':World) (hm:bB w' p.mb p.wb s.ws s.tc)=>aU hm ⟨ag,ht⟩ (Ty.gc m.cf who) _ (rd_some hlt)
  rw[show rd s.ws (Ty.gc m.cf who)=granted m.cf who s from rfl]at hld;generalize granted m.cf who s=x at *;have H:=uH h;have HST:=uH hst;have HH:=uH hh;have XZ:=uH hld;clear h hst hh hlen ht hgc hlt hld
 rotate_left
 focus
  have hsm:=fun(w':World) (hm:bB w' p.mb p.wb s.ws s.tc)=>gu hm ⟨ag,ht⟩ (Ty.gc m.cf who) _ (rd_some hlt) 0
  have H:=uH h;have UZ:=uH hsm;have HH:=uH hh;have HST:=uH hst;clear h hst hh hlen ht hgc hlt hsm
 rotate_left
 focus
  have hsm:=fun(w':World) (hm:bB w' p.mb p.wb s.ws s.tc)=>gu hm ⟨ag,ht⟩ (Ty.gc m.cf who) _ (rd_some hlt) 0
  have H:=uH h;have UZ:=uH hsm;have HH:=uH hh;have HST:=uH hst;clear h hst hh hlen ht hgc hlt hsm
 rotate_left
 all_goals
  generalize Ty.gc m.cf who=gc at *
  go_enter func69,ntmps69
  go_wp2_with fail;refine(hgn _).mono ?_;rintro e w0 ⟨rfl,hb0⟩;have h0:=H.out.below hb0;have d5:w0.cell? ⟨p.gb,5,none⟩=some (ptr p.mb):=h0.az 5
 ·have Zl:w0.cell? ⟨p.kb,who * 35+8,none⟩=some (.bool k.half):=h0.aL 8 rfl;rw[HH.out]at Zl;have hld:=XZ.out w0 h0.mem;have H0:=uH h0;clear h0 hb0 hgn;go_wp2_with fail;refine hld.mono ?_;rintro e w1 ⟨rfl,hm1,hc1⟩;have h1:Mx W0 p0 w1 p m who k v {s with ws:=s.ws,tc:=s.tc+1}:=H0.out.bU hc1 hm1;have u9:w1.cell? ⟨p.kb,who * 35+9,none⟩=some (.i k.word):=h1.aL 9 rfl;have Zi:w1.frozen? ⟨p.kb,who * 35+9,none⟩=false:=h1.dZ 9 aT;have h2:=h1.put 9 aT (.i x) (k':={k with word:=x}) (v':=v) rfl;have H2:=uH h2;clear h1 h2 hld hm1 hc1;go_upto_region 4 with(fail);generalize w1.setCell ⟨p.kb,who * 35+9,none⟩ (.i x)=w2 at *;have e8:w2.cell? ⟨p.kb,who * 35+8,none⟩=some (.bool k.half):=H2.out.aL 8 rfl;have Wu:=H2.out.dZ 8 aT;clear u9 Zi;go_wp2_with fail
  first | go_end0 | refine bP ?_
  have h3:=H2.out.put 8 aT (.bool true) (k':={k with word:=x,half:=true}) (v':=v) rfl;exact⟨rfl,p,v,h3,kH (.inr (.inr (.inr HST.out)))⟩
 rotate_left;rotate_left
 all_goals
  have Zl:w0.cell? ⟨p.kb,who * 35+8,none⟩=some (.bool true):=(h0.aL 8 (u:=.bool k.half) rfl).trans (by rw[HH.out]);have Zm:=h0.dZ 8 aT;have h1:=h0.put 8 aT (.bool false) (k':={k with half:=false}) (v':=v) rfl;have H1:=uH h1;clear h0 h1 hb0 hgn;go_upto_region 6 with(fail);generalize w0.setCell ⟨p.kb,who * 35+8,none⟩ (.bool false)=w1 at *;clear Zl Zm d5;have e5:w1.cell? ⟨p.gb,5,none⟩=some (ptr p.mb):=H1.out.az 5;have hs1:=UZ.out w1 H1.out.mem;go_wp2_with fail;refine hs1.mono ?_;rintro e w2 ⟨rfl,hm2,hc2⟩;have h2:Mx W0 p0 w2 p m who {k with half:=false} v {s with ws:=s.ws.set gc 0,tc:=s.tc+1}:=H1.out.bU hc2 hm2;have u9:w2.cell? ⟨p.kb,who * 35+9,none⟩=some (.i k.word):=h2.aL 9 rfl
 ·have hen:=gU h2 {Mod.Ev.zero with e:=5};clear h2 hm2 hc2 hs1 e5 g0 g1 g2 g3 g4 g5 g9;go_wp2_with fail;refine hen.mono ?_;rintro e w9 ⟨rfl,v9,h9,a9,-⟩;have H9:=uH h9;have A9:=uH a9;clear hen h9 a9;go_wp2_with fail
  first | go_end0 | refine bP ?_
  exact⟨rfl,p,v9,H9.out,A9.out⟩
 ·have u10:w2.cell? ⟨p.kb,who * 35+10,none⟩=some (.i k.grant):=h2.aL 10 rfl;have TC:=h2.dZ 10 aT;have h3:=h2.put 10 aT (.i k.word) (k':={k with half:=false,grant:=k.word}) (v':=v) rfl;have H3:=uH h3;clear h2 h3 hm2 hc2 hs1 e5;go_upto_region 10 with(fail);generalize w2.setCell ⟨p.kb,who * 35+10,none⟩ (.i k.word)=w3 at *;have q0:w3.cell? ⟨p.kb,who * 35,none⟩=some (.i k.st):=H3.out.aL 0 rfl;have qf0:w3.frozen? ⟨p.kb,who * 35,none⟩=false:=H3.out.dZ 0 aT;clear u9 u10 TC;go_wp2_with fail
  first | go_end0 | refine bP ?_
  exact⟨rfl,p,v,H3.out.put 0 aT (.i 1) (k':={k with half:=false,grant:=k.word,st:=1}) (v':=v) rfl,kH (.inr (.inl rfl))⟩
def wU:=@And.left _ _ LH
def Iu:=@And.left _ _ (And.right LH)
def Iw:=@And.right _ _ (And.right LH)
theorem wW:(∀ {W0 W:World} {p0 p:Mp} {m:Mc} {who:Nat} {k:Wk} {v:KV} {s:Sh} (h:Mx W0 p0 W p m who k v s) {q:Qu} {tb:Nat} (hst:k.st=8) (hv:v.queue=ptr tb) (hg:iX W tb p.mb p.wb q s.ws s.tc) (hL:In W p.ow (8+who) tb) (ok:fH m.cf q) (hM:aA m.cf) (hm:vC m.cf s.ws) (ht:(s.tc:Int)<=4000000000000000000) (eZ:q.st<=7) (hdn:¬ (q.step s.ws).1.st=8),Calls prog 70 #[ptr p.gb,.i who] W (bV W0 p0 m who ({k with queue:=some (q.step s.ws).1}) (s.cells (q.step s.ws).2)))/\(∀ {W0 W:World} {p0 p:Mp} {m:Mc} {who:Nat} {k:Wk} {v:KV} {s:Sh} (h:Mx W0 p0 W p m who k v s) {q:Qu} {tb:Nat} (hst:k.st=8) (hv:v.queue=ptr tb) (hg:iX W tb p.mb p.wb q s.ws s.tc) (hL:In W p.ow (8+who) tb) (ok:fH m.cf q) (hM:aA m.cf) (hm:vC m.cf s.ws) (ht:(s.tc:Int)<=4000000000000000000) (eZ:q.st<=7) (hdn:(q.step s.ws).1.st=8) (he:(q.step s.ws).1.e=8),Calls prog 70 #[ptr p.gb,.i who] W (bV W0 p0 m who ({k with queue:=some (q.step s.ws).1,dA:=false,st:=6}) (s.cells (q.step s.ws).2)))/\(∀ {W0 W:World} {p0 p:Mp} {m:Mc} {who:Nat} {k:Wk} {v:KV} {s:Sh} (h:Mx W0 p0 W p m who k v s) {q:Qu} {tb:Nat} (hst:k.st=8) (hv:v.queue=ptr tb) (hg:iX W tb p.mb p.wb q s.ws s.tc) (hL:In W p.ow (8+who) tb) (ok:fH m.cf q) (hM:aA m.cf) (hm:vC m.cf s.ws) (ht:(s.tc:Int)<=4000000000000000000) (eZ:q.st<=7) (hdn:(q.step s.ws).1.st=8) (he:¬ (q.step s.ws).1.e=8),Calls prog 70 #[ptr p.gb,.i who] W (bV W0 p0 m who (({k with queue:=some (q.step s.ws).1}:Wk).finish m.cf who {Mod.Ev.zero with e:=(q.step s.ws).1.e}) (s.cells (q.step s.ws).2)))/\(∀ {W0 W:World} {p0 p:Mp} {m:Mc} {who:Nat} {k:Wk} {v:KV} {s:Sh} (h:Mx W0 p0 W p m who k v s) {q:Qu} {tb:Nat} (hst:k.st=4) (hv:v.queue=ptr tb) (hg:iX W tb p.mb p.wb q s.ws s.tc) (hL:In W p.ow (8+who) tb) (ok:fH m.cf q) (hM:aA m.cf) (hm:vC m.cf s.ws) (ht:(s.tc:Int)<=4000000000000000000) (eZ:q.st<=7) (hdn:¬ (q.step s.ws).1.st=8),Calls prog 66 #[ptr p.gb,.i who] W (bV W0 p0 m who ({k with queue:=some (q.step s.ws).1}) (s.cells (q.step s.ws).2)))/\(∀ {W0 W:World} {p0 p:Mp} {m:Mc} {who:Nat} {k:Wk} {v:KV} {s:Sh} (h:Mx W0 p0 W p m who k v s) {q:Qu} {tb:Nat} (hst:k.st=4) (hv:v.queue=ptr tb) (hg:iX W tb p.mb p.wb q s.ws s.tc) (hL:In W p.ow (8+who) tb) (ok:fH m.cf q) (hM:aA m.cf) (hm:vC m.cf s.ws) (ht:(s.tc:Int)<=4000000000000000000) (eZ:q.st<=7) (hdn:(q.step s.ws).1.st=8) (he:(q.step s.ws).1.e=0),Calls prog 66 #[ptr p.gb,.i who] W (bV W0 p0 m who (({k with queue:=some (q.step s.ws).1,dA:=true}:Wk).aR m.cf who true) (s.cells (q.step s.ws).2)))/\(∀ {W0 W:World} {p0 p:Mp} {m:Mc} {who:Nat} {k:Wk} {v:KV} {s:Sh} (h:Mx W0 p0 W p m who k v s) {q:Qu} {tb:Nat} (hst:k.st=4) (hv:v.queue=ptr tb) (hg:iX W tb p.mb p.wb q s.ws s.tc) (hL:In W p.ow (8+who) tb) (ok:fH m.cf q) (hM:aA m.cf) (hm:vC m.cf s.ws) (ht:(s.tc:Int)<=4000000000000000000) (eZ:q.st<=7) (hdn:(q.step s.ws).1.st=8) (he:(q.step s.ws).1.e=8),Calls prog 66 #[ptr p.gb,.i who] W (bV W0 p0 m who (({k with queue:=some (q.step s.ws).1,dA:=false}:Wk).aR m.cf who true) (s.cells (q.step s.ws).2)))/\(∀ {W0 W:World} {p0 p:Mp} {m:Mc} {who:Nat} {k:Wk} {v:KV} {s:Sh} (h:Mx W0 p0 W p m who k v s) {q:Qu} {tb:Nat} (hst:k.st=4) (hv:v.queue=ptr tb) (hg:iX W tb p.mb p.wb q s.ws s.tc) (hL:In W p.ow (8+who) tb) (ok:fH m.cf q) (hM:aA m.cf) (hm:vC m.cf s.ws) (ht:(s.tc:Int)<=4000000000000000000) (eZ:q.st<=7) (hdn:(q.step s.ws).1.st=8) (he:(q.step s.ws).1.e≠0/\(q.step s.ws).1.e≠8),Calls prog 66 #[ptr p.gb,.i who] W (bV W0 p0 m who (({k with queue:=some (q.step s.ws).1}:Wk).finish m.cf who {Mod.Ev.zero with e:=(q.step s.ws).1.e}) (s.cells (q.step s.ws).2))):=by
 refine⟨?_,?_,?_,?_,?_,?_,?_⟩
 focus
  intro W0 W p0 p m who k v s h q tb hst hv hg hL ok hM hm ht eZ hdn;obtain⟨hx0,hx1,hx2⟩:=idx h.hw;have hcf:=ok.cf;have bJ:=gy (hg.below bY) (by rw[hcf];exact ok) (by rw[hcf];exact hM) (by rw[hcf];exact hm) ⟨ag,ht⟩ eZ;rw[decide_eq_false hdn]at bJ;obtain⟨r,hr⟩:∃ r,r=q.step s.ws:=⟨_,rfl⟩
  rw[<- hr]at bJ hdn ⊢;clear hr;obtain⟨g2,jq,n2⟩:=r;dsimp only at bJ hdn ⊢
 rotate_left
 focus
  intro W0 W p0 p m who k v s h q tb hst hv hg hL ok hM hm ht eZ hdn he;obtain⟨hx0,hx1,hx2⟩:=idx h.hw;have hcf:=ok.cf;have bJ:=gy (hg.below bY) (by rw[hcf];exact ok) (by rw[hcf];exact hM) (by rw[hcf];exact hm) ⟨ag,ht⟩ eZ;rw[decide_eq_true hdn]at bJ;obtain⟨r,hr⟩:∃ r,r=q.step s.ws:=⟨_,rfl⟩
  rw[<- hr]at bJ hdn he ⊢;clear hr;obtain⟨g2,jq,n2⟩:=r;dsimp only at bJ hdn he ⊢
 rotate_left
 focus
  intro W0 W p0 p m who k v s h q tb hst hv hg hL ok hM hm ht eZ hdn he;obtain⟨hx0,hx1,hx2⟩:=idx h.hw;have hcf:=ok.cf;have bJ:=gy (hg.below bY) (by rw[hcf];exact ok) (by rw[hcf];exact hM) (by rw[hcf];exact hm) ⟨ag,ht⟩ eZ;rw[decide_eq_true hdn]at bJ;obtain⟨r,hr⟩:∃ r,r=q.step s.ws:=⟨_,rfl⟩
  rw[<- hr]at bJ hdn he ⊢;clear hr;obtain⟨g2,jq,n2⟩:=r;dsimp only at bJ hdn he ⊢
 rotate_left
 focus
  intro W0 W p0 p m who k v s h q tb hst hv hg hL ok hM hm ht eZ hdn;obtain⟨hx0,hx1,hx2⟩:=idx h.hw;have hcf:=ok.cf;have bJ:=gy (hg.below bY) (by rw[hcf];exact ok) (by rw[hcf];exact hM) (by rw[hcf];exact hm) ⟨ag,ht⟩ eZ;rw[decide_eq_false hdn]at bJ;obtain⟨r,hr⟩:∃ r,r=q.step s.ws:=⟨_,rfl⟩
  rw[<- hr]at bJ hdn ⊢;clear hr;obtain⟨g2,jq,n2⟩:=r;dsimp only at bJ hdn ⊢
 rotate_left
 focus
  intro W0 W p0 p m who k v s h q tb hst hv hg hL ok hM hm ht eZ hdn he;obtain⟨hx0,hx1,hx2⟩:=idx h.hw;have hcf:=ok.cf;have bJ:=gy (hg.below bY) (by rw[hcf];exact ok) (by rw[hcf];exact hM) (by rw[hcf];exact hm) ⟨ag,ht⟩ eZ;rw[decide_eq_true hdn]at bJ;obtain⟨r,hr⟩:∃ r,r=q.step s.ws:=⟨_,rfl⟩
  rw[<- hr]at bJ hdn he ⊢;clear hr;obtain⟨g2,jq,n2⟩:=r;dsimp only at bJ hdn he ⊢
 rotate_left
 focus
  intro W0 W p0 p m who k v s h q tb hst hv hg hL ok hM hm ht eZ hdn he;obtain⟨hx0,hx1,hx2⟩:=idx h.hw;have hcf:=ok.cf;have bJ:=gy (hg.below bY) (by rw[hcf];exact ok) (by rw[hcf];exact hM) (by rw[hcf];exact hm) ⟨ag,ht⟩ eZ;rw[decide_eq_true hdn]at bJ;obtain⟨r,hr⟩:∃ r,r=q.step s.ws:=⟨_,rfl⟩
  rw[<- hr]at bJ hdn he ⊢;clear hr;obtain⟨g2,jq,n2⟩:=r;dsimp only at bJ hdn he ⊢
 rotate_left
 focus
  intro W0 W p0 p m who k v s h q tb hst hv hg hL ok hM hm ht eZ hdn he;obtain⟨hx0,hx1,hx2⟩:=idx h.hw;have hcf:=ok.cf;have bJ:=gy (hg.below bY) (by rw[hcf];exact ok) (by rw[hcf];exact hM) (by rw[hcf];exact hm) ⟨ag,ht⟩ eZ;rw[decide_eq_true hdn]at bJ;obtain⟨r,hr⟩:∃ r,r=q.step s.ws:=⟨_,rfl⟩
  rw[<- hr]at bJ hdn he ⊢;clear hr;obtain⟨g2,jq,n2⟩:=r;dsimp only at bJ hdn he ⊢
 rotate_left
 all_goals
  have g5:W.cell? ⟨p.gb,5,none⟩=some (ptr p.mb):=h.az 5;have g9:W.cell? ⟨p.gb,9,none⟩=some (.slice (some ⟨p.kb,0,none⟩) m.ks.length m.ks.length):=h.az 9;have k13:W.cell? ⟨p.kb,who * 35+13,none⟩=some (ptr tb):=(h.aL 13 (u:=v.queue) rfl).trans (by rw[hv]);have hdr:Below W.heap.size W W.drew:=bY;have H:=uH (h.below hdr);have HI:RowKit.Hid (In W.drew p.ow (8+who) tb):=uH (hL.mono hdr.size);have HST:=uH hst;have HV:=uH hv;have Fx:=uH hdn
 focus
  clear h hst hv hL hdr ok hM hm ht eZ hcf hg hdn
  go_enter func70,ntmps70
 rotate_left
 focus
  have HE:=uH he;clear h hst hv hL hdr ok hM hm ht eZ hcf hg hdn he
  go_enter func70,ntmps70
 rotate_left
 focus
  have HE:=uH he;clear h hst hv hL hdr ok hM hm ht eZ hcf hg hdn he
  go_enter func70,ntmps70
 rotate_left
 focus
  clear h hst hv hL hdr ok hM hm ht eZ hcf hg hdn
  go_enter func66,ntmps66
 rotate_left
 focus
  have HE:=uH he;clear h hst hv hL hdr ok hM hm ht eZ hcf hg hdn he
  go_enter func66,ntmps66
 rotate_left
 focus
  have HE:=uH he;clear h hst hv hL hdr ok hM hm ht eZ hcf hg hdn he
  go_enter func66,ntmps66
 rotate_left
 focus
  have HE:=uH he;clear h hst hv hL hdr ok hM hm ht eZ hcf hg hdn he
  go_enter func66,ntmps66
 rotate_left
 all_goals
  go_wp2_with fail
  go_region_held3 (fun w'=>w'.cell? ⟨p.kb,who * 35+13,none⟩=some (ptr tb)/\w'.cell? ⟨p.gb,5,none⟩=some (ptr p.mb)) (first | go_keep | exact⟨aI,aI⟩)
   ((first
   | (go_at_call 89;refine bJ.mono ?_;rintro e w5 ⟨rfl,jD,gz⟩;have eG:iX w5 tb p.mb p.wb g2 jq ((s.tc+n2:Nat):Int):=jD;have h5:=H.out.mG (fp:=fun b=>b=tb) (fun b hb=>by rw[hb];exact HI.out) gz eG.mem;have F5:=HI.out.mono gz.size;have Pf:w5.cell? ⟨p.kb,who * 35+13,none⟩=some (ptr tb):=(h5.aL 13 (u:=v.queue) rfl).trans (by rw[HV.out]);have d5:w5.cell? ⟨p.gb,5,none⟩=some (ptr p.mb):=h5.az 5)))
  have h6:=h5.same (k':={k with queue:=some g2}) (v':=v) rfl
 focus
  have H6:=uH h6;have A6:=uH (yH (gb:=p.gb) (who:=who) (c:=m.cf) (L:=In w5 p.ow (8+who)) (k:={k with queue:=some g2}) (v:=v) (.inr HST.out) rfl HV.out eG F5)
 rotate_left
 focus
  have kG:=jl eG Fx.out;generalize g2.e=ge at *;have H6:=uH h6
 rotate_left
 focus
  have kG:=jl eG Fx.out;generalize g2.e=ge at *;have H6:=uH h6
 rotate_left
 focus
  have H6:=uH h6;have A6:=uH (yH (gb:=p.gb) (who:=who) (c:=m.cf) (L:=In w5 p.ow (8+who)) (k:={k with queue:=some g2}) (v:=v) (.inl HST.out) rfl HV.out eG F5)
 rotate_left
 focus
  have kG:=jl eG Fx.out;generalize g2.e=ge at *;have H6:=uH h6
 rotate_left
 focus
  have kG:=jl eG Fx.out;generalize g2.e=ge at *;have H6:=uH h6
 rotate_left
 focus
  have kG:=jl eG Fx.out;generalize g2.e=ge at *;have H6:=uH h6
 rotate_left
 all_goals
  clear h5 h6 eG gz jD bJ F5
 rotate_left
 focus
  have Zn:=HE.out;subst Zn;go_wp2_with fail;refine kG.mono ?_;rintro e w6 ⟨rfl,hb6⟩;have h7:=H6.out.below hb6;have u16:w6.cell? ⟨p.kb,who * 35+16,none⟩=some (.bool k.dA):=h7.aL 16 rfl;have LJ:w6.frozen? ⟨p.kb,who * 35+16,none⟩=false:=h7.dZ 16 aT;have h8:=h7.put 16 aT (.bool false) (k':={k with queue:=some g2,dA:=false}) (v':=v) rfl;have H8:=uH h8;clear h7 h8 kG hb6;go_upto_region 5 with(fail);generalize w6.setCell ⟨p.kb,who * 35+16,none⟩ (.bool false)=w8 at *;have q0:w8.cell? ⟨p.kb,who * 35,none⟩=some (.i k.st):=H8.out.aL 0 rfl;have qf0:w8.frozen? ⟨p.kb,who * 35,none⟩=false:=H8.out.dZ 0 aT;clear u16 LJ
 rotate_left
 focus
  have Yd:(ge == 8)=false:=by simpa using HE.out
  go_wp2_with fail;refine kG.mono ?_;rintro e w6 ⟨rfl,hb6⟩;have h7:=H6.out.below hb6;have hen:=gU h7 {Mod.Ev.zero with e:=ge};clear h7 kG hb6 g5 g9 k13 Pf d5;go_wp2_with fail;refine hen.mono ?_;rintro e w9 ⟨rfl,v9,h9,a9,-⟩;have H9:=uH h9;have A9:=uH a9;clear hen h9 a9
 rotate_left;rotate_left
 focus
  have he0:=HE.out;subst he0;go_wp2_with fail;refine kG.mono ?_;rintro e w6 ⟨rfl,hb6⟩;have h7:=H6.out.below hb6;have u16:w6.cell? ⟨p.kb,who * 35+16,none⟩=some (.bool k.dA):=h7.aL 16 rfl;have LJ:w6.frozen? ⟨p.kb,who * 35+16,none⟩=false:=h7.dZ 16 aT;have h8:=h7.put 16 aT (.bool true) (k':={k with queue:=some g2,dA:=true}) (v':=v) rfl;have hty:=qc h8 true;clear h7 h8 kG hb6 g5 g9 k13 Pf d5;go_upto_region 6 with(fail);generalize w6.setCell ⟨p.kb,who * 35+16,none⟩ (.bool true)=w8 at *;clear u16 LJ;go_wp2_with fail;refine hty.mono ?_;rintro e w9 ⟨rfl,v9,h9,a9,-⟩;have H9:=uH h9;have A9:=uH a9;clear hty h9 a9
 rotate_left
 focus
  have Zn:=HE.out;subst Zn;go_wp2_with fail;refine kG.mono ?_;rintro e w6 ⟨rfl,hb6⟩;have h7:=H6.out.below hb6;have u16:w6.cell? ⟨p.kb,who * 35+16,none⟩=some (.bool k.dA):=h7.aL 16 rfl;have LJ:w6.frozen? ⟨p.kb,who * 35+16,none⟩=false:=h7.dZ 16 aT;have h8:=h7.put 16 aT (.bool false) (k':={k with queue:=some g2,dA:=false}) (v':=v) rfl;have hty:=qc h8 true;clear h7 h8 kG hb6 g5 g9 k13 Pf d5;go_upto_region 6 with(fail);generalize w6.setCell ⟨p.kb,who * 35+16,none⟩ (.bool false)=w8 at *;clear u16 LJ;go_wp2_with fail;refine hty.mono ?_;rintro e w9 ⟨rfl,v9,h9,a9,-⟩;have H9:=uH h9;have A9:=uH a9;clear hty h9 a9
 rotate_left
 focus
  have Yd:(ge == 8)=false:=by simpa using HE.out.2
  have hea:(ge == 0)=false:=by simpa using HE.out.1
  have aaU:(ge != 8)=true:=by simpa using HE.out.2
  have aaV:(ge != 0)=true:=by simpa using HE.out.1
  go_wp2_with fail;refine kG.mono ?_;rintro e w6 ⟨rfl,hb6⟩;have h7:=H6.out.below hb6;have hen:=gU h7 {Mod.Ev.zero with e:=ge};clear h7 kG hb6 g5 g9 k13 Pf d5;go_wp2_with fail;refine hen.mono ?_;rintro e w9 ⟨rfl,v9,h9,a9,-⟩;have H9:=uH h9;have A9:=uH a9;clear hen h9 a9
 rotate_left
 all_goals
  go_wp2_with fail
  first | go_end0 | refine bP ?_
 ·exact⟨rfl,p,v,H6.out,A6.out⟩
 ·exact⟨rfl,p,v,H8.out.put 0 aT (.i 6) (k':={k with queue:=some g2,dA:=false,st:=6}) (v':=v) rfl,kH (.inr (.inr (.inl rfl)))⟩
 ·exact⟨rfl,p,v9,H9.out,A9.out⟩
 ·exact⟨rfl,p,v,H6.out,A6.out⟩
 ·exact⟨rfl,p,v9,H9.out,A9.out⟩
 ·exact⟨rfl,p,v9,H9.out,A9.out⟩
 ·exact⟨rfl,p,v9,H9.out,A9.out⟩
def Iy:=@And.left _ _ wW
def Cq:=@And.left _ _ (And.right wW)
def Ej:=@And.left _ _ (And.right (And.right wW))
def Iq:=@And.left _ _ (And.right (And.right (And.right wW)))
def Eh:=@And.left _ _ (And.right (And.right (And.right (And.right wW))))
def Ei:=@And.left _ _ (And.right (And.right (And.right (And.right (And.right wW)))))
def Eg:=@And.right _ _ (And.right (And.right (And.right (And.right (And.right wW)))))
end Mc
end Go.Proofs.YtbklamnimfmjkaaGreatDoor
