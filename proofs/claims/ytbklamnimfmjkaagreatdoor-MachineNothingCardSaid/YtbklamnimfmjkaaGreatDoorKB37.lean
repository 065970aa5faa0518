/- Part 37 of the walks and plain laws that the last text joins. -/
import Derived.Test.YtbklamnimfmjkaaGreatDoorKB36
set_option maxRecDepth 100000
set_option maxHeartbeats 16000000
set_option linter.all false
open Go.Proofs.Tryz
namespace Go.Proofs.YtbklamnimfmjkaaGreatDoor
namespace Mc
open Go.RowKit Hp ah aj Slot ai Tk Cl
def Mc.tells (m:Mc) (o:Option Mod.Ev):Mc:={m with evs:=m.evs ++ o.toList}
theorem cz (m:Mc):m.tells none=m:=by unfold Mc.tells;simp
theorem Ef (m:Mc) (y:Mod.Ev):m.tells (some y)=m.told y:=rfl
def tN:Nat->Nat
 | 0=>62
 | 1=>63
 | 2=>64
 | 3=>65
 | 4=>66
 | 5=>67
 | 6=>68
 | 7=>69
 | _=>70
theorem uJ (n:Nat):∀ args w,(callFunc (tN n) args).run prog w=.ok (.enter (tN n) args) w:=by
 have h:∀ n,n < 9->∀ args w,(callFunc (tN n) args).run prog w=.ok (.enter (tN n) args) w:=by
  intro n hn;have hc:n=0\/n=1\/n=2\/n=3\/n=4\/n=5\/n=6\/n=7\/n=8:=ag
  rcases hc with rfl | rfl | rfl | rfl | rfl | rfl | rfl | rfl | rfl
  ·exact aH func62
  ·exact aH func63
  ·exact aH func64
  ·exact aH func65
  ·exact aH func66
  ·exact aH func67
  ·exact aH func68
  ·exact aH func69
  ·exact aH func70
 by_cases hn:n < 9
 ·exact h n hn
 ·have:tN n=tN 8:=by
   unfold tN
   split<;>first | omega | rfl
  rw[this];exact h 8 aT
variable {k:Wk} {cf:Cf} {who at':Nat} {s:Sh}
theorem O3 (e:k.st=1) (hh:k.half=true):k.step cf who at' s=({k with half:=false,bq:=some (k.begin cf who),st:=2},s.cells (s.ws.set (Ty.pc who) (wrap64 (k.word+1)),1),none):=by
 cases k;dsimp only at *;subst e;subst hh;rfl
theorem O4 (e:k.st=1) (hh:k.half=false):k.step cf who at' s=({k with word:=rd s.ws 2,half:=true},s.cells (s.ws,1),none):=by
 cases k;dsimp only at *;subst e;subst hh;rfl
theorem O5 (e:k.st=2):k.step cf who at' s=((k.works cf who s).1,(k.works cf who s).2,none):=by
 cases k;dsimp only at *;subst e;rfl
theorem O6 {t:Tw} (e:k.st=3) (ht:k.two=some t):k.step cf who at' s=(if !(t.step s.ws).1.done then ({k with two:=some (t.step s.ws).1},s.cells (s.ws,(t.step s.ws).2),none) else if (t.step s.ws).1.last.any (fun w=>eF w 3 who) then ({k with two:=some (t.step s.ws).1,bq:=some (.get (Tk.new cf who)),st:=2},s.cells (s.ws,(t.step s.ws).2),none) else (({k with two:=some (t.step s.ws).1}:Wk).finish cf who {Mod.Ev.zero with e:=3},s.cells (s.ws,(t.step s.ws).2),none)):=by
 cases k;dsimp only at *;subst e;subst ht;rfl
theorem O7 {q:Qu} (e:k.st=4) (ht:k.queue=some q):k.step cf who at' s=(if (q.step s.ws).1.st≠8 then ({k with queue:=some (q.step s.ws).1},s.cells (q.step s.ws).2,none) else if (q.step s.ws).1.e≠0/\(q.step s.ws).1.e≠8 then (({k with queue:=some (q.step s.ws).1}:Wk).finish cf who {Mod.Ev.zero with e:=(q.step s.ws).1.e},s.cells (q.step s.ws).2,none) else (({k with queue:=some (q.step s.ws).1,dA:=decide ((q.step s.ws).1.e=0)}:Wk).aR cf who true,s.cells (q.step s.ws).2,none)):=by
 cases k;dsimp only at *;subst e;subst ht;rfl
theorem O8 {t:Ty.Ty} (e:k.st=5) (ht:k.tidy=some t):k.step cf who at' s=(if (t.step s.ws).1.st≠17 then ({k with tidy:=some (t.step s.ws).1},s.cells (t.step s.ws).2,none) else if k.dO then ({k with tidy:=some (t.step s.ws).1,st:=6},s.cells (t.step s.ws).2,none) else ({k with tidy:=some (t.step s.ws).1,st:=0},s.cells (t.step s.ws).2,some {k.ans with ended:=true,who:=who,at':=at',ask:=k.ask})):=by
 cases k;dsimp only at *;subst e;subst ht;rfl
theorem O9 (e:k.st=6) (hh:k.half=false) (hgr:granted cf who s≠0):k.step cf who at' s=({k with st:=7,word:=granted cf who s,half:=true},s.cells (s.ws,1),none):=by
 cases k;dsimp only at *;subst e;subst hh
 first | exact(if_pos hgr).trans rfl | (simp only[Wk.step];rw[if_pos hgr];rfl)
theorem Pb (e:k.st=6) (hgr:¬ granted cf who s≠0):k.step cf who at' s=((({k with queue:=some (Qu.leave cf who),st:=8}:Wk).leaves cf who (Qu.leave cf who) s).1,(({k with queue:=some (Qu.leave cf who),st:=8}:Wk).leaves cf who (Qu.leave cf who) s).2,none):=by
 cases k;dsimp only at *;subst e
 first | exact(if_neg hgr).trans rfl | (simp only[Wk.step];rw[if_neg hgr])
theorem Pd (e:k.st=7):k.step cf who at' s=((k.wakes cf who s).1,(k.wakes cf who s).2,none):=by
 cases k;dsimp only at *;subst e;rfl
theorem Pe {q:Qu} (e:k.st=8) (ht:k.queue=some q):k.step cf who at' s=((k.leaves cf who q s).1,(k.leaves cf who q s).2,none):=by
 cases k;dsimp only at *;subst e;subst ht;rfl
theorem yG {n:Nat} {W0 W:World} {p0 p:Mp} {m:Mc} {v:KV} (h:Mx W0 p0 W p m who k v s) (ha:bF W p.gb p.mb p.wb (In W p.ow (8+who)) who s.ws s.tc m.cf k v) (E:Env n m.cf who k s) (h0:k.st≠0) (hev:m.evs.length<=100000000):
  Calls prog (tN k.st) #[ptr p.gb,.i who] W (bV W0 p0 (m.tells (k.step m.cf who m.at' s).2.2) who (k.step m.cf who m.at' s).1 (k.step m.cf who m.at' s).2.1):=by
 have hok:=E.ok;have hst:=hok.st;have hlen:=E.ws.l.len;have vX:=fun h1 h7=>hok.Dy h1 h7
 have hcs:k.st=1\/k.st=2\/k.st=3\/k.st=4\/k.st=5\/k.st=6\/k.st=7\/k.st=8:=ag
 rcases hcs with e | e | e | e | e | e | e | e
 ·rw[e];cases hh:k.half
  ·have hs:=O4 (cf:=m.cf) (who:=who) (at':=m.at') (s:=s) e hh;rw[hs,cz];exact Ii h e hh (by have:=E.cf.nw;rw[hlen,fI];omega) E.tc
  ·have hs:=O3 (cf:=m.cf) (who:=who) (at':=m.at') (s:=s) e hh;rw[hs,cz];exact Ij h e hh E.cf E.who (hok.op h0) (by have:=hok.grant;have:=E.cf.s;omega) hlen E.tc
 ·rw[e];have hs:=O5 (cf:=m.cf) (who:=who) (at':=m.at') (s:=s) e;rw[hs,cz];exact Io h ha e E
 ·rw[e];obtain⟨t,tb,vr,vl,ht,hv,hg,hd⟩:=ha.two e;have h9:=Nat.le_trans (E.live.two t ht) E.n;have hs:=O6 (cf:=m.cf) (who:=who) (at':=m.at') (s:=s) e ht;rw[hs];cases hdn:(t.step s.ws).1.done
  ·rw[if_pos aT,cz];exact Ip h e hv hg hd (hok.two t ht) h9 E.cf hlen E.tc hdn
  ·rw[if_neg aT];have hc:=Ck h e hv hg hd (hok.two t ht) h9 E.cf hlen E.tc hdn
   by_cases hany:(t.step s.ws).1.last.any (fun w=>eF w 3 who)=true
   ·rw[if_pos hany,cz];rw[if_pos hany]at hc;exact hc
   ·rw[if_neg hany,cz];rw[if_neg hany]at hc;exact hc
 ·rw[e];obtain⟨q,tb,hq,hv,hg,hL⟩:=ha.queue (.inl e);have hl:=E.live.queue q (.inl e) hq;have hqo:=(hok.queue q hq).1;have hs:=O7 (cf:=m.cf) (who:=who) (at':=m.at') (s:=s) e hq;rw[hs]
  by_cases h8:(q.step s.ws).1.st=8
  ·rw[if_neg (fun x=>x h8)]
   by_cases he:(q.step s.ws).1.e≠0/\(q.step s.ws).1.e≠8
   ·rw[if_pos he,cz];exact Eg h e hv hg hL hqo E.cf E.ws.l E.tc hl h8 he
   ·rw[if_neg he,cz]
    by_cases he0:(q.step s.ws).1.e=0
    ·rw[decide_eq_true he0];exact Eh h e hv hg hL hqo E.cf E.ws.l E.tc hl h8 he0
    ·rw[decide_eq_false he0];exact Ei h e hv hg hL hqo E.cf E.ws.l E.tc hl h8 (by by_cases hx:(q.step s.ws).1.e=8;exact hx;exact absurd ⟨he0,hx⟩ he)
  ·rw[if_pos h8,cz];exact Iq h e hv hg hL hqo E.cf E.ws.l E.tc hl h8
 ·rw[e];obtain⟨t,tb,lo,ro,ht,hv,hg,hd⟩:=ha.tidy e;have hto:=hok.tidy t ht;have hs:=O8 (cf:=m.cf) (who:=who) (at':=m.at') (s:=s) e ht;rw[hs]
  by_cases Fs:(t.step s.ws).1.st=17
  ·rw[if_neg (fun x=>x Fs)];cases hpk:k.dO
   ·rw[if_neg aT,Ef];have:=Cm h e hv hg hd hto E.cf E.ws E.tc Fs hpk hev;rw[hpk]at this;exact this
   ·rw[if_pos rfl,cz];have:=Cn h e hv hg hd hto E.cf E.ws E.tc Fs hpk;rw[hpk]at this;exact this
  ·rw[if_pos Fs,cz];exact Ir h e hv hg hd hto E.cf E.ws E.tc Fs
 ·rw[e];have hh:=vX ag ag
  by_cases hgr:granted m.cf who s≠0
  ·have hs:=O9 (cf:=m.cf) (who:=who) (at':=m.at') (s:=s) e hh hgr;rw[hs,cz];exact Co h e hh E.cf E.who E.ws.l E.tc hgr
  ·have hs:=Pb (cf:=m.cf) (who:=who) (at':=m.at') (s:=s) e hgr;rw[hs,cz];exact zI h e hh E.cf E.who E.ws.l E.tc hgr
 ·rw[e];have hs:=Pd (cf:=m.cf) (who:=who) (at':=m.at') (s:=s) e;rw[hs,cz];cases hh:k.half
  ·have hw:k.wakes m.cf who s=({k with word:=granted m.cf who s,half:=true},s.cells (s.ws,1)):=by unfold Wk.wakes;rw[hh];rfl
   rw[hw];exact wU h e hh E.cf E.who hlen E.tc
  ·by_cases hw:k.word < 0
   ·have hx:k.wakes m.cf who s=(({k with half:=false}:Wk).finish m.cf who {Mod.Ev.zero with e:=5},s.cells (s.ws.set (Ty.gc m.cf who) 0,1)):=by unfold Wk.wakes;rw[if_pos hh,if_pos hw]
    rw[hx];exact Iu h e hh hw E.cf E.who hlen E.tc
   ·have hx:k.wakes m.cf who s=({k with half:=false,grant:=k.word,st:=1},s.cells (s.ws.set (Ty.gc m.cf who) 0,1)):=by unfold Wk.wakes;rw[if_pos hh,if_neg hw]
    rw[hx];exact Iw h e hh hw E.cf E.who hlen E.tc
 ·rw[e];obtain⟨q,tb,hq,hv,hg,hL⟩:=ha.queue (.inr e);have hl:=E.live.queue q (.inr e) hq;have hqo:=(hok.queue q hq).1;have hs:=Pe (cf:=m.cf) (who:=who) (at':=m.at') (s:=s) e hq;rw[hs,cz];exact wV h e hv hg hL hqo E.cf E.ws.l E.tc hl
end Mc
namespace Mc
open Go.RowKit Hp ah aj Slot ai Tk Cl
def Ct:List Value:=[.func (.func 62) #[] #[],.func (.func 63) #[] #[],.func (.func 64) #[] #[],.func (.func 65) #[] #[],.func (.func 66) #[] #[],.func (.func 67) #[] #[],.func (.func 68) #[] #[],.func (.func 69) #[] #[],.func (.func 70) #[] #[]]
abbrev TE:Array Value:=#[.nilFunc,.nilFunc,.nilFunc,.nilFunc,.nilFunc,.nilFunc,.nilFunc,.nilFunc,.nilFunc]
theorem kX (W:World):Calls prog 52 #[] W fun e W'=>e=.returned (.agg ⟨Ct⟩)/\Below W.heap.size W W':=by
 have hz:af (W.alloc (.cells TE 103)) W.heap.size TE 103:=heap_alloc_new W _;have hB:Below W.heap.size W (W.alloc (.cells TE 103)):=bZ.alloc aQ _
 go_enter func52,ntmps52
 go_upto_region 1 with(fail);refine wp_region_lit ?_;refine gl (.agg ⟨Ct⟩) ?_;refine uR hz ⟨Ct⟩ 103 (.tmp 0) (.tmp 1) ?_;go_wp2_with fail;refine N7 W.heap.size (hz.set ⟨Ct⟩) underlying103 ?_;exact⟨rfl,bX hB aQ _⟩
theorem Cj (W:World) {st:Nat} (hl:st<=8):(Instr.index 103 (.agg ⟨Ct⟩) (.i st)).run prog W=.ok (.func (.func (tN st)) #[] #[]) W:=by
 have hcases:st=0\/st=1\/st=2\/st=3\/st=4\/st=5\/st=6\/st=7\/st=8:=ag
 rcases hcases with rfl | rfl | rfl | rfl | rfl | rfl | rfl | rfl | rfl<;>rfl
variable {W0:World} {p0:Mp} {who:Nat}
theorem Mx.has {W:World} {p:Mp} {m:Mc} {k:Wk} {v:KV} {s:Sh} (h:Mx W0 p0 W p m who k v s):(m.mid who k s).has who=true:=decide_eq_true ⟨ag,by have:=h.hw;show(who:Int) < (((m.ks.set who k).length:Nat):Int);rw[List.length_set];omega⟩
theorem bF.below {W W':World} {p:Mp} {m:Mc} {k:Wk} {v:KV} {s:Sh} (a:bF W p.gb p.mb p.wb (In W p.ow (8+who)) who s.ws s.tc m.cf k v) (h:Mx W0 p0 W p m who k v s) (hb:Below W.heap.size W W'):bF W' p.gb p.mb p.wb (In W' p.ow (8+who)) who s.ws s.tc m.cf k v:=
 a.aK (G:=fun _=>False) (aD.aF hb) (fun e=>e) (fun _ _ e=>e) (h.mem.below hb) (fun b hL=>hL.mono hb.size)
theorem Ed {W:World} {p:Mp} {m:Mc} {k:Wk} {v:KV} {s:Sh} (h:Mx W0 p0 W p m who k v s) (hst:k.st=0):Calls prog 34 #[ptr p.gb,.i who] W (fun e W'=>e=.returned (.bool false)/\Below W.heap.size W W'):=by
 obtain⟨hx0,hx1,hx2⟩:=idx h.hw;have hhas:=gV h.core who;rw[h.has]at hhas;rw[show(p.mid who v).gb=p.gb from rfl]at hhas;have g9:W.cell? ⟨p.gb,9,none⟩=some (.slice (some ⟨p.kb,0,none⟩) m.ks.length m.ks.length):=h.az 9;have k0:W.cell? ⟨p.kb,who * 35,none⟩=some (.i 0):=(h.aL 0 (u:=.i k.st) rfl).trans (by rw[hst];rfl);clear h hst
 go_enter func34,ntmps34
 go_wp2_with fail;refine hhas.mono ?_;rintro e w1 ⟨rfl,rfl⟩;clear hhas;go_wp2_with fail;go_ret;exact⟨rfl,Below.refl _ _⟩
theorem Ci {W:World} {p:Mp} {m:Mc} {k:Wk} {v:KV} {s:Sh} (h:Mx W0 p0 W p m who k v s) (hst:k.st=6) (hM:aA m.cf) (hwn:(who:Int) < m.cf.workers) (hlen:s.ws.length=sc m.cf (ns m.cf)) (AB:k.may m.cf who s=false):Calls prog 34 #[ptr p.gb,.i who] W (fun e W'=>e=.returned (.bool false)/\Below W.heap.size W W'):=by
 obtain⟨hx0,hx1,hx2⟩:=idx h.hw;have hhas:=gV h.core who;rw[h.has]at hhas;rw[show(p.mid who v).gb=p.gb from rfl]at hhas;have g9:W.cell? ⟨p.gb,9,none⟩=some (.slice (some ⟨p.kb,0,none⟩) m.ks.length m.ks.length):=h.az 9;have hmw:=uI h hM hwn hlen;unfold Wk.may at AB;rw[if_neg ag,if_pos hst]at AB;rw[AB]at hmw;have k0:W.cell? ⟨p.kb,who * 35,none⟩=some (.i 6):=(h.aL 0 (u:=.i k.st) rfl).trans (by rw[hst];rfl);clear h hst AB hM hwn hlen
 go_enter func34,ntmps34
 go_wp2_with fail;refine hhas.mono ?_;rintro e w1 ⟨rfl,rfl⟩;clear hhas;go_wp2_with fail;refine hmw.mono ?_;rintro e w2 ⟨rfl,hb2⟩;have HB:=uH hb2;clear hmw hb2;go_wp2_with fail;go_ret;exact⟨rfl,HB.out⟩
theorem Ee {W:World} {p:Mp} {m:Mc} {k:Wk} {v:KV} {s:Sh} (h:Mx W0 p0 W p m who k v s) {n:Nat} (a:bF W p.gb p.mb p.wb (In W p.ow (8+who)) who s.ws s.tc m.cf k v) (E:Env n m.cf who k s) (hev:m.evs.length<=100000000) (hst:k.st=6) (AB:k.may m.cf who s=true):Calls prog 34 #[ptr p.gb,.i who] W (fun e W'=>e=.returned (.bool true)/\∃ p' v',Mx W0 p0 W' p' (m.tells (k.step m.cf who m.at' s).2.2) who (k.step m.cf who m.at' s).1 v' (k.step m.cf who m.at' s).2.1/\bF W' p'.gb p'.mb p'.wb (In W' p'.ow (8+who)) who (k.step m.cf who m.at' s).2.1.ws (k.step m.cf who m.at' s).2.1.tc m.cf (k.step m.cf who m.at' s).1 v'):=by
 obtain⟨hx0,hx1,hx2⟩:=idx h.hw;have hhas:=gV h.core who;rw[h.has]at hhas;rw[show(p.mid who v).gb=p.gb from rfl]at hhas;have g9:W.cell? ⟨p.gb,9,none⟩=some (.slice (some ⟨p.kb,0,none⟩) m.ks.length m.ks.length):=h.az 9;have HST:=uH (fun(w':World) (h':Mx W0 p0 w' p m who k v s) (a':bF w' p.gb p.mb p.wb (In w' p.ow (8+who)) who s.ws s.tc m.cf k v)=>yG h' a' E ag hev);have H8:=uH E.ok.st;have hmw:=uI h E.cf E.who E.ws.l.len;unfold Wk.may at AB;rw[if_neg ag,if_pos hst]at AB;rw[AB]at hmw;have k0:W.cell? ⟨p.kb,who * 35,none⟩=some (.i 6):=(h.aL 0 (u:=.i k.st) rfl).trans (by rw[hst];rfl);have HS6:=uH hst;have H0:=uH h;have A0:=uH a;clear h a E hst AB hev
 go_enter func34,ntmps34
 go_wp2_with fail;refine hhas.mono ?_;rintro e w1 ⟨rfl,rfl⟩;clear hhas;go_wp2_with fail;refine hmw.mono ?_;rintro e w2 ⟨rfl,hb2⟩;have H:=uH (H0.out.below hb2);have A:=uH (A0.out.below H0.out hb2);have d0:w2.cell? ⟨p.kb,who * 35,none⟩=some (.i k.st):=H.out.aL 0 rfl;clear hmw hb2 k0;go_upto_region 6 with(fail);refine jr (S:=fun w'=>True) trivial (fun hHeld=>?_);refine tH 1 35 hHeld ?_;refine tH 2 36 hHeld ?_;refine tH 3 37 hHeld ?_;refine tH 6 40 hHeld ?_;refine tH 7 41 hHeld ?_;refine gI (i:=0) (k:=4) ax ?_ ?_
 focus
  refine bI 52 #[] #[] (some 34) none ax ax #[] ax (aH func52) ?_;refine(kX _).mono ?_;rintro e w5 ⟨rfl,hb5⟩;have h5:=(H.out.below bY).below hb5;have a5:=(A.out.below H.out bY).below (H.out.below bY) hb5;have hS5:=HST.out w5 h5 a5;have e0:w5.cell? ⟨p.kb,who * 35,none⟩=some (.i k.st):=h5.aL 0 rfl;clear h5 a5;refine⟨_,rfl,trivial,fun hHeld=>ay ?_⟩
  refine rK 4 38 (.i k.st) hHeld ?_ (by go_simp;try with_reducible rfl)
 rotate_left
 focus
  refine aY (some 38) (.i k.st) ax ax (by go_simp;try with_reducible rfl) trivial (fun hHeld=>ay ?_)
  refine mP (i:=0) 52 #[] #[] (some 34) none #[] (aH func52) ?_;refine(kX _).mono ?_;rintro e w5 ⟨rfl,hb5⟩;have h5:=(H.out.below bY).below hb5;have a5:=(A.out.below H.out bY).below (H.out.below bY) hb5;have hS5:=HST.out w5 h5 a5;have e0:w5.cell? ⟨p.kb,who * 35,none⟩=some (.i k.st):=h5.aL 0 rfl;clear h5 a5;refine⟨_,rfl,trivial,fun hHeld=>?_⟩
 rotate_left
 all_goals
  try simp only[Act.put,sA,sZ,sS]
  have hix:=Cj w5 H8.out;refine rK 5 39 (.func (.func (tN k.st)) #[] #[]) hHeld ?_ (by go_simp;try with_reducible rfl)
  try simp only[Act.put,sA,sZ,sS]
  refine Yc (i:=8) (tN k.st) 39 #[.tmp 40,.tmp 41] #[29,3] (some 42) none #[ptr p.gb,.i who] (uJ k.st) ax ?_;refine hS5.mono ?_;rintro e w6 ⟨rfl,p6,v6,h6,a6⟩;refine⟨_,rfl,trivial,fun hHeld=>ay ?_⟩
  refine iR ?_;have H6:=uH h6;have A6:=uH a6;clear h6 a6 hS5;go_wp2_with fail;go_ret;exact⟨rfl,p6,v6,H6.out,A6.out⟩
theorem Im {W:World} {p:Mp} {m:Mc} {k:Wk} {v:KV} {s:Sh} (h:Mx W0 p0 W p m who k v s) {n:Nat} (a:bF W p.gb p.mb p.wb (In W p.ow (8+who)) who s.ws s.tc m.cf k v) (E:Env n m.cf who k s) (hev:m.evs.length<=100000000) (hst:k.st≠0) (Zk:k.st≠6):Calls prog 34 #[ptr p.gb,.i who] W (fun e W'=>e=.returned (.bool true)/\∃ p' v',Mx W0 p0 W' p' (m.tells (k.step m.cf who m.at' s).2.2) who (k.step m.cf who m.at' s).1 v' (k.step m.cf who m.at' s).2.1/\bF W' p'.gb p'.mb p'.wb (In W' p'.ow (8+who)) who (k.step m.cf who m.at' s).2.1.ws (k.step m.cf who m.at' s).2.1.tc m.cf (k.step m.cf who m.at' s).1 v'):=by
 obtain⟨hx0,hx1,hx2⟩:=idx h.hw;have hhas:=gV h.core who;rw[h.has]at hhas;rw[show(p.mid who v).gb=p.gb from rfl]at hhas;have g9:W.cell? ⟨p.gb,9,none⟩=some (.slice (some ⟨p.kb,0,none⟩) m.ks.length m.ks.length):=h.az 9;have HST:=uH (fun(w':World) (h':Mx W0 p0 w' p m who k v s) (a':bF w' p.gb p.mb p.wb (In w' p.ow (8+who)) who s.ws s.tc m.cf k v)=>yG h' a' E ag hev);have H8:=uH E.ok.st;have k0:W.cell? ⟨p.kb,who * 35,none⟩=some (.i k.st):=h.aL 0 rfl;have q0:((k.st:Int) == 0)=false:=by rw[beq_eq_false_iff_ne];omega
 have q6:((k.st:Int) == 6)=false:=by rw[beq_eq_false_iff_ne];omega
 have H:=uH h;have A:=uH a;clear h a E hst Zk hev
 go_enter func34,ntmps34
 go_wp2_with fail;refine hhas.mono ?_;rintro e w1 ⟨rfl,rfl⟩;clear hhas;go_upto_region 6 with(fail);refine jr (S:=fun w'=>True) trivial (fun hHeld=>?_);refine tH 1 35 hHeld ?_;refine tH 2 36 hHeld ?_;refine tH 3 37 hHeld ?_;refine tH 6 40 hHeld ?_;refine tH 7 41 hHeld ?_;refine gI (i:=0) (k:=4) ax ?_ ?_
 focus
  refine bI 52 #[] #[] (some 34) none ax ax #[] ax (aH func52) ?_;refine(kX _).mono ?_;rintro e w5 ⟨rfl,hb5⟩;have h5:=(H.out.below bY).below hb5;have a5:=(A.out.below H.out bY).below (H.out.below bY) hb5;have hS5:=HST.out w5 h5 a5;have e0:w5.cell? ⟨p.kb,who * 35,none⟩=some (.i k.st):=h5.aL 0 rfl;clear h5 a5;refine⟨_,rfl,trivial,fun hHeld=>ay ?_⟩
  refine rK 4 38 (.i k.st) hHeld ?_ (by go_simp;try with_reducible rfl)
 rotate_left
 focus
  refine aY (some 38) (.i k.st) ax ax (by go_simp;try with_reducible rfl) trivial (fun hHeld=>ay ?_)
  refine mP (i:=0) 52 #[] #[] (some 34) none #[] (aH func52) ?_;refine(kX _).mono ?_;rintro e w5 ⟨rfl,hb5⟩;have h5:=(H.out.below bY).below hb5;have a5:=(A.out.below H.out bY).below (H.out.below bY) hb5;have hS5:=HST.out w5 h5 a5;have e0:w5.cell? ⟨p.kb,who * 35,none⟩=some (.i k.st):=h5.aL 0 rfl;clear h5 a5;refine⟨_,rfl,trivial,fun hHeld=>?_⟩
 rotate_left
 all_goals
  try simp only[Act.put,sA,sZ,sS]
  have hix:=Cj w5 H8.out;refine rK 5 39 (.func (.func (tN k.st)) #[] #[]) hHeld ?_ (by go_simp;try with_reducible rfl)
  try simp only[Act.put,sA,sZ,sS]
  refine Yc (i:=8) (tN k.st) 39 #[.tmp 40,.tmp 41] #[29,3] (some 42) none #[ptr p.gb,.i who] (uJ k.st) ax ?_;refine hS5.mono ?_;rintro e w6 ⟨rfl,p6,v6,h6,a6⟩;refine⟨_,rfl,trivial,fun hHeld=>ay ?_⟩
  refine iR ?_;have H6:=uH h6;have A6:=uH a6;clear h6 a6 hS5;go_wp2_with fail;go_ret;exact⟨rfl,p6,v6,H6.out,A6.out⟩
end Mc
end Go.Proofs.YtbklamnimfmjkaaGreatDoor
