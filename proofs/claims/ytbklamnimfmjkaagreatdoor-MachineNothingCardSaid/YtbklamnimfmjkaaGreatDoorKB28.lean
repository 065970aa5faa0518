/- Part 28 of the walks and plain laws that the last text joins. -/
import Derived.Test.YtbklamnimfmjkaaGreatDoorKB22
import Derived.Test.YtbklamnimfmjkaaGreatDoorKB25
import Derived.Test.YtbklamnimfmjkaaGreatDoorKB26
import Derived.Test.YtbklamnimfmjkaaGreatDoorKB27
set_option maxRecDepth 100000
set_option maxHeartbeats 16000000
set_option linter.all false
open Go.Proofs.Tryz
namespace Go.Proofs.YtbklamnimfmjkaaGreatDoor
namespace Mc
open Go.RowKit Hp ah aj Slot ai Tk Cl
structure KV where
 work:Value
 two:Value
 queue:Value
 tidy:Value
def KV.zero:KV:=⟨.nilFunc,.pointer none,.pointer none,.pointer none⟩
def upd (vs:Nat->KV) (i:Nat) (v:KV) (j:Nat):KV:=if j=i then v else vs j
theorem upd_same (vs:Nat->KV) (i:Nat) (v:KV):upd vs i v i=v:=if_pos rfl
theorem upd_ne {vs:Nat->KV} {i j:Nat} {v:KV} (h:j≠i):upd vs i v j=vs j:=if_neg h
theorem TL (vs:Nat->KV) (i:Nat):upd vs i (vs i)=vs:=by
 funext j
 by_cases h:j=i
 ·subst h;rw[upd_same]
 ·rw[upd_ne h]
def dx (k:Wk) (v:KV):Array Value:=#[.i k.st,.i k.ask.op,.i k.ask.deadline,.bool k.ask.wait,.bool k.ask.force,.i k.ask.slot,.i k.ask.gen,.i k.ask.stream,
 .bool k.half,.i k.word,.i k.grant,v.work,v.two,v.queue,v.tidy,.bool k.dO,.bool k.dA,
 .bool k.ans.ended,.i k.ans.who,.i k.ans.at',.i k.ans.ask.op,.i k.ans.ask.deadline,.bool k.ans.ask.wait,.bool k.ans.ask.force,.i k.ans.ask.slot,.i k.ans.ask.gen,.i k.ans.ask.stream,
 .i k.ans.e,.i k.ans.slot,.i k.ans.gen,.i k.ans.stream,.i k.ans.idle,.i k.ans.eu,.i k.ans.empty,.i k.ans.other]
structure pI (W:World) (kb:Nat) (ks:List Wk) (vs:Nat->KV):Prop where
 cell:∀ (i:Nat) (k:Wk),ks[i]? =some k->∀ (j:Nat) (u:Value),(dx k (vs i))[j]? =some u->W.cell? ⟨kb,i * 35+j,none⟩=some u
 free:∀ i j:Nat,i < ks.length->j < 35->W.frozen? ⟨kb,i * 35+j,none⟩=false
section
variable {W W':World} {kb:Nat} {ks:List Wk} {vs:Nat->KV}
theorem fV (k:Wk) (v:KV):(dx k v).size=35:=rfl
theorem pI.stable (h:pI W kb ks vs) (hb:W'.heap[kb]? =W.heap[kb]?):pI W' kb ks vs:=
 ⟨fun i k hk j u hu=>(World.cell?_of_block (w:=W) hb).trans (h.cell i k hk j u hu),fun i j hi hj=>(World.frozen?_of_block (w:=W) hb).trans (h.free i j hi hj)⟩
theorem pI.lt (h:pI W kb ks vs) {i:Nat} (hi:i < ks.length):kb < W.heap.size:=dN (h.cell i ks[i] (List.getElem?_eq_getElem hi) 0 _ rfl)
theorem pI.setMany {i:Nat} {k k':Wk} {v v':KV} (h:pI W kb (ks.set i k) (upd vs i v)) (hi:i < ks.length) (o:Nat) (l:List Value) (ho:o+l.length<=35)
  (hrow:∀ j u,(dx k' v')[j]? =some u->(if o<=j/\j < o+l.length then l[j - o]? else (dx k v)[j]?)=some u):
  pI (W.setCells kb (i * 35+o) l) kb (ks.set i k') (upd vs i v'):=by
 have hk0:(ks.set i k)[i]? =some k:=by rw[List.getElem?_set_self hi]
 have TM:∀ j:Nat,j < l.length->(W.cell? ⟨kb,i * 35+o+j,none⟩).isSome=true:=fun j hj=>by
  have hj2:o+j < (dx k (upd vs i v i)).size:=by rw[fV];omega
  rw[Nat.add_assoc,h.cell i k hk0 (o+j) _ (Array.getElem?_eq_getElem hj2)];rfl
 refine⟨fun n q hq j u hu=>?_,fun n j hn hj=>?_⟩
 ·have hj:j < 35:=by have:=(Array.getElem?_eq_some_iff.1 hu).1;rw[fV]at this;exact this
  by_cases hni:n=i
  ·subst hni;rw[List.getElem?_set_self hi]at hq;cases hq;rw[upd_same]at hu;have hr:=hrow j u hu
   by_cases hc:o<=j/\j < o+l.length
   ·rw[if_pos hc]at hr;have e:n * 35+j=n * 35+o+(j - o):=ag
    rw[e,World.cell?_setCells_in kb _ _ _ TM (j - o) ag];rw[<- hr,List.getElem?_eq_getElem ag]
   ·rw[if_neg hc]at hr;rw[World.cell?_setCells_out kb _ _ _ _ (fun _ _=>by show n * 35+j < n * 35+o\/n * 35+o+l.length<=n * 35+j;omega)];exact h.cell n k hk0 j u (by rw[upd_same];exact hr)
  ·rw[List.getElem?_set_ne (fun e=>hni e.symm)]at hq;rw[upd_ne hni]at hu;rw[World.cell?_setCells_out kb _ _ _ _ (fun _ _=>by show n * 35+j < i * 35+o\/i * 35+o+l.length<=n * 35+j;omega)];exact h.cell n q (by rw[List.getElem?_set_ne (fun e=>hni e.symm)];exact hq) j u (by rw[upd_ne hni];exact hu)
 ·rw[World.frozen?_setCells];exact h.free n j (by simpa using hn) hj
theorem pI.put {i:Nat} {k k':Wk} {v v':KV} (h:pI W kb (ks.set i k) (upd vs i v)) (hi:i < ks.length) (j:Nat) (hj:j < 35) (u:Value) (hrow:(dx k v).setIfInBounds j u=dx k' v'):
  pI (W.setCell ⟨kb,i * 35+j,none⟩ u) kb (ks.set i k') (upd vs i v'):=by
 have:=h.setMany hi (k':=k') (v':=v') j [u] (by simp;omega) (fun n x hx=>by
  rw[<- hrow]at hx;rw[Array.getElem?_setIfInBounds]at hx
  by_cases hn:j=n
  ·subst hn;rw[if_pos rfl,if_pos (by rw[fV];exact hj)]at hx;rw[if_pos au]
   simpa using hx
  ·rw[if_neg hn]at hx;rw[if_neg (by simp;omega)];exact hx)
 exact this
end
structure Mp where
 gb:Nat
 mb:Nat
 wb:Nat
 cb:Nat
 ob:Nat
 rb:Nat
 kb:Nat
 wv:Value
 ev:Value
 vs:Nat->KV
 ow:Nat->Nat
def In (W:World) (ow:Nat->Nat) (l b:Nat):Prop:=b < W.heap.size/\ow b=l
def gL (l:List Mod.Ev):List Value:=l.flatMap fun x=>x.cells.toList
def wI (p:Mp) (c:Cf) (n:Nat) (en at':Nat):Array Value:=#[.i c.workers,.i c.slots,.i c.streams,.i c.waiters,.i c.uses,ptr p.mb,ptr p.cb,ptr p.ob,
 p.ev,.slice (some ⟨p.kb,0,none⟩) n n,.i en,.i at']
structure gm (W:World) (ab mb wb fb:Nat) (ro:Option Nat) (c:Cf) (r:Rp) (ws:List Int) (tc:Int):Prop where
 row:af W ab #[.i r.st,.i r.many,ptr fb,fJ ro] 196
 look:bQ W fb c r.look
 ret:∀ x,r.rt=some x->∃ b,ro=some b/\cK W b x
 fa:Apart fb mb wb/\fb≠ab
 ra:∀ b,ro=some b->Apart b mb wb/\b≠ab/\b≠fb/\b < W.heap.size
 mem:bB W mb wb ws tc
 ap:Apart ab mb wb
 laid:Slot.Laid W
structure qa (W:World) (gb who:Nat) (L:Nat->Prop) (F:Nat) (v x:Value) (T:TypeId) (b1 b2 b3:Nat):Prop where
 v:v=.func (.func F) #[] #[ptr b1,ptr b2,ptr b3]
 r1:af W b1 #[x] T
 r2:af W b2 #[ptr gb] 29
 r3:af W b3 #[.i who] 3
 l:L b1/\L b2/\L b3
def uw (L:Nat->Prop) (b1 b2 b3 b:Nat):Prop:=L b/\b≠b1/\b≠b2/\b≠b3
theorem uw.mono {L L':Nat->Prop} {b1 b2 b3 b:Nat} (h:uw L b1 b2 b3 b) (hL:∀ b,L b->L' b):uw L' b1 b2 b3 b:=⟨hL b h.1,h.2⟩
def fZ (W:World) (gb mb wb:Nat) (L:Nat->Prop) (who:Nat) (ws:List Int) (tc:Int) (c:Cf):Az->Value->Prop
 | .get t,v=>∃ b1 b2 b3 tb lo ro,qa W gb who L 120 v (ptr tb) 128 b1 b2 b3/\bz W tb mb wb lo ro t ws tc/\(∀ b,jo tb lo ro b->uw L b1 b2 b3 b)
 | .give g,v=>∃ b1 b2 b3 tb ro,qa W gb who L 153 v (ptr tb) 150 b1 b2 b3/\iU W tb mb wb ro g ws tc/\(∀ b,jo tb none ro b->uw L b1 b2 b3 b)
 | .stream x,v=>∃ b1 b2 b3 tb c1 c2 bv,qa W gb who L 156 v (ptr tb) 153 b1 b2 b3/\eD W tb c1 c2 mb wb bv x ws tc/\(∀ b,xQ tb c1 c2 b->uw L b1 b2 b3 b)
 | .close f q,v=>∃ b1 b2 b3 b4,v=.func (.func 170) #[] #[ptr b1,ptr b2,ptr b3,ptr b4]/\af W b2 #[ptr gb] 29/\af W b3 #[.i who] 3/\af W b4 #[.bool f] 4/\(L b1/\L b2/\L b3/\L b4)/\(b1≠b2/\b1≠b3/\b1≠b4)/\
   match q with
   | none=>af W b1 #[.pointer none] 89
   | some x=>∃ tb,af W b1 #[ptr tb] 89/\iX W tb mb wb x ws tc/\L tb/\(tb≠b1/\tb≠b2/\tb≠b3/\tb≠b4)
 | .stats t,v=>∃ b1 b2 b3 tb vr vl,qa W gb who L 173 v (ptr tb) 88 b1 b2 b3/\dD W tb mb wb vr vl t ws tc/\(∀ b,qD tb vr vl b->uw L b1 b2 b3 b)
 | .bO r,v=>∃ b1 b2 b3 ab fb ro,qa W gb who L 162 v (ptr ab) 193 b1 b2 b3/\gm W ab mb wb fb ro c r ws tc/\(∀ b,jo ab (some fb) ro b->uw L b1 b2 b3 b)
structure bF (W:World) (gb mb wb:Nat) (L:Nat->Prop) (who:Nat) (ws:List Int) (tc:Int) (c:Cf) (k:Wk) (v:KV):Prop where
 bq:k.st=2->∃ j,k.bq=some j/\fZ W gb mb wb L who ws tc c j v.work
 two:k.st=3->∃ t tb vr vl,k.two=some t/\v.two=ptr tb/\dD W tb mb wb vr vl t ws tc/\∀ b,qD tb vr vl b->L b
 queue:k.st=4\/k.st=8->∃ q tb,k.queue=some q/\v.queue=ptr tb/\iX W tb mb wb q ws tc/\L tb
 tidy:k.st=5->∃ t tb lo ro,k.tidy=some t/\v.tidy=ptr tb/\bu W tb mb wb lo ro t ws tc/\∀ b,jo tb lo ro b->L b
section
variable {W W':World} {gb mb wb who:Nat} {L L' G:Nat->Prop} {ws aC:List Int} {tc eX:Int} {c:Cf}
theorem gm.aK {ab fb:Nat} {ro:Option Nat} {r:Rp} (h:gm W ab mb wb fb ro c r ws tc) (hc:aD G W W') (h0:¬ G 0) (hF:∀ k,jo ab (some fb) ro k->¬ G k) (hm:bB W' mb wb aC eX):gm W' ab mb wb fb ro c r aC eX:=by
 have hs:=hc.size;refine⟨af.aK h.row hc (hF _ (.inl rfl)),h.look.aK hc (hF _ (.inr (.inl rfl))),?_,h.fa,?_,hm,h.ap,h.laid.stable (hc.block 0 (h.laid.lt aT) h0)⟩
 ·intro x hx;obtain⟨b,h1,h2⟩:=h.ret x hx;exact⟨b,h1,h2.aK hc (hF _ (.inr (.inr h1)))⟩
 ·intro b hb;obtain⟨h1,h2,h3,h4⟩:=h.ra b hb;exact⟨h1,h2,h3,ag⟩
theorem iX.aK {tb:Nat} {q:Qu} (h:iX W tb mb wb q ws tc) (hc:aD G W W') (hF:¬ G tb) (hm:bB W' mb wb aC eX):iX W' tb mb wb q aC eX:=⟨(hc.block _ h.lt hF).trans h.row,hm,h.ap⟩
theorem qa.aK {F:Nat} {v x:Value} {T:TypeId} {b1 b2 b3:Nat} (h:qa W gb who L F v x T b1 b2 b3) (hc:aD G W W') (hF:∀ b,L b->¬ G b) (hL:∀ b,L b->L' b):qa W' gb who L' F v x T b1 b2 b3:=
 ⟨h.v,af.aK h.r1 hc (hF _ h.l.1),af.aK h.r2 hc (hF _ h.l.2.1),af.aK h.r3 hc (hF _ h.l.2.2),hL _ h.l.1,hL _ h.l.2.1,hL _ h.l.2.2⟩
theorem fZ.aK {j:Az} {v:Value} (h:fZ W gb mb wb L who ws tc c j v) (hc:aD G W W') (h0:¬ G 0) (hF:∀ b,L b->¬ G b) (hm:bB W' mb wb aC eX) (hL:∀ b,L b->L' b):fZ W' gb mb wb L' who aC eX c j v:=by
 cases j with
 | get t=>
  obtain⟨b1,b2,b3,tb,lo,ro,h1,h2,h3⟩:=h;exact⟨b1,b2,b3,tb,lo,ro,h1.aK hc hF hL,h2.aK hc h0 (fun k hk=>hF k (h3 k hk).1) hm,fun b hb=>(h3 b hb).mono hL⟩
 | give g=>
  obtain⟨b1,b2,b3,tb,ro,h1,h2,h3⟩:=h;exact⟨b1,b2,b3,tb,ro,h1.aK hc hF hL,h2.aK hc h0 (fun k hk=>hF k (h3 k hk).1) hm,fun b hb=>(h3 b hb).mono hL⟩
 | stream x=>
  obtain⟨b1,b2,b3,tb,c1,c2,bv,h1,h2,h3⟩:=h;exact⟨b1,b2,b3,tb,c1,c2,bv,h1.aK hc hF hL,h2.aK hc h0 (fun k hk=>hF k (h3 k hk).1) hm,fun b hb=>(h3 b hb).mono hL⟩
 | close f q=>
  obtain⟨b1,b2,b3,b4,h1,h2,h3,h4,⟨l1,l2,l3,l4⟩,hne,h5⟩:=h;refine⟨b1,b2,b3,b4,h1,af.aK h2 hc (hF _ l2),af.aK h3 hc (hF _ l3),af.aK h4 hc (hF _ l4),⟨hL _ l1,hL _ l2,hL _ l3,hL _ l4⟩,hne,?_⟩
  cases q with
  | none=>exact af.aK h5 hc (hF _ l1)
  | some x=>
   obtain⟨tb,h6,h7,h8,h9⟩:=h5;exact⟨tb,af.aK h6 hc (hF _ l1),h7.aK hc (hF _ h8) hm,hL _ h8,h9⟩
 | stats t=>
  obtain⟨b1,b2,b3,tb,vr,vl,h1,h2,h3⟩:=h;exact⟨b1,b2,b3,tb,vr,vl,h1.aK hc hF hL,h2.aK hc h0 (fun k hk=>hF k (h3 k hk).1) hm,fun b hb=>(h3 b hb).mono hL⟩
 | bO r=>
  obtain⟨b1,b2,b3,ab,fb,ro,h1,h2,h3⟩:=h;exact⟨b1,b2,b3,ab,fb,ro,h1.aK hc hF hL,h2.aK hc h0 (fun k hk=>hF k (h3 k hk).1) hm,fun b hb=>(h3 b hb).mono hL⟩
theorem bF.aK {k:Wk} {v:KV} (h:bF W gb mb wb L who ws tc c k v) (hc:aD G W W') (h0:¬ G 0) (hF:∀ b,L b->¬ G b) (hm:bB W' mb wb aC eX) (hL:∀ b,L b->L' b):bF W' gb mb wb L' who aC eX c k v:=by
 refine⟨fun e=>?_,fun e=>?_,fun e=>?_,fun e=>?_⟩
 ·obtain⟨j,h1,h2⟩:=h.bq e;exact⟨j,h1,h2.aK hc h0 hF hm hL⟩
 ·obtain⟨t,tb,vr,vl,h1,h2,h3,h4⟩:=h.two e;exact⟨t,tb,vr,vl,h1,h2,h3.aK hc h0 (fun k hk=>hF k (h4 k hk)) hm,fun b hb=>hL b (h4 b hb)⟩
 ·obtain⟨q,tb,h1,h2,h3,h4⟩:=h.queue e;exact⟨q,tb,h1,h2,h3.aK hc (hF _ h4) hm,hL _ h4⟩
 ·obtain⟨t,tb,lo,ro,h1,h2,h3,h4⟩:=h.tidy e;exact⟨t,tb,lo,ro,h1,h2,h3.aK hc h0 (fun k hk=>hF k (h4 k hk)) hm,fun b hb=>hL b (h4 b hb)⟩
end
structure Core (W:World) (p:Mp) (m:Mc):Prop where
 row:af W p.gb (wI p m.cf m.ks.length m.entries m.at') 79
 mem:bB W p.mb p.wb m.sh.ws m.sh.tc
 JH:af W p.cb #[.i m.sh.now] 96
 Fz:aO.nV W p.ob p.rb p.wv m.sh.ahead m.sh.good m.sh.bad
 evs:bR W p.ev m.evs.length 18 (gL m.evs)
 ks:pI W p.kb m.ks p.vs
 k0:0 < m.ks.length
 laid:Slot.Laid W
 tab:TabAt W
 l0:p.ow 0=0/\p.ow 2=0
 lg:p.ow p.gb=1
 lm:p.ow p.mb=2
 lw:p.ow p.wb=3
 lc:p.ow p.cb=4
 lo:∀ b,aO.AA p.ob p.rb p.wv b->p.ow b=5
 le:∀ b,Fp p.ev b->p.ow b=6
 lk:p.ow p.kb=7
structure aZ (W:World) (p:Mp) (m:Mc):Prop where
 core:Core W p m
 act:∀ (i:Nat) (k:Wk),m.ks[i]? =some k->bF W p.gb p.mb p.wb (In W p.ow (8+i)) i m.sh.ws m.sh.tc m.cf k (p.vs i)
structure Same (p0 p:Mp):Prop where
 gb:p.gb=p0.gb
 mb:p.mb=p0.mb
 wb:p.wb=p0.wb
 cb:p.cb=p0.cb
 ob:p.ob=p0.ob
 rb:p.rb=p0.rb
 kb:p.kb=p0.kb
theorem Same.refl (p:Mp):Same p p:=⟨rfl,rfl,rfl,rfl,rfl,rfl,rfl⟩
theorem Same.trans {p q r:Mp} (h:Same p q) (h2:Same q r):Same p r:=⟨h2.gb.trans h.gb,h2.mb.trans h.mb,h2.wb.trans h.wb,h2.cb.trans h.cb,h2.ob.trans h.ob,h2.rb.trans h.rb,h2.kb.trans h.kb⟩
structure Kept (W0:World) (p0:Mp) (W:World) (p:Mp):Prop where
 same:Same p0 p
 old:∀ b,b < W0.heap.size->p.ow b=p0.ow b
 aK:aD (fun b=>p0.ow b≠0) W0 W
theorem Kept.refl (W:World) (p:Mp):Kept W p W p:=⟨Same.refl p,fun _ _=>rfl,aD.refl _ _⟩
theorem Kept.trans {W0 W W2:World} {p0 p p2:Mp} (h:Kept W0 p0 W p) (h2:Kept W p W2 p2):Kept W0 p0 W2 p2:=
 ⟨h.same.trans h2.same,fun b hb=>(h2.old b (Nat.lt_of_lt_of_le hb h.aK.size)).trans (h.old b hb),h.aK.trans h2.aK (fun b hb e=>by rw[<- h.old b hb];exact e)⟩
theorem Kept.WK {W0 W W2:World} {p0 p:Mp} {G:Nat->Prop} (h:Kept W0 p0 W p) (hc:aD G W W2) (hG:∀ b,b < W.heap.size->G b->p.ow b≠0):Kept W0 p0 W2 p:=
 h.trans ⟨Same.refl p,fun _ _=>rfl,hc.mono hG⟩
theorem Kept.relabel {W0 W:World} {p0 p:Mp} (h:Kept W0 p0 W p) (q:Mp) (hs:Same p q) (ho:∀ b,b < W.heap.size->q.ow b=p.ow b):Kept W0 p0 W q:=
 h.trans ⟨hs,ho,aD.refl _ _⟩
def iI (W0:World) (p0:Mp) (v:Value) (m':Mc) (e:Ending) (W':World):Prop:=e=.returned v/\∃ p',aZ W' p' m'/\Kept W0 p0 W' p'
def Mc.mid (m:Mc) (who:Nat) (k:Wk) (s:Sh):Mc:={m with ks:=m.ks.set who k,sh:=s}
def Mp.mid (p:Mp) (who:Nat) (v:KV):Mp:={p with vs:=upd p.vs who v}
structure Mx (W0:World) (p0:Mp) (W:World) (p:Mp) (m:Mc) (who:Nat) (k:Wk) (v:KV) (s:Sh):Prop where
 core:Core W (p.mid who v) (m.mid who k s)
 jobs:∀ (i:Nat) (k':Wk),i≠who->m.ks[i]? =some k'->bF W p.gb p.mb p.wb (In W p.ow (8+i)) i s.ws s.tc m.cf k' (p.vs i)
 hw:who < m.ks.length
 fresh:∀ b,W.heap.size<=b->p.ow b=8+who
 kept:Kept W0 p0 W p
theorem In.mono {W W':World} {ow:Nat->Nat} {l b:Nat} (h:In W ow l b) (hs:W.heap.size<=W'.heap.size):In W' ow l b:=⟨Nat.lt_of_lt_of_le h.1 hs,h.2⟩
section
variable {W0 W W':World} {p0 p:Mp} {m:Mc} {who:Nat} {k k':Wk} {v v':KV} {s s':Sh}
theorem Mx.mem (h:Mx W0 p0 W p m who k v s):bB W p.mb p.wb s.ws s.tc:=h.core.mem
theorem Mx.laid (h:Mx W0 p0 W p m who k v s):Slot.Laid W:=h.core.laid
theorem Mx.tab (h:Mx W0 p0 W p m who k v s):TabAt W:=h.core.tab
theorem Mx.az (h:Mx W0 p0 W p m who k v s) (j:Nat):W.cell? ⟨p.gb,j,none⟩=(wI p m.cf m.ks.length m.entries m.at')[j]?:=by
 have:=af.cell h.core.row j;rw[show(m.mid who k s).ks.length=m.ks.length from List.length_set]at this;exact this
theorem Mx.QM (h:Mx W0 p0 W p m who k v s) (j:Nat):W.frozen? ⟨p.gb,j,none⟩=false:=af.frozen h.core.row j
theorem Mx.aL (h:Mx W0 p0 W p m who k v s) (j:Nat) {u:Value} (hu:(dx k v)[j]? =some u):W.cell? ⟨p.kb,who * 35+j,none⟩=some u:=
 h.core.ks.cell who k (by show(m.ks.set who k)[who]? =_;rw[List.getElem?_set_self h.hw]) j u (by show(dx k (upd p.vs who v who))[j]? =_;rw[upd_same];exact hu)
theorem Mx.dZ (h:Mx W0 p0 W p m who k v s) (j:Nat) (hj:j < 35):W.frozen? ⟨p.kb,who * 35+j,none⟩=false:=h.core.ks.free who j (by show who < (m.ks.set who k).length;rw[List.length_set];exact h.hw) hj
theorem Core.qp {m:Mc} (h:Core W p m):p.gb < W.heap.size:=af.lt h.row
theorem Core.uU {m:Mc} (h:Core W p m):p.kb < W.heap.size:=h.ks.lt h.k0
theorem Core.Ot {m:Mc} (h:Core W p m):p.cb < W.heap.size:=af.lt h.JH
theorem Core.obj {m:Mc} (h:Core W p m) {G:Nat->Prop} (hc:aD G W W') (hG:∀ b,b < W.heap.size->G b->8<=p.ow b\/dJ p.mb p.wb b) {ws:List Int} {tc:Nat} (hm:bB W' p.mb p.wb ws tc):
  Core W' p {m with sh:={m.sh with ws:=ws,tc:=tc}}:=by
 have hn:∀ b,b < W.heap.size->p.ow b < 8->p.ow b≠2->p.ow b≠3->¬ G b:=by
  intro b hb h8 h2 h3 e
  rcases hG b hb e with e | e | e
  ·omega
  ·exact h2 (by rw[e];exact h.lm)
  ·exact h3 (by rw[e];exact h.lw)
 have l0:0 < W.heap.size:=h.laid.lt aT;have l2:2 < W.heap.size:=dN (h.tab 0 aT)
 refine⟨af.aK h.row hc (hn _ h.qp (by rw[h.lg];decide) (by rw[h.lg];decide) (by rw[h.lg];decide)),hm,af.aK h.JH hc (hn _ h.Ot (by rw[h.lc];decide) (by rw[h.lc];decide) (by rw[h.lc];decide)),
  h.Fz.stable hc.size (fun b hb=>hc.block b (h.Fz.lt hb) (hn _ (h.Fz.lt hb) (by rw[h.lo b hb];decide) (by rw[h.lo b hb];decide) (by rw[h.lo b hb];decide))),
  h.evs.aK hc (fun b hb=>hn _ (h.evs.lt hb) (by rw[h.le b hb];decide) (by rw[h.le b hb];decide) (by rw[h.le b hb];decide)),
  h.ks.stable (hc.block _ h.uU (hn _ h.uU (by rw[h.lk];decide) (by rw[h.lk];decide) (by rw[h.lk];decide))),h.k0,
  h.laid.stable (hc.block 0 l0 (hn _ l0 (by rw[h.l0.1];decide) (by rw[h.l0.1];decide) (by rw[h.l0.1];decide))),
  h.tab.stable (hc.block 2 l2 (hn _ l2 (by rw[h.l0.2];decide) (by rw[h.l0.2];decide) (by rw[h.l0.2];decide))),h.l0,h.lg,h.lm,h.lw,h.lc,h.lo,h.le,h.lk⟩
theorem Core.relabel {m:Mc} (h:Core W p m) (q:Mp) (hs:Same p q) (hw:q.wv=p.wv) (he:q.ev=p.ev) (hv:q.vs=p.vs) (ho:∀ b,b < W.heap.size->q.ow b=p.ow b):Core W q m:=by
 obtain⟨gb,mb,wb,cb,ob,rb,kb,wv,ev,vs,ow⟩:=q;obtain⟨h1,h2,h3,h4,h5,h6,h7⟩:=hs;dsimp only at *;subst h1 h2 h3 h4 h5 h6 h7 hw he hv;have l0:0 < W.heap.size:=h.laid.lt aT;have l2:2 < W.heap.size:=dN (h.tab 0 aT)
 exact⟨h.row,h.mem,h.JH,h.Fz,h.evs,h.ks,h.k0,h.laid,h.tab,⟨(ho _ l0).trans h.l0.1,(ho _ l2).trans h.l0.2⟩,(ho _ h.qp).trans h.lg,(ho _ h.mem.lt.1).trans h.lm,(ho _ h.mem.lt.2).trans h.lw,(ho _ h.Ot).trans h.lc,
  fun b hb=>(ho _ (h.Fz.lt hb)).trans (h.lo b hb),fun b hb=>(ho _ (h.evs.lt hb)).trans (h.le b hb),(ho _ h.uU).trans h.lk⟩
theorem bF.names {gb mb wb i:Nat} {L L':Nat->Prop} {ws:List Int} {tc:Int} {c:Cf} (h:bF W gb mb wb L i ws tc c k v) (hm:bB W mb wb ws tc) (hL:∀ b,L b->L' b):bF W gb mb wb L' i ws tc c k v:=
 h.aK (G:=fun _=>False) (aD.refl _ _) (fun e=>e) (fun _ _ e=>e) hm hL
theorem Mx.obj (h:Mx W0 p0 W p m who k v s) {G:Nat->Prop} (hc:aD G W W') (hG:∀ b,b < W.heap.size->G b->p.ow b=8+who\/dJ p.mb p.wb b) {ws:List Int} {tc:Nat} (hm:bB W' p.mb p.wb ws tc):
  Mx W0 p0 W' p m who k v {s with ws:=ws,tc:=tc}:=by
 have hs:=hc.size
 have hcf:∀ b,dJ p.mb p.wb b->p.ow b=2\/p.ow b=3:=by
  rintro b (rfl | rfl)
  ·exact .inl h.core.lm
  ·exact .inr h.core.lw
 refine⟨h.core.obj hc (fun b hb e=>(hG b hb e).imp (fun e=>by show 8<=p.ow b;omega) id) hm,fun i k' hi hk=>?_,h.hw,fun b hb=>h.fresh b ag,h.kept.WK hc (fun b hb e=>?_)⟩
 ·refine bF.aK (G:=fun b=>b < W.heap.size/\G b) (h.jobs i k' hi hk) ⟨hc.os,hc.tape,hc.output,hc.size,fun b hb e=>hc.block b hb (fun g=>e ⟨hb,g⟩)⟩ ?_ ?_ hm (fun b hb=>hb.mono hs)
  ·rintro⟨hb,e⟩;have l0:p.ow 0=0:=h.core.l0.1
   rcases hG 0 hb e with e | e
   ·omega
   ·have:=hcf 0 e;omega
  ·rintro b ⟨hb,hl⟩ ⟨_,e⟩
   rcases hG b hb e with e | e
   ·omega
   ·have:=hcf b e;omega
 ·rcases hG b hb e with e | e
  ·omega
  ·have:=hcf b e;omega
theorem Mx.below (h:Mx W0 p0 W p m who k v s) (hb:Below W.heap.size W W'):Mx W0 p0 W' p m who k v s:=
 h.obj (G:=fun _=>False) (aD.aF hb) (fun _ _ e=>e.elim) (h.mem.below hb)
theorem Core.Pj {ks:List Wk} {vs:Nat->KV} {m:Mc} (h:Core W p m) (hc:aD (fun b=>b=p.kb) W W') (hk:pI W' p.kb ks vs) (hn:ks.length=m.ks.length):Core W' {p with vs:=vs} {m with ks:=ks}:=by
 have hn':∀ b,p.ow b≠7->¬ b=p.kb:=fun b h7 e=>h7 (by rw[e];exact h.lk)
 have l0:0 < W.heap.size:=h.laid.lt aT;have l2:2 < W.heap.size:=dN (h.tab 0 aT);have n0:¬ (0:Nat)=p.kb:=hn' 0 (by rw[h.l0.1];decide);have n2:¬ (2:Nat)=p.kb:=hn' 2 (by rw[h.l0.2];decide)
 refine⟨?_,h.mem.stable (hc.block _ h.mem.lt.1 (hn' _ (by rw[h.lm];decide))) (hc.block _ h.mem.lt.2 (hn' _ (by rw[h.lw];decide))),af.aK h.JH hc (hn' _ (by rw[h.lc];decide)),
  h.Fz.aK hc (fun b hb=>hn' _ (by rw[h.lo b hb];decide)),h.evs.aK hc (fun b hb=>hn' _ (by rw[h.le b hb];decide)),hk,by show 0 < ks.length;rw[hn];exact h.k0,
  h.laid.stable (hc.block 0 l0 n0),h.tab.stable (hc.block 2 l2 n2),h.l0,h.lg,h.lm,h.lw,h.lc,h.lo,h.le,h.lk⟩
 show af W' p.gb (wI _ m.cf ks.length m.entries m.at') _
 rw[hn];exact af.aK h.row hc (hn' _ (by rw[h.lg];decide))
theorem Mx.Pj (h:Mx W0 p0 W p m who k v s) (hc:aD (fun b=>b=p.kb) W W') (hk:pI W' p.kb (m.ks.set who k') (upd p.vs who v')):Mx W0 p0 W' p m who k' v' s:=by
 have hs:=hc.size;have WL:p.ow p.kb=7:=h.core.lk;refine⟨?_,fun i q hi hq=>?_,h.hw,fun b hb=>h.fresh b ag,h.kept.WK hc (fun b hb e=>by rw[e,WL];decide)⟩
 ·exact h.core.Pj hc hk (by show _=(m.ks.set who k).length;simp)
 ·refine bF.aK (h.jobs i q hi hq) hc ?_ ?_ ?_ (fun b hb=>hb.mono hs)
  ·intro e;have:=h.core.l0.1;have hl:p.ow 0=0:=this;have e2:p.kb=0:=e.symm;rw[e2]at WL;omega
  ·rintro b ⟨hb,hl⟩ e;rw[e,WL]at hl;omega
  ·have hm:=h.mem;have h2:p.ow p.mb=2:=h.core.lm;have h3:p.ow p.wb=3:=h.core.lw;exact hm.stable (hc.block _ hm.lt.1 (fun e=>by rw[e,WL]at h2;cases h2)) (hc.block _ hm.lt.2 (fun e=>by rw[e,WL]at h3;cases h3))
theorem Mx.put (h:Mx W0 p0 W p m who k v s) (j:Nat) (hj:j < 35) (u:Value) (hrow:(dx k v).setIfInBounds j u=dx k' v'):Mx W0 p0 (W.setCell ⟨p.kb,who * 35+j,none⟩ u) p m who k' v' s:=
 h.Pj ((aD.refl _ _).setCell _ _ (fun _=>rfl)) (pI.put h.core.ks h.hw j hj u hrow)
theorem ek (b o:Nat) (l:List Value):∀ {W:World} {o:Nat},aD (fun k=>k=b) W (W.setCells b o l):=by
 induction l with
 | nil=>intro W o;exact aD.refl _ _
 | cons x l ih=>
  intro W o;rw[World.setCells];exact((aD.refl (fun k=>k=b) W).setCell ⟨b,o,none⟩ x (fun _=>rfl)).trans ih (fun _ _ e=>e)
theorem Mx.puts (h:Mx W0 p0 W p m who k v s) (o:Nat) (l:List Value) (ho:o+l.length<=35)
  (hrow:∀ j u,(dx k' v')[j]? =some u->(if o<=j/\j < o+l.length then l[j - o]? else (dx k v)[j]?)=some u):Mx W0 p0 (W.setCells p.kb (who * 35+o) l) p m who k' v' s:=
 h.Pj (ek p.kb (who * 35+o) l) (pI.setMany h.core.ks h.hw o l ho hrow)
theorem rD {m:Mc} (hk:m.ks[who]? =some k):m.mid who k m.sh=m:=by
 have hl:who < m.ks.length:=(List.getElem?_eq_some_iff.1 hk).1
 have e:m.ks.set who k=m.ks:=by
  have:=(List.getElem?_eq_some_iff.1 hk).2;rw[<- this];exact List.set_getElem_self hl
 unfold Mc.mid;rw[e]
def Mp.next (p:Mp) (W:World) (who:Nat):Mp:={p with ow:=fun b=>if b < W.heap.size then p.ow b else 8+who}
theorem Mx.begin (h:aZ W p m) (hk:m.ks[who]? =some k):Mx W p W (p.next W who) m who k (p.vs who) m.sh/\bF W p.gb p.mb p.wb (In W (p.next W who).ow (8+who)) who m.sh.ws m.sh.tc m.cf k (p.vs who):=by
 have ho:∀ b,b < W.heap.size->(p.next W who).ow b=p.ow b:=fun b hb=>if_pos hb
 have hL:∀ i b,In W p.ow (8+i) b->In W (p.next W who).ow (8+i) b:=fun i b hb=>⟨hb.1,(ho b hb.1).trans hb.2⟩
 refine⟨⟨?_,fun i k' hi hq=>(h.act i k' hq).names h.core.mem (hL i),(List.getElem?_eq_some_iff.1 hk).1,fun b hb=>if_neg ag,(Kept.refl W p).relabel _ ⟨rfl,rfl,rfl,rfl,rfl,rfl,rfl⟩ ho⟩,(h.act who k hk).names h.core.mem (hL who)⟩;rw[rD hk];exact h.core.relabel _ ⟨rfl,rfl,rfl,rfl,rfl,rfl,rfl⟩ rfl rfl (by show upd p.vs who (p.vs who)=p.vs;exact TL _ _) ho
theorem Mx.fin (h:Mx W0 p0 W p m who k v s) (ha:bF W p.gb p.mb p.wb (In W p.ow (8+who)) who s.ws s.tc m.cf k v):∃ p',aZ W p' (m.mid who k s)/\Kept W0 p0 W p':=by
 refine⟨p.mid who v,⟨h.core,fun i q hq=>?_⟩,h.kept.relabel _ ⟨rfl,rfl,rfl,rfl,rfl,rfl,rfl⟩ (fun _ _=>rfl)⟩
 by_cases hi:i=who
 ·subst hi;have hq':(m.ks.set i k)[i]? =some q:=hq;rw[List.getElem?_set_self h.hw]at hq';cases hq'
  show bF W p.gb p.mb p.wb (In W p.ow (8+i)) i s.ws s.tc m.cf k (upd p.vs i v i)
  rw[upd_same];exact ha
 ·have hq':(m.ks.set who k)[i]? =some q:=hq;rw[List.getElem?_set_ne (fun e=>hi e.symm)]at hq'
  show bF W p.gb p.mb p.wb (In W p.ow (8+i)) i s.ws s.tc m.cf q (upd p.vs who v i)
  rw[upd_ne hi];exact h.jobs i q hi hq'
theorem Mx.apart (h:Mx W0 p0 W p m who k v s) {b:Nat} (hb:p.ow b=8+who):Apart b p.mb p.wb:=by
 have h2:p.ow p.mb=2:=h.core.lm;have h3:p.ow p.wb=3:=h.core.lw;have h0:p.ow 0=0:=h.core.l0.1;refine⟨fun e=>?_,fun e=>?_,fun e=>?_,fun e=>?_,fun e=>?_⟩
 ·rw[e,h2]at hb;omega
 ·rw[e,h3]at hb;omega
 ·rw[<- e,h0]at hb;omega
 ·rw[<- e,h0]at h2;omega
 ·rw[<- e,h0]at h3;omega
theorem Mx.same (h:Mx W0 p0 W p m who k v s) (hrow:dx k' v'=dx k v):Mx W0 p0 W p m who k' v' s:=
 h.puts 0 [] au (fun j u hu=>by rw[if_neg au];rw[<- hrow];exact hu)
theorem Mx.nu (h:Mx W0 p0 W p m who k v s) {F:Nat} {u x:Value} {T:TypeId} {b1 b2 b3:Nat} (hl:qa W p.gb who (In W p.ow (8+who)) F u x T b1 b2 b3) {fp:Nat->Prop} (hd:∀ b,fp b->uw (In W p.ow (8+who)) b1 b2 b3 b)
  (hc:aD (fun b=>fp b\/dJ p.mb p.wb b) W W'):qa W' p.gb who (In W' p.ow (8+who)) F u x T b1 b2 b3:=by
 have hcf:∀ b,dJ p.mb p.wb b->¬ In W p.ow (8+who) b:=by
  rintro b (rfl | rfl) ⟨_,e⟩
  ·rw[show p.ow p.mb=2 from h.core.lm]at e;omega
  ·rw[show p.ow p.wb=3 from h.core.lw]at e;omega
 have hs:=hc.size;refine⟨hl.v,af.aK hl.r1 hc ?_,af.aK hl.r2 hc ?_,af.aK hl.r3 hc ?_,hl.l.1.mono hs,hl.l.2.1.mono hs,hl.l.2.2.mono hs⟩
 ·rintro(e | e)
  ·exact(hd _ e).2.1 rfl
  ·exact hcf _ e hl.l.1
 ·rintro(e | e)
  ·exact(hd _ e).2.2.1 rfl
  ·exact hcf _ e hl.l.2.1
 ·rintro(e | e)
  ·exact(hd _ e).2.2.2 rfl
  ·exact hcf _ e hl.l.2.2
theorem Mx.mG (h:Mx W0 p0 W p m who k v s) {fp:Nat->Prop} (hd:∀ b,fp b->In W p.ow (8+who) b) (hc:aD (fun b=>fp b\/dJ p.mb p.wb b) W W') {ws:List Int} {tc:Nat} (hm:bB W' p.mb p.wb ws tc):
  Mx W0 p0 W' p m who k v {s with ws:=ws,tc:=tc}:=h.obj hc (fun b _ e=>e.imp (fun e=>(hd b e).2) id) hm
theorem Mx.qj (h:Mx W0 p0 W p m who k v s) {F:Nat} {u x:Value} {T:TypeId} {b1 b2 b3:Nat} (hl:qa W p.gb who (In W p.ow (8+who)) F u x T b1 b2 b3) {fp fp':Nat->Prop} (hd:∀ b,fp b->uw (In W p.ow (8+who)) b1 b2 b3 b)
  (hs:W.heap.size<=W'.heap.size) (hn:∀ b,fp' b->fp b\/W.heap.size<=b) (hlt:∀ b,fp' b->b < W'.heap.size):∀ b,fp' b->uw (In W' p.ow (8+who)) b1 b2 b3 b:=by
 intro b hb
 rcases hn b hb with e | e
 ·exact(hd b e).mono (fun b hb=>hb.mono hs)
 ·have l1:=hl.l.1.1;have l2:=hl.l.2.1.1;have l3:=hl.l.2.2.1;exact⟨⟨hlt b hb,h.fresh b e⟩,ag,ag,ag⟩
theorem Mx.zK (h:Mx W0 p0 W p m who k v s) {fp fp':Nat->Prop} (hd:∀ b,fp b->In W p.ow (8+who) b)
  (hs:W.heap.size<=W'.heap.size) (hn:∀ b,fp' b->fp b\/W.heap.size<=b) (hlt:∀ b,fp' b->b < W'.heap.size):∀ b,fp' b->In W' p.ow (8+who) b:=by
 intro b hb
 rcases hn b hb with e | e
 ·exact(hd b e).mono hs
 ·exact⟨hlt b hb,h.fresh b e⟩
end
section
variable {W0 W W':World} {p0 p:Mp} {m:Mc} {who:Nat} {k k':Wk} {v v':KV} {s s':Sh}
theorem bF.Oe (h:Mx W0 p0 W p m who k v s) {tb:Nat} {t:Ty.Ty} (hr:SA W tb t none none) (ht:t.look=none/\t.rt=none) (hl:p.ow tb=8+who) {k2:Wk} {v2:KV} (hk:k2.st=5) (hkt:k2.tidy=some t) (hv:v2.tidy=ptr tb):
  bF W p.gb p.mb p.wb (In W p.ow (8+who)) who s.ws s.tc m.cf k2 v2:=by
 have hlt:tb < W.heap.size:=af.lt hr;refine⟨fun e=>ag,fun e=>ag,fun e=>ag,fun _=>⟨t,tb,none,none,hkt,hv,?_,?_⟩⟩
 ·refine⟨hr,?_,?_,fun _ e=>(by cases e),fun _ e=>(by cases e),fun _ _ e=>(by cases e),h.mem,h.apart hl,h.laid⟩
  ·intro f hf;rw[ht.1]at hf;cases hf
  ·intro f hf;rw[ht.2]at hf;cases hf
 ·rintro b (rfl | e | e)
  ·exact⟨hlt,hl⟩
  ·cases e
  ·cases e
theorem bF.KL (h:Mx W0 p0 W p m who k v s) {tb:Nat} {q:Qu} (hr:SB W tb q) (hl:p.ow tb=8+who) {k2:Wk} {v2:KV} (hk:k2.st=4\/k2.st=8) (hkt:k2.queue=some q) (hv:v2.queue=ptr tb):
  bF W p.gb p.mb p.wb (In W p.ow (8+who)) who s.ws s.tc m.cf k2 v2:=
 ⟨fun e=>ag,fun e=>ag,fun _=>⟨q,tb,hkt,hv,⟨hr,h.mem,h.apart hl⟩,af.lt hr,hl⟩,fun e=>ag⟩
theorem bF.SC (h:Mx W0 p0 W p m who k v s) {tb:Nat} {t:Tw} (hr:KM W tb t (.slice none 0 0) (.slice none 0 0)) (ht:t.round=[]/\t.last=[]) (hl:p.ow tb=8+who) {k2:Wk} {v2:KV} (hk:k2.st=3) (hkt:k2.two=some t) (hv:v2.two=ptr tb):
  bF W p.gb p.mb p.wb (In W p.ow (8+who)) who s.ws s.tc m.cf k2 v2:=by
 refine⟨fun e=>ag,fun _=>⟨t,tb,.slice none 0 0,.slice none 0 0,hkt,hv,⟨hr,?_,.inl ⟨rfl,ht.2⟩,h.mem,h.apart hl,fun b e=>(dP b e).elim,fun b e=>(dP b e).elim,h.laid⟩,?_⟩,fun e=>ag,fun e=>ag⟩
 ·rw[ht.1];exact fG W 1
 ·rintro b (rfl | e | e)
  ·exact⟨af.lt hr,hl⟩
  ·exact(dP b e).elim
  ·exact(dP b e).elim
end
variable {who:Nat}
theorem idx {n:Nat} (h:who < n):(0:Int)<=(who:Int)/\(who:Int) < (n:Int)/\(who:Int)<=(n:Int) - 1:=ag
def bV (W0:World) (p0:Mp) (m:Mc) (who:Nat) (k:Wk) (s:Sh) (e:Ending) (W':World):Prop:=
 e=.returned (.tuple #[])/\∃ p v,Mx W0 p0 W' p m who k v s/\bF W' p.gb p.mb p.wb (In W' p.ow (8+who)) who s.ws s.tc m.cf k v
def EPost (W0:World) (p0:Mp) (W:World) (p:Mp) (m:Mc) (who:Nat) (k:Wk) (s:Sh) (e:Ending) (W':World):Prop:=
 e=.returned (.tuple #[])/\∃ v,Mx W0 p0 W' p m who k v s/\bF W' p.gb p.mb p.wb (In W' p.ow (8+who)) who s.ws s.tc m.cf k v/\aD (fun b=>b=p.kb) W W'
variable {W0 W:World} {p0 p:Mp} {m:Mc} {k:Wk} {v:KV} {s:Sh}
theorem Mx.QI {W':World} (h:Mx W0 p0 W p m who k v s) (hc:aD (fun b=>b=p.kb) W W') {F:Nat} {u x:Value} {T:TypeId} {b1 b2 b3:Nat} (hl:qa W p.gb who (In W p.ow (8+who)) F u x T b1 b2 b3):qa W' p.gb who (In W' p.ow (8+who)) F u x T b1 b2 b3:=
 hl.aK hc (fun b hb e=>by have h7:p.ow p.kb=7:=h.core.lk;rw[<- e,hb.2]at h7;omega) (fun b hb=>hb.mono hc.size)
theorem qc (h:Mx W0 p0 W p m who k v s) (dO:Bool):Calls prog 91 #[ptr p.gb,.i who,.bool dO] W (EPost W0 p0 W p m who (k.aR m.cf who dO) s):=by
 obtain⟨hx0,hx1,hx2⟩:=idx h.hw;have g0:W.cell? ⟨p.gb,0,none⟩=some (.i m.cf.workers):=h.az 0;have g1:W.cell? ⟨p.gb,1,none⟩=some (.i m.cf.slots):=h.az 1;have g2:W.cell? ⟨p.gb,2,none⟩=some (.i m.cf.streams):=h.az 2;have g3:W.cell? ⟨p.gb,3,none⟩=some (.i m.cf.waiters):=h.az 3;have g4:W.cell? ⟨p.gb,4,none⟩=some (.i m.cf.uses):=h.az 4;have g9:W.cell? ⟨p.gb,9,none⟩=some (.slice (some ⟨p.kb,0,none⟩) m.ks.length m.ks.length):=h.az 9;have hnew:=KN W m.cf who;simp only[Cf.val,Cf.cells]at hnew;have H:=uH h;clear h
 go_enter func91,ntmps91
 go_wp2_with fail;refine hnew.mono ?_;rintro e w1 ⟨tb,rfl,hr1,hge,hb1⟩;have SE:RowKit.Hid (aD (fun b=>b=p.kb) W w1):=uH (aD.aF hb1);have h1:=H.out.below hb1;have how:p.ow tb=8+who:=H.out.fresh tb hge;have hne:¬ tb=p.kb:=fun e=>by have:=h1.core.lk;rw[e]at how;have h7:p.ow p.kb=7:=this;omega
 have HOW:=uH how;have GV:=uH hne;clear hnew g0 g1 g2 g3 g4 g9 hb1 how hne hge;have hne:=GV.out;have VJ:w1.cell? ⟨p.kb,who * 35+14,none⟩=some (v.tidy):=h1.aL 14 rfl;have SF:w1.frozen? ⟨p.kb,who * 35+14,none⟩=false:=h1.dZ 14 aT;have h2:=h1.put 14 aT (ptr tb) (k':={k with tidy:=some (Ty.Ty.new m.cf who)}) (v':={v with tidy:=ptr tb}) rfl;have hr2:=af.aK hr1 ((aD.refl (fun b=>b=p.kb) _).setCell ⟨p.kb,who * 35+14,none⟩ (ptr tb) (fun _=>rfl)) (fun e=>hne e);clear hne;have H2:=uH h2;have HR2:=uH hr2;clear h1 hr1 h2 hr2;have VK:RowKit.Hid (aD (fun b=>b=p.kb) W (w1.setCell ⟨p.kb,who * 35+14,none⟩ (ptr tb))):=uH (SE.out.setCell _ _ (fun _=>rfl));go_upto_region 2 with(fail);generalize w1.setCell ⟨p.kb,who * 35+14,none⟩ (ptr tb)=w2 at *;have h2:=H2.out;have hr2:=HR2.out;clear VJ SF H2 HR2;have hne:=GV.out
 have VL:w2.cell? ⟨p.kb,who * 35+15,none⟩=some (.bool ({k with tidy:=some (Ty.Ty.new m.cf who)}:Wk).dO):=h2.aL 15 rfl;have SG:w2.frozen? ⟨p.kb,who * 35+15,none⟩=false:=h2.dZ 15 aT;have h3:=h2.put 15 aT (.bool dO) (k':={k with tidy:=some (Ty.Ty.new m.cf who),dO:=dO}) (v':={v with tidy:=ptr tb}) rfl;have hr3:=af.aK hr2 ((aD.refl (fun b=>b=p.kb) _).setCell ⟨p.kb,who * 35+15,none⟩ (.bool dO) (fun _=>rfl)) (fun e=>hne e);clear hne;have H3:=uH h3;have HR3:=uH hr3;clear h2 hr2 h3 hr3;have SH:RowKit.Hid (aD (fun b=>b=p.kb) W (w2.setCell ⟨p.kb,who * 35+15,none⟩ (.bool dO))):=uH (VK.out.setCell _ _ (fun _=>rfl));go_upto_region 3 with(fail);generalize w2.setCell ⟨p.kb,who * 35+15,none⟩ (.bool dO)=w3 at *;have h3:=H3.out;have hr3:=HR3.out;clear VL SG H3 HR3;have hne:=GV.out
 have aaR:w3.cell? ⟨p.kb,who * 35,none⟩=some (.i ({k with tidy:=some (Ty.Ty.new m.cf who),dO:=dO}:Wk).st):=h3.aL 0 rfl;have aag:w3.frozen? ⟨p.kb,who * 35,none⟩=false:=h3.dZ 0 aT;have h4:=h3.put 0 aT (.i 5) (k':=k.aR m.cf who dO) (v':={v with tidy:=ptr tb}) rfl;have hr4:=af.aK hr3 ((aD.refl (fun b=>b=p.kb) _).setCell ⟨p.kb,who * 35,none⟩ (.i 5) (fun _=>rfl)) (fun e=>hne e);clear hne;have H4:=uH h4;have HR4:=uH hr4;clear h3 hr3 h4 hr4;have HC4:RowKit.Hid (aD (fun b=>b=p.kb) W (w3.setCell ⟨p.kb,who * 35,none⟩ (.i 5))):=uH (SH.out.setCell _ _ (fun _=>rfl));go_wp2_with fail
 first | go_end0 | refine bP ?_
 exact⟨rfl,_,H4.out,bF.Oe H4.out HR4.out ⟨rfl,rfl⟩ HOW.out rfl rfl rfl,HC4.out⟩
theorem wF (h:Mx W0 p0 W p m who k v s):Calls prog 125 #[ptr p.gb,.i who] W (EPost W0 p0 W p m who ({k with queue:=some (Qu.enter m.cf who),st:=4}) s):=by
 obtain⟨hx0,hx1,hx2⟩:=idx h.hw;have g0:W.cell? ⟨p.gb,0,none⟩=some (.i m.cf.workers):=h.az 0;have g1:W.cell? ⟨p.gb,1,none⟩=some (.i m.cf.slots):=h.az 1;have g2:W.cell? ⟨p.gb,2,none⟩=some (.i m.cf.streams):=h.az 2;have g3:W.cell? ⟨p.gb,3,none⟩=some (.i m.cf.waiters):=h.az 3;have g4:W.cell? ⟨p.gb,4,none⟩=some (.i m.cf.uses):=h.az 4;have g9:W.cell? ⟨p.gb,9,none⟩=some (.slice (some ⟨p.kb,0,none⟩) m.ks.length m.ks.length):=h.az 9;have hnew:=DN W m.cf who;simp only[Cf.val,Cf.cells]at hnew;have H:=uH h;clear h
 go_enter func125,ntmps125
 go_wp2_with fail;refine hnew.mono ?_;rintro e w1 ⟨tb,rfl,hr1,hge,hb1⟩;have SE:RowKit.Hid (aD (fun b=>b=p.kb) W w1):=uH (aD.aF hb1);have h1:=H.out.below hb1;have how:p.ow tb=8+who:=H.out.fresh tb hge;have hne:¬ tb=p.kb:=fun e=>by have:=h1.core.lk;rw[e]at how;have h7:p.ow p.kb=7:=this;omega
 have HOW:=uH how;have GV:=uH hne;clear hnew g0 g1 g2 g3 g4 g9 hb1 how hne hge;have hne:=GV.out;have VM:w1.cell? ⟨p.kb,who * 35+13,none⟩=some (v.queue):=h1.aL 13 rfl;have SI:w1.frozen? ⟨p.kb,who * 35+13,none⟩=false:=h1.dZ 13 aT;have h2:=h1.put 13 aT (ptr tb) (k':={k with queue:=some (Qu.enter m.cf who)}) (v':={v with queue:=ptr tb}) rfl;have hr2:=af.aK hr1 ((aD.refl (fun b=>b=p.kb) _).setCell ⟨p.kb,who * 35+13,none⟩ (ptr tb) (fun _=>rfl)) (fun e=>hne e);clear hne;have H2:=uH h2;have HR2:=uH hr2;clear h1 hr1 h2 hr2;have VK:RowKit.Hid (aD (fun b=>b=p.kb) W (w1.setCell ⟨p.kb,who * 35+13,none⟩ (ptr tb))):=uH (SE.out.setCell _ _ (fun _=>rfl));go_upto_region 2 with(fail);generalize w1.setCell ⟨p.kb,who * 35+13,none⟩ (ptr tb)=w2 at *;have h2:=H2.out;have hr2:=HR2.out;clear VM SI H2 HR2;have hne:=GV.out
 have YU:w2.cell? ⟨p.kb,who * 35,none⟩=some (.i ({k with queue:=some (Qu.enter m.cf who)}:Wk).st):=h2.aL 0 rfl;have VN:w2.frozen? ⟨p.kb,who * 35,none⟩=false:=h2.dZ 0 aT;have h3:=h2.put 0 aT (.i 4) (k':={k with queue:=some (Qu.enter m.cf who),st:=4}) (v':={v with queue:=ptr tb}) rfl;have hr3:=af.aK hr2 ((aD.refl (fun b=>b=p.kb) _).setCell ⟨p.kb,who * 35,none⟩ (.i 4) (fun _=>rfl)) (fun e=>hne e);clear hne;have H3:=uH h3;have HR3:=uH hr3;clear h2 hr2 h3 hr3;have SH:RowKit.Hid (aD (fun b=>b=p.kb) W (w2.setCell ⟨p.kb,who * 35,none⟩ (.i 4))):=uH (VK.out.setCell _ _ (fun _=>rfl));go_wp2_with fail
 first | go_end0 | refine bP ?_
 exact⟨rfl,_,H3.out,bF.KL H3.out HR3.out HOW.out (.inl rfl) rfl rfl,SH.out⟩
theorem sW (h:Mx W0 p0 W p m who k v s):Calls prog 126 #[ptr p.gb,.i who] W (EPost W0 p0 W p m who ({k with two:=some (Tw.new m.cf),st:=3}) s):=by
 obtain⟨hx0,hx1,hx2⟩:=idx h.hw;have g0:W.cell? ⟨p.gb,0,none⟩=some (.i m.cf.workers):=h.az 0;have g1:W.cell? ⟨p.gb,1,none⟩=some (.i m.cf.slots):=h.az 1;have g2:W.cell? ⟨p.gb,2,none⟩=some (.i m.cf.streams):=h.az 2;have g3:W.cell? ⟨p.gb,3,none⟩=some (.i m.cf.waiters):=h.az 3;have g4:W.cell? ⟨p.gb,4,none⟩=some (.i m.cf.uses):=h.az 4;have g9:W.cell? ⟨p.gb,9,none⟩=some (.slice (some ⟨p.kb,0,none⟩) m.ks.length m.ks.length):=h.az 9;have hnew:=nU W m.cf;simp only[Cf.val,Cf.cells]at hnew;have H:=uH h;clear h
 go_enter func126,ntmps126
 go_wp2_with fail;refine hnew.mono ?_;rintro e w1 ⟨tb,rfl,hr1,hge,hb1⟩;have SE:RowKit.Hid (aD (fun b=>b=p.kb) W w1):=uH (aD.aF hb1);have h1:=H.out.below hb1;have how:p.ow tb=8+who:=H.out.fresh tb hge;have hne:¬ tb=p.kb:=fun e=>by have:=h1.core.lk;rw[e]at how;have h7:p.ow p.kb=7:=this;omega
 have HOW:=uH how;have GV:=uH hne;clear hnew g0 g1 g2 g3 g4 g9 hb1 how hne hge;have hne:=GV.out;have VO:w1.cell? ⟨p.kb,who * 35+12,none⟩=some (v.two):=h1.aL 12 rfl;have SK:w1.frozen? ⟨p.kb,who * 35+12,none⟩=false:=h1.dZ 12 aT;have h2:=h1.put 12 aT (ptr tb) (k':={k with two:=some (Tw.new m.cf)}) (v':={v with two:=ptr tb}) rfl;have hr2:=af.aK hr1 ((aD.refl (fun b=>b=p.kb) _).setCell ⟨p.kb,who * 35+12,none⟩ (ptr tb) (fun _=>rfl)) (fun e=>hne e);clear hne;have H2:=uH h2;have HR2:=uH hr2;clear h1 hr1 h2 hr2;have VK:RowKit.Hid (aD (fun b=>b=p.kb) W (w1.setCell ⟨p.kb,who * 35+12,none⟩ (ptr tb))):=uH (SE.out.setCell _ _ (fun _=>rfl));go_upto_region 2 with(fail);generalize w1.setCell ⟨p.kb,who * 35+12,none⟩ (ptr tb)=w2 at *;have h2:=H2.out;have hr2:=HR2.out;clear VO SK H2 HR2;have hne:=GV.out
 have YU:w2.cell? ⟨p.kb,who * 35,none⟩=some (.i ({k with two:=some (Tw.new m.cf)}:Wk).st):=h2.aL 0 rfl;have VN:w2.frozen? ⟨p.kb,who * 35,none⟩=false:=h2.dZ 0 aT;have h3:=h2.put 0 aT (.i 3) (k':={k with two:=some (Tw.new m.cf),st:=3}) (v':={v with two:=ptr tb}) rfl;have hr3:=af.aK hr2 ((aD.refl (fun b=>b=p.kb) _).setCell ⟨p.kb,who * 35,none⟩ (.i 3) (fun _=>rfl)) (fun e=>hne e);clear hne;have H3:=uH h3;have HR3:=uH hr3;clear h2 hr2 h3 hr3;have SH:RowKit.Hid (aD (fun b=>b=p.kb) W (w2.setCell ⟨p.kb,who * 35,none⟩ (.i 3))):=uH (VK.out.setCell _ _ (fun _=>rfl));go_wp2_with fail
 first | go_end0 | refine bP ?_
 exact⟨rfl,_,H3.out,bF.SC H3.out HR3.out ⟨rfl,rfl⟩ HOW.out rfl rfl rfl,SH.out⟩
def zn (k:Wk) (v:KV):List Value:=[.i k.st,.i k.ask.op,.i k.ask.deadline,.bool k.ask.wait,.bool k.ask.force,.i k.ask.slot,.i k.ask.gen,.i k.ask.stream,
 .bool k.half,.i k.word,.i k.grant,v.work,v.two,v.queue,v.tidy,.bool k.dO,.bool k.dA]
theorem qf (k:Wk) (v:KV):(dx k v).toList=zn k v ++ k.ans.cells.toList:=by
 unfold dx zn Mod.Ev.cells;rfl
theorem Og (k:Wk) (v:KV) (x:Mod.Ev):∀ (j:Nat) (u:Value),(dx {k with ans:=x} v)[j]? =some u->(if 17<=j/\j < 17+x.cells.toList.length then x.cells.toList[j - 17]? else (dx k v)[j]?)=some u:=by
 intro j u hu;rw[<- Array.getElem?_toList,qf,List.getElem?_append]at hu;have hl:x.cells.toList.length=18:=by unfold Mod.Ev.cells;rfl
 have hf:(zn {k with ans:=x} v).length=17:=rfl;rw[hf]at hu;rw[hl]
 by_cases hj:j < 17
 ·rw[if_pos hj]at hu;rw[if_neg ag,<- Array.getElem?_toList,qf,List.getElem?_append,if_pos (by show j < 17;exact hj)];exact hu
 ·rw[if_neg hj]at hu;have hs:j - 17 < x.cells.toList.length:=(List.getElem?_eq_some_iff.1 hu).1;rw[hl]at hs;rw[if_pos ag];exact hu
theorem Mx.answer (h:Mx W0 p0 W p m who k v s) (x:Mod.Ev):Mx W0 p0 (W.setCells p.kb (who * 35+17) x.cells.toList) p m who {k with ans:=x} v s:=
 h.puts 17 x.cells.toList (by show 17+18<=35;decide) (Og k v x)
theorem Mx.there (h:Mx W0 p0 W p m who k v s) (o n:Nat) (ho:o+n<=35):W.there p.kb (who * 35+o) n:=by
 intro j hj;have hj2:o+j < (dx k v).size:=by rw[fV];omega
 refine⟨?_,?_⟩
 ·rw[Nat.add_assoc,h.aL (o+j) (Array.getElem?_eq_getElem hj2)];rfl
 ·rw[Nat.add_assoc];exact h.dZ (o+j) ag
theorem gU (h:Mx W0 p0 W p m who k v s) (x:Mod.Ev):Calls prog 88 #[ptr p.gb,.i who,x.val] W (EPost W0 p0 W p m who (k.finish m.cf who x) s):=by
 obtain⟨hx0,hx1,hx2⟩:=idx h.hw;have h1:=h.below (bZ.alloc aQ (.cells x.cells 47));have hr1:af (W.alloc (.cells x.cells 47)) W.heap.size x.cells 47:=af.new W _ _;have how:p.ow W.heap.size=8+who:=h.fresh _ aQ;have hne:¬ W.heap.size=p.kb:=fun e=>by have:=h.core.lk;rw[e]at how;have h7:p.ow p.kb=7:=this;omega
 have SE:RowKit.Hid (aD (fun b=>b=p.kb) W (W.alloc (.cells x.cells 47))):=uH (aD.aF (bZ.alloc aQ _));have GV:=uH hne;clear hne how h
 go_enter func88,ntmps88
 go_upto_region 1 with(fail);generalize (W.alloc (.cells x.cells 47))=w1 at *;generalize W.heap.size=eb at *;have hd:=h1.below bY;have SH:RowKit.Hid (aD (fun b=>b=p.kb) W (w1.drew.setCells p.kb (who * 35+17) x.cells.toList)):=uH (SE.out.drew.trans (ek p.kb 0 x.cells.toList) (fun _ _ e=>e));have hrd:=af.drew hr1;clear h1 hr1;have h2:=hd.answer x;have hth:w1.drew.there p.kb (who * 35+17) x.cells.size:=hd.there 17 18 aT;have g9:w1.drew.cell? ⟨p.gb,9,none⟩=some (.slice (some ⟨p.kb,0,none⟩) m.ks.length m.ks.length):=hd.az 9;have hr2:af (w1.drew.setCells p.kb (who * 35+17) x.cells.toList) eb x.cells 47:=af.aK hrd (ek p.kb 0 x.cells.toList) (fun e=>GV.out e)
 refine jr (S:=(fun w'=>w'.cell? ⟨p.gb,9,none⟩=some (.slice (some ⟨p.kb,0,none⟩) m.ks.length m.ks.length)/\af w' eb x.cells 47)) (by exact⟨g9,hrd⟩) (fun hHeld=>?_);refine tH 0 6 hHeld ?_;refine tH 1 7 hHeld ?_;refine tH 2 8 hHeld ?_;refine tH 3 9 hHeld ?_;refine tH 4 10 hHeld ?_;refine iC (gd:=none) 5 11 (.load 47 (.tmp 5)) (.agg x.cells) (aM 47 (.tmp 5) (eb) 47 x.cells _ ax underlying47 rfl ax (fun w h=>h.2)) hHeld (ay ?_)
 refine tH 6 12 hHeld ?_;refine tH 7 13 hHeld ?_;refine uT (i:=8) ax 47 (.tmp 13) (.tmp 11) ax p.kb (who * 35+17) x.cells ax ax hth ax ax ?_ (fun hHeld=>?_)
 ·exact⟨h2.az 9,hr2⟩
 refine iR ?_;generalize w1.drew.setCells p.kb (who * 35+17) x.cells.toList=w3 at *;have ht:=qc h2 false;clear h2 hr2 hth hd hrd g9;go_wp2_with fail;refine ht.mono ?_;rintro e w9 ⟨rfl,v9,h9,a9,c9⟩;have H9:=uH h9;have A9:=uH a9;have C9:=uH (SH.out.trans c9 (fun _ _ e=>e));clear ht h9 a9 c9;go_wp2_with fail
 first | go_end0 | refine bP ?_
 exact⟨rfl,v9,H9.out,A9.out,C9.out⟩
end Mc
namespace Mc
open Go.RowKit Hp ah aj Slot ai Tk Cl
theorem iU.Dc {W:World} {tb mb wb:Nat} {ro:Option Nat} {g:Gi} {ws:List Int} {tc:Int} (h:iU W tb mb wb ro g ws tc):∀ b,jo tb none ro b->b < W.heap.size:=by
 rintro b (rfl | e | e)
 ·exact h.lt
 ·cases e
 ·exact(h.ra b e).2.2
theorem eD.Dc {W:World} {sb b1 b2 mb wb:Nat} {bv:Value} {x:Sm} {ws:List Int} {tc:Int} (h:eD W sb b1 b2 mb wb bv x ws tc):∀ b,xQ sb b1 b2 b->b < W.heap.size:=by
 rintro b (rfl | rfl | rfl)
 ·exact h.lt
 ·exact af.lt h.fn.1
 ·rcases h.fn.2 with e | e
  ·exact af.lt e.2.2
  ·exact af.lt e.2.2
def K2 (k:Wk) (j:Az):Wk:={k with bq:=some j}
theorem fK (k:Wk) (j:Az) (v:KV):dx (K2 k j) v=dx k v:=rfl
theorem VQ {W W':World} {tb mb wb:Nat} {ro ro':Option Nat} (h:TR W tb mb wb none ro W' none ro'):(∀ b,jo tb none ro' b->jo tb none ro b\/W.heap.size<=b)/\aD (fun b=>jo tb none ro b\/dJ mb wb b) W W':=
 ⟨fun b hb=>Grow.fp (W1:=W') (tb:=tb) h.1 h.2.1 hb,h.2.2⟩
theorem jN {W:World} {gb mb wb who:Nat} {L:Nat->Prop} {ws:List Int} {tc:Int} {c:Cf} {k:Wk} {v:KV} {j:Az} (hk:k.st=2) (h:fZ W gb mb wb L who ws tc c j v.work):bF W gb mb wb L who ws tc c (K2 k j) v:=
 ⟨fun _=>⟨j,rfl,h⟩,fun e=>absurd (hk.symm.trans e) aT,fun e=>by rcases e with e | e;exact absurd (hk.symm.trans e) aT;exact absurd (hk.symm.trans e) aT,fun e=>absurd (hk.symm.trans e) aT⟩
theorem GX {W0 W:World} {p0 p:Mp} {m:Mc} {who:Nat} {k:Wk} {v:KV} {s:Sh} {g:Gi} {ro:Option Nat} {b1 b2 b3 tb:Nat} (h:Mx W0 p0 W p m who k v s) (hk:k.st=2)
  (hl:qa W p.gb who (In W p.ow (8+who)) 153 v.work (ptr tb) 150 b1 b2 b3) (hg:iU W tb p.mb p.wb ro g s.ws s.tc) (hd:∀ b,jo tb none ro b->uw (In W p.ow (8+who)) b1 b2 b3 b)
  (ok:pW m.cf g) (hgw:g.w=who) (h3:g.st<=3) (hM:aA m.cf) (hwn:(who:Int) < m.cf.workers) (hlen:s.ws.length=sc m.cf (ns m.cf)) (ht:(s.tc:Int)<=4000000000000000000):
  Calls prog 153 #[ptr b1,ptr b2,ptr b3] W (bV W0 p0 m who (if (g.step s.ws).1.st=4 then (K2 k (.give (g.step s.ws).1)).finish m.cf who {Mod.Ev.zero with e:=(g.step s.ws).1.e} else K2 k (.give (g.step s.ws).1)) (s.cells (g.step s.ws).2)):=by
 have hcf:=ok.cf;have hst:=fun(w':World) (hb:Below W.heap.size W w')=>GG (hg.below hb) (by rw[hcf];exact ok) (by rw[hcf];exact hM) (by rw[hgw];have:=hM.w;omega) (by rw[hcf];exact hlen) ⟨ag,ht⟩ h3
 clear ok hgw h3 hM hlen ht hcf hwn hg;obtain⟨r,hr⟩:∃ r,r=g.step s.ws:=⟨_,rfl⟩
 rw[<- hr]at hst ⊢;clear hr;obtain⟨g2,jq,n2⟩:=r;dsimp only at hst ⊢;have hcl:=hl;have c1:=cP tb (hcl.r1.cell 0);have c2:=cP p.gb (hcl.r2.cell 0);have c3:=cC who (hcl.r3.cell 0);clear hcl;have g5:=cP p.mb (h.az 5);have qh:=hst W.drew bY;have hdr:Below W.heap.size W W.drew:=bY;have H:=uH (h.below hdr);have hcl0:qa W.drew p.gb who (In W.drew p.ow (8+who)) 153 v.work (ptr tb) 150 b1 b2 b3:=hl.aK (G:=fun _=>False) (aD.aF hdr) (fun _ _ e=>e) (fun b hb=>hb.mono hdr.size);have HL:=uH hcl0;have hd0:∀ b,jo tb none ro b->uw (In W.drew p.ow (8+who)) b1 b2 b3 b:=fun b hb=>(hd b hb).mono (fun b hb=>hb.mono hdr.size)
 have HD:=uH hd0;have HK:=uH hk;clear h hl hcl0 hd hd0 hst hk hdr
 by_cases hdn:g2.st=4
 focus
  rw[if_pos hdn];have hdb:decide (g2.st=4)=true:=decide_eq_true hdn
 rotate_left
 focus
  rw[if_neg hdn];have hdb:decide (g2.st=4)=false:=decide_eq_false hdn
 rotate_left
 all_goals
  rw[hdb]at qh;have Fx:=uH hdn;clear hdn hdb
  go_enter func153,ntmps153
  go_wp2_with fail
  go_region_held3 (fun w'=>w'.cell? ⟨b1,0,none⟩=some (ptr tb)/\w'.cell? ⟨b2,0,none⟩=some (ptr p.gb)/\w'.cell? ⟨p.gb,5,none⟩=some (ptr p.mb)) (first | go_keep | exact⟨aI,aI,aI⟩)
   ((first
   | (go_at_call 154;refine qh.mono ?_;rintro e w5 ⟨rfl,iE,jD,htr⟩;have eG:iU w5 tb p.mb p.wb iE g2 jq ((s.tc+n2:Nat):Int):=jD;have hor:=VQ htr;have h5:=(H.out.mG (fun b hb=>(HD.out b hb).1) hor.2 eG.mem);have hcl:=H.out.nu HL.out HD.out hor.2;have hfp:=H.out.qj HL.out HD.out hor.2.size hor.1 eG.Dc;have d1:=cP tb (hcl.r1.cell 0);have d2:=cP p.gb (hcl.r2.cell 0);have d3:=cC who (hcl.r3.cell 0);have d5:=cP p.mb (h5.az 5))))
 ·have kG:=Ba eG Fx.out;have hH:=h5.same (k':=K2 k (.give g2)) (v':=v) (fK k _ v);have HH:=uH hH;have yB:=uH hcl;clear h5 hcl hfp eG hor qh hH;go_wp2_with fail;refine kG.mono ?_;rintro e w6 ⟨rfl,hb6⟩;have h6:=HH.out.below hb6;have hcl:=yB.out.aK (L':=In w6 p.ow (8+who)) (G:=fun _=>False) (aD.aF hb6) (fun _ _ e=>e) (fun b hb=>hb.mono hb6.size);have e1:=cP tb (hcl.r1.cell 0);have e2:=cP p.gb (hcl.r2.cell 0);have e3:=cC who (hcl.r3.cell 0);have hen:=gU h6 {Mod.Ev.zero with e:=g2.e};clear kG h6 hcl hb6 c1 c2 c3 g5 d1 d2 d3 d5 HH;go_wp2_with fail;refine hen.mono ?_;rintro e w9 ⟨rfl,v9,h9,a9,-⟩;have H9:=uH h9;have A9:=uH a9;clear hen h9 a9;go_wp2_with fail
  first | go_end0 | refine bP ?_
  exact⟨rfl,p,v9,H9.out,A9.out⟩
 ·have H5:=uH (h5.same (k':=K2 k (.give g2)) (v':=v) (fK k _ v));have A5:=uH (jN (v:=v) HK.out (show fZ w5 p.gb p.mb p.wb (In w5 p.ow (8+who)) who jq ((s.tc+n2:Nat):Int) m.cf (.give g2) v.work from⟨b1,b2,b3,tb,iE,hcl,eG,hfp⟩));clear h5 hcl hfp eG hor qh;go_wp2_with fail
  first | go_end0 | refine bP ?_
  exact⟨rfl,p,v,H5.out,A5.out⟩
theorem Bw {W0 W:World} {p0 p:Mp} {m:Mc} {who:Nat} {k:Wk} {v:KV} {s:Sh} {x:Sm} {s1 s2:Nat} {bv:Value} {b1 b2 b3 tb:Nat} (h:Mx W0 p0 W p m who k v s) (hk:k.st=2)
  (hl:qa W p.gb who (In W p.ow (8+who)) 156 v.work (ptr tb) 153 b1 b2 b3) (hg:eD W tb s1 s2 p.mb p.wb bv x s.ws s.tc) (hd:∀ b,xQ tb s1 s2 b->uw (In W p.ow (8+who)) b1 b2 b3 b)
  (ok:ny m.cf x) (hM:aA m.cf) (hwn:(who:Int) < m.cf.workers) (hlen:s.ws.length=sc m.cf (ns m.cf)) (ht:(s.tc:Int)<=4000000000000000000):
  Calls prog 156 #[ptr b1,ptr b2,ptr b3] W (bV W0 p0 m who (if (x.step s.ws).1.st=3 then (K2 k (.stream (x.step s.ws).1)).finish m.cf who {Mod.Ev.zero with e:=(x.step s.ws).1.answer.1,stream:=(x.step s.ws).1.answer.2} else K2 k (.stream (x.step s.ws).1)) (s.cells (x.step s.ws).2)):=by
 have hcf:=ok.cf
 have hn2:¬ xQ tb s1 s2 2/\¬ dJ p.mb p.wb 2:=by
  have l2:p.ow 2=0:=h.core.l0.2;refine⟨fun e=>?_,fun e=>?_⟩
  ·have:=(hd 2 e).1.2;omega
  ·rcases e with e | e
   ·have:=h.core.lm;have hh:p.ow p.mb=2:=this;rw[<- e]at hh;omega
   ·have:=h.core.lw;have hh:p.ow p.wb=3:=this;rw[<- e]at hh;omega
 have htab:=h.tab;have hst:=fun(w':World) (hb:Below W.heap.size W w')=>GY (hg.below hb) ⟨ag,ht⟩ (by rw[hcf];exact hM) (by rw[hcf];exact hlen) (by rw[hcf];exact ok) (htab.below hb) hn2
 clear ok hM hlen ht hcf hwn hg htab hn2;obtain⟨r,hr⟩:∃ r,r=x.step s.ws:=⟨_,rfl⟩
 rw[<- hr]at hst ⊢;clear hr;obtain⟨g2,jq,n2⟩:=r;dsimp only at hst ⊢;have hcl:=hl;have c1:=cP tb (hcl.r1.cell 0);have c2:=cP p.gb (hcl.r2.cell 0);have c3:=cC who (hcl.r3.cell 0);clear hcl;have g5:=cP p.mb (h.az 5);have qh:=hst W.drew bY;have hdr:Below W.heap.size W W.drew:=bY;have H:=uH (h.below hdr);have hcl0:qa W.drew p.gb who (In W.drew p.ow (8+who)) 156 v.work (ptr tb) 153 b1 b2 b3:=hl.aK (G:=fun _=>False) (aD.aF hdr) (fun _ _ e=>e) (fun b hb=>hb.mono hdr.size);have HL:=uH hcl0;have hd0:∀ b,xQ tb s1 s2 b->uw (In W.drew p.ow (8+who)) b1 b2 b3 b:=fun b hb=>(hd b hb).mono (fun b hb=>hb.mono hdr.size)
 have HD:=uH hd0;have HK:=uH hk;clear h hl hcl0 hd hd0 hst hk hdr
 by_cases hdn:g2.st=3
 focus
  rw[if_pos hdn];have hdb:decide (g2.st=3)=true:=decide_eq_true hdn
 rotate_left
 focus
  rw[if_neg hdn];have hdb:decide (g2.st=3)=false:=decide_eq_false hdn
 rotate_left
 all_goals
  rw[hdb]at qh;have Fx:=uH hdn;clear hdn hdb
  go_enter func156,ntmps156
  go_wp2_with fail
  go_region_held3 (fun w'=>w'.cell? ⟨b1,0,none⟩=some (ptr tb)/\w'.cell? ⟨b2,0,none⟩=some (ptr p.gb)/\w'.cell? ⟨p.gb,5,none⟩=some (ptr p.mb)) (first | go_keep | exact⟨aI,aI,aI⟩)
   ((first
   | (go_at_call 157;refine qh.mono ?_;rintro e w5 ⟨rfl,jD,zu⟩;have eG:eD w5 tb s1 s2 p.mb p.wb bv g2 jq ((s.tc+n2:Nat):Int):=jD;have hor:=zu;have h5:=(H.out.mG (fun b hb=>(HD.out b hb).1) hor.2 eG.mem);have hcl:=H.out.nu HL.out HD.out hor.2;have hfp:=H.out.qj HL.out HD.out hor.2.size hor.1 eG.Dc;have d1:=cP tb (hcl.r1.cell 0);have d2:=cP p.gb (hcl.r2.cell 0);have d3:=cC who (hcl.r3.cell 0);have d5:=cP p.mb (h5.az 5))))
 ·have kG:=Bz eG Fx.out;have hH:=h5.same (k':=K2 k (.stream g2)) (v':=v) (fK k _ v);have HH:=uH hH;have yB:=uH hcl;clear h5 hcl hfp eG hor qh hH;go_wp2_with fail;refine kG.mono ?_;rintro e w6 ⟨rfl,hb6⟩;have h6:=HH.out.below hb6;have hcl:=yB.out.aK (L':=In w6 p.ow (8+who)) (G:=fun _=>False) (aD.aF hb6) (fun _ _ e=>e) (fun b hb=>hb.mono hb6.size);have e1:=cP tb (hcl.r1.cell 0);have e2:=cP p.gb (hcl.r2.cell 0);have e3:=cC who (hcl.r3.cell 0);have hen:=gU h6 {Mod.Ev.zero with e:=g2.answer.1,stream:=g2.answer.2};clear kG h6 hcl hb6 c1 c2 c3 g5 d1 d2 d3 d5 HH;go_wp2_with fail;refine hen.mono ?_;rintro e w9 ⟨rfl,v9,h9,a9,-⟩;have H9:=uH h9;have A9:=uH a9;clear hen h9 a9;go_wp2_with fail
  first | go_end0 | refine bP ?_
  exact⟨rfl,p,v9,H9.out,A9.out⟩
 ·have H5:=uH (h5.same (k':=K2 k (.stream g2)) (v':=v) (fK k _ v));have A5:=uH (jN (v:=v) HK.out (show fZ w5 p.gb p.mb p.wb (In w5 p.ow (8+who)) who jq ((s.tc+n2:Nat):Int) m.cf (.stream g2) v.work from⟨b1,b2,b3,tb,s1,s2,bv,hcl,eG,hfp⟩));clear h5 hcl hfp eG hor qh;go_wp2_with fail
  first | go_end0 | refine bP ?_
  exact⟨rfl,p,v,H5.out,A5.out⟩
def Ol (w:Int):Int:=match dec w with | some s=>s.state | none=>0
def qi (x:Int):Bool:=x == 2
def ql (x:Int):Bool:=x == 3
def qe (x:Int):Bool:=x == 0
def qo (x:Int):Bool:=!(x == 0 || x == 2 || x == 3)
def fO (p:Int->Bool) (l:List Int) (k:Nat):Int:=(((l.take k).filter fun w=>p (Ol w)).length:Int)
theorem vD (p:Int->Bool) (l:List Int) (k:Nat):0<=fO p l k/\fO p l k<=k:=by
 unfold fO;have h1:=List.length_filter_le (fun w=>p (Ol w)) (l.take k);have h2:(l.take k).length<=k:=List.length_take_le _ _;omega
theorem pq (p:Int->Bool) {l:List Int} {k:Nat} {x:Int} (h:l[k]? =some x):fO p l (k+1)=fO p l k+if p (Ol x) then 1 else 0:=by
 unfold fO;obtain⟨hl,h⟩:=List.getElem?_eq_some_iff.1 h;rw[List.take_succ_eq_append_getElem hl,List.filter_append,h];cases hp:p (Ol x)<;>simp[hp]
theorem DW (l:List Int):counted l={Mod.Ev.zero with idle:=fO qi l l.length,eu:=fO ql l l.length,empty:=fO qe l l.length,other:=fO qo l l.length}:=by
 have h:∀ p:Int->Bool,((l.filter fun w=>match dec w with | some s=>p s.state | none=>p 0).length:Int)=fO p l l.length:=by
  intro p;unfold fO;rw[List.take_length]
  congr 3
  funext w
  unfold Ol;cases dec w<;>rfl
 have h1:=h qi;have h2:=h ql;have h3:=h qe;have h4:=h qo;rw[<- h1,<- h2,<- h3,<- h4];rfl
def cO (l:List Int):Value:=.agg #[.i (counted l).idle,.i (counted l).eu,.i (counted l).empty,.i (counted l).other]
theorem BC (W:World) (a:Option Addr) (c:Nat) (l:List Int) (hs:SliceAt W (.slice a l.length c) (l.map (Value.int .i64))) (hl:l.length<=1000) (hL:Laid W):Calls prog 174 #[.slice a l.length c] W fun e W'=>e=.returned (cO l)/\Below W.heap.size W W':=by
 have hR:cO l=.agg #[.i (fO qi l l.length),.i (fO ql l l.length),.i (fO qe l l.length),.i (fO qo l l.length)]:=by unfold cO;rw[DW]
 have h0:=gH W #[.i 0,.i 0,.i 0,.i 0] #[.i 0,.i 0,.i 0,.i 0] 45 45;have hz:af ((W.alloc (.cells #[.i 0,.i 0,.i 0,.i 0] 45)).alloc (.cells #[.i 0,.i 0,.i 0,.i 0] 45)) W.heap.size #[.i 0,.i 0,.i 0,.i 0] 45:=(af.new W _ _).alloc _;have HS:=uH hs;have HL:=uH hL;have HR:=uH hR;have HZ:=uH hz;obtain⟨q0,b0⟩:=h0;have Q0:=uH q0;have B0:=uH b0;have DX:∀ k:Nat,k < l.length->∃ x,l[k]? =some x:=fun k hk=>⟨_,List.getElem?_eq_getElem hk⟩
 have HX:=uH DX;clear hs hL hR hz q0 b0 DX;rw[HR.out]
 go_enter func174,ntmps174
 go_wp2_with fail
 go_loopw [10] (fun i wr=>∃ k:Nat,k<=l.length/\i=.i k/\Below W.heap.size W wr/\af wr W.heap.size #[.i 0,.i 0,.i 0,.i 0] 45/\af wr (W.heap.size+1) #[.i (fO qi l k),.i (fO ql l k),.i (fO qe l k),.i (fO qo l k)] 45) (fun i _=>l.length - (intOf i).toNat)
 case atStart=>exact⟨0,ag,rfl,B0.out,HZ.out,Q0.out⟩
 case round=>
  clear HZ Q0 B0;obtain⟨k,hk,rfl,hb,hz,q1⟩:=hrel;have k0:(0:Int)<=(k:Int):=ag
  by_cases hlt:k < l.length
  ·obtain⟨x,hx⟩:=HX.out k hlt;have hD:=aS wr x (HL.out.stable (hb.block 0 (HL.out.lt aT)));obtain⟨a',ev,hat⟩:∃ a',Value.slice a l.length c=.slice a' l.length c/\SliceAt wr (.slice a' l.length c) (l.map (Value.int .i64)):=⟨a,rfl,HS.out.below hb⟩
   cases ev;have hxm:(l.map (Value.int .i64))[k]? =some (.i x):=by rw[List.getElem?_map,hx];rfl
   have Gy:=hat;obtain⟨aa,cc,e1,-,hcs⟩:=Gy;simp only[Value.slice.injEq]at e1;obtain⟨ea,-,ec⟩:=e1;subst ea ec
   rcases hcs with h00 | ⟨gs,os,rfl,hcs⟩
   ·exact absurd h00 (by intro e;rw[List.map_eq_nil_iff]at e;rw[e]at hlt;simp at hlt)
   have hcx:wr.cell? ⟨gs,os+k,none⟩=some (.i x):=hcs k _ hxm;have n1:=vD qi l k;have n2:=vD ql l k;have n3:=vD qe l k;have n4:=vD qo l k;have S1:=uH (pq qi hx);have S2:=uH (pq ql hx);have S3:=uH (pq qe hx);have S4:=uH (pq qo hx);have Z1:=uH hz;have Q1:=uH q1;have HB:=uH hb;have hlw:W.heap.size+1 < wr.heap.size:=q1.lt;clear hat hcs hxm hx hz q1 hb;generalize fO qi l k=a1 at *;generalize fO ql l k=a2 at *;generalize fO qe l k=a3 at *;generalize fO qo l k=a4 at *;obtain⟨n1,n1'⟩:=n1;obtain⟨n2,n2'⟩:=n2;obtain⟨n3,n3'⟩:=n3;obtain⟨n4,n4'⟩:=n4
   cases hd:dec x with
   | none=>
    have hst:Ol x=0:=by unfold Ol;rw[hd]
    rw[hst]at S1 S2 S3 S4;simp only[qi,ql,qe,qo,hd,Option.getD_none,Option.isSome_none,Int.reduceBEq,Bool.false_eq_true,if_false,if_true,Bool.or_self,Bool.not_false,Bool.or_false,Bool.true_or,Bool.not_true,Int.add_zero,beq_self_eq_true]at S1 S2 S3 S4 hD;clear hst hd;go_wp2_with fail;refine hD.mono ?_;rintro e w5 ⟨rfl,hb5⟩;have B5:=aW HB.out hb5;have z5:=af.below Z1.out hb5;have q5:=af.below Q1.out hb5;have hs5:=hb5.size;clear hD hb5 hcx;dsimp only;go_step;refine gl (.tuple #[S.zero.val,.bool false]) ?_;refine gl S.zero.val ?_;refine gl (.bool false) ?_;refine dU (ob:=.cells av 57) (Z:=av) (cs:=S.zero.cells) (t:=57) 57 (.tmp 6) (.tmp 17) rfl ?_;refine gl (.bool false) (ay ?_)
    rw[aG];have B6:Below W.heap.size W (w5.alloc (.cells S.zero.cells 57)):=B5.alloc B5.size _;have r6:af (w5.alloc (.cells S.zero.cells 57)) w5.heap.size S.zero.cells 57:=heap_alloc_new w5 _;have z6:=z5.alloc (.cells S.zero.cells 57);have q6:=q5.alloc (.cells S.zero.cells 57);generalize w5.alloc (.cells S.zero.cells 57)=w6 at *;generalize w5.heap.size=sb at *;have t0:=cC 0 ((af.cell r6 0).trans (rfl));have c0:=q6.cell 0;have c1:=q6.cell 1;have c2:=q6.cell 2;have c3:=q6.cell 3;have f0:=q6.frozen 0;have f1:=q6.frozen 1;have f2:=q6.frozen 2;have f3:=q6.frozen 3;simp only[List.getElem?_toArray,List.getElem?_cons_zero,List.getElem?_cons_succ]at c0 c1 c2 c3;have q7:=q6.aB 2 (.i (a3+1));have Q7:=uH q7;have Z7:=uH (af.aK z6 ((aD.refl (fun k=>k=W.heap.size+1) w6).setCell ⟨W.heap.size+1,2,none⟩ (.i (a3+1)) (fun _=>rfl)) ag)
    have B7:=uH (B6.setCell (by simp:W.heap.size<=W.heap.size+1) (p:=⟨W.heap.size+1,2,none⟩) (.i (a3+1)));clear q7 q6 z6 B6 B5 z5 q5 r6;go_wp2_with fail
    go_roundw
    case rel=>exact⟨k+1,ag,by go_num,B7.out,Z7.out,by rw[S1.out,S2.out,S3.out,S4.out];exact Q7.out⟩
    case measure=>simp[intOf];omega
   | some s=>
    have hst:Ol x=s.state:=by unfold Ol;rw[hd]
    rw[hst]at S1 S2 S3 S4;simp only[hd,Option.getD_some,Option.isSome_some]at hD;clear hst hd
    by_cases x0:s.state=0
    ·rw[x0]at S1 S2 S3 S4;simp only[qi,ql,qe,qo,Int.reduceBEq,Bool.false_eq_true,if_false,if_true,Bool.or_self,Bool.not_false,Bool.or_false,Bool.true_or,Bool.or_true,Bool.not_true,Int.add_zero,beq_self_eq_true]at S1 S2 S3 S4;go_wp2_with fail;refine hD.mono ?_;rintro e w5 ⟨rfl,hb5⟩;have B5:=aW HB.out hb5;have z5:=af.below Z1.out hb5;have q5:=af.below Q1.out hb5;have hs5:=hb5.size;clear hD hb5 hcx;dsimp only;go_step;refine gl (.tuple #[s.val,.bool true]) ?_;refine gl s.val ?_;refine gl (.bool true) ?_;refine dU (ob:=.cells av 57) (Z:=av) (cs:=s.cells) (t:=57) 57 (.tmp 6) (.tmp 17) rfl ?_;refine gl (.bool true) (ay ?_)
     rw[aG];have B6:Below W.heap.size W (w5.alloc (.cells s.cells 57)):=B5.alloc B5.size _;have r6:af (w5.alloc (.cells s.cells 57)) w5.heap.size s.cells 57:=heap_alloc_new w5 _;have z6:=z5.alloc (.cells s.cells 57);have q6:=q5.alloc (.cells s.cells 57);generalize w5.alloc (.cells s.cells 57)=w6 at *;generalize w5.heap.size=sb at *;have t0:=cC 0 ((af.cell r6 0).trans (by show some (Value.int .i64 s.state)=_;rw[x0]));have c0:=q6.cell 0;have c1:=q6.cell 1;have c2:=q6.cell 2;have c3:=q6.cell 3;have f0:=q6.frozen 0;have f1:=q6.frozen 1;have f2:=q6.frozen 2;have f3:=q6.frozen 3;simp only[List.getElem?_toArray,List.getElem?_cons_zero,List.getElem?_cons_succ]at c0 c1 c2 c3;have q7:=q6.aB 2 (.i (a3+1));have Q7:=uH q7;have Z7:=uH (af.aK z6 ((aD.refl (fun k=>k=W.heap.size+1) w6).setCell ⟨W.heap.size+1,2,none⟩ (.i (a3+1)) (fun _=>rfl)) ag)
     have B7:=uH (B6.setCell (by simp:W.heap.size<=W.heap.size+1) (p:=⟨W.heap.size+1,2,none⟩) (.i (a3+1)));clear q7 q6 z6 B6 B5 z5 q5 r6 x0;go_wp2_with fail
     go_roundw
     case rel=>exact⟨k+1,ag,by go_num,B7.out,Z7.out,by rw[S1.out,S2.out,S3.out,S4.out];exact Q7.out⟩
     case measure=>simp[intOf];omega
    have y0:(s.state == 0)=false:=by simpa using x0
    clear x0
    by_cases x0:s.state=2
    ·rw[x0]at S1 S2 S3 S4;simp only[qi,ql,qe,qo,Int.reduceBEq,Bool.false_eq_true,if_false,if_true,Bool.or_self,Bool.not_false,Bool.or_false,Bool.true_or,Bool.or_true,Bool.not_true,Int.add_zero,beq_self_eq_true]at S1 S2 S3 S4;go_wp2_with fail;refine hD.mono ?_;rintro e w5 ⟨rfl,hb5⟩;have B5:=aW HB.out hb5;have z5:=af.below Z1.out hb5;have q5:=af.below Q1.out hb5;have hs5:=hb5.size;clear hD hb5 hcx;dsimp only;go_step;refine gl (.tuple #[s.val,.bool true]) ?_;refine gl s.val ?_;refine gl (.bool true) ?_;refine dU (ob:=.cells av 57) (Z:=av) (cs:=s.cells) (t:=57) 57 (.tmp 6) (.tmp 17) rfl ?_;refine gl (.bool true) (ay ?_)
     rw[aG];have B6:Below W.heap.size W (w5.alloc (.cells s.cells 57)):=B5.alloc B5.size _;have r6:af (w5.alloc (.cells s.cells 57)) w5.heap.size s.cells 57:=heap_alloc_new w5 _;have z6:=z5.alloc (.cells s.cells 57);have q6:=q5.alloc (.cells s.cells 57);generalize w5.alloc (.cells s.cells 57)=w6 at *;generalize w5.heap.size=sb at *;have t0:=cC 2 ((af.cell r6 0).trans (by show some (Value.int .i64 s.state)=_;rw[x0]));have c0:=q6.cell 0;have c1:=q6.cell 1;have c2:=q6.cell 2;have c3:=q6.cell 3;have f0:=q6.frozen 0;have f1:=q6.frozen 1;have f2:=q6.frozen 2;have f3:=q6.frozen 3;simp only[List.getElem?_toArray,List.getElem?_cons_zero,List.getElem?_cons_succ]at c0 c1 c2 c3;have q7:=q6.aB 0 (.i (a1+1));have Q7:=uH q7;have Z7:=uH (af.aK z6 ((aD.refl (fun k=>k=W.heap.size+1) w6).setCell ⟨W.heap.size+1,0,none⟩ (.i (a1+1)) (fun _=>rfl)) ag)
     have B7:=uH (B6.setCell (by simp:W.heap.size<=W.heap.size+1) (p:=⟨W.heap.size+1,0,none⟩) (.i (a1+1)));clear q7 q6 z6 B6 B5 z5 q5 r6 x0;go_wp2_with fail
     go_roundw
     case rel=>exact⟨k+1,ag,by go_num,B7.out,Z7.out,by rw[S1.out,S2.out,S3.out,S4.out];exact Q7.out⟩
     case measure=>simp[intOf];omega
    have y2:(s.state == 2)=false:=by simpa using x0
    clear x0
    by_cases x0:s.state=3
    ·rw[x0]at S1 S2 S3 S4;simp only[qi,ql,qe,qo,Int.reduceBEq,Bool.false_eq_true,if_false,if_true,Bool.or_self,Bool.not_false,Bool.or_false,Bool.true_or,Bool.or_true,Bool.not_true,Int.add_zero,beq_self_eq_true]at S1 S2 S3 S4;go_wp2_with fail;refine hD.mono ?_;rintro e w5 ⟨rfl,hb5⟩;have B5:=aW HB.out hb5;have z5:=af.below Z1.out hb5;have q5:=af.below Q1.out hb5;have hs5:=hb5.size;clear hD hb5 hcx;dsimp only;go_step;refine gl (.tuple #[s.val,.bool true]) ?_;refine gl s.val ?_;refine gl (.bool true) ?_;refine dU (ob:=.cells av 57) (Z:=av) (cs:=s.cells) (t:=57) 57 (.tmp 6) (.tmp 17) rfl ?_;refine gl (.bool true) (ay ?_)
     rw[aG];have B6:Below W.heap.size W (w5.alloc (.cells s.cells 57)):=B5.alloc B5.size _;have r6:af (w5.alloc (.cells s.cells 57)) w5.heap.size s.cells 57:=heap_alloc_new w5 _;have z6:=z5.alloc (.cells s.cells 57);have q6:=q5.alloc (.cells s.cells 57);generalize w5.alloc (.cells s.cells 57)=w6 at *;generalize w5.heap.size=sb at *;have t0:=cC 3 ((af.cell r6 0).trans (by show some (Value.int .i64 s.state)=_;rw[x0]));have c0:=q6.cell 0;have c1:=q6.cell 1;have c2:=q6.cell 2;have c3:=q6.cell 3;have f0:=q6.frozen 0;have f1:=q6.frozen 1;have f2:=q6.frozen 2;have f3:=q6.frozen 3;simp only[List.getElem?_toArray,List.getElem?_cons_zero,List.getElem?_cons_succ]at c0 c1 c2 c3;have q7:=q6.aB 1 (.i (a2+1));have Q7:=uH q7;have Z7:=uH (af.aK z6 ((aD.refl (fun k=>k=W.heap.size+1) w6).setCell ⟨W.heap.size+1,1,none⟩ (.i (a2+1)) (fun _=>rfl)) ag)
     have B7:=uH (B6.setCell (by simp:W.heap.size<=W.heap.size+1) (p:=⟨W.heap.size+1,1,none⟩) (.i (a2+1)));clear q7 q6 z6 B6 B5 z5 q5 r6 x0;go_wp2_with fail
     go_roundw
     case rel=>exact⟨k+1,ag,by go_num,B7.out,Z7.out,by rw[S1.out,S2.out,S3.out,S4.out];exact Q7.out⟩
     case measure=>simp[intOf];omega
    have y3:(s.state == 3)=false:=by simpa using x0
    clear x0;simp only[qi,ql,qe,qo,y0,y2,y3,Bool.false_eq_true,if_false,if_true,Bool.or_self,Bool.not_false,Int.add_zero]at S1 S2 S3 S4;go_wp2_with fail;refine hD.mono ?_;rintro e w5 ⟨rfl,hb5⟩;have B5:=aW HB.out hb5;have z5:=af.below Z1.out hb5;have q5:=af.below Q1.out hb5;have hs5:=hb5.size;clear hD hb5 hcx;dsimp only;go_step;refine gl (.tuple #[s.val,.bool true]) ?_;refine gl s.val ?_;refine gl (.bool true) ?_;refine dU (ob:=.cells av 57) (Z:=av) (cs:=s.cells) (t:=57) 57 (.tmp 6) (.tmp 17) rfl ?_;refine gl (.bool true) (ay ?_)
    rw[aG];have B6:Below W.heap.size W (w5.alloc (.cells s.cells 57)):=B5.alloc B5.size _;have r6:af (w5.alloc (.cells s.cells 57)) w5.heap.size s.cells 57:=heap_alloc_new w5 _;have z6:=z5.alloc (.cells s.cells 57);have q6:=q5.alloc (.cells s.cells 57);generalize w5.alloc (.cells s.cells 57)=w6 at *;generalize w5.heap.size=sb at *;have t0:=cC s.state ((af.cell r6 0).trans (rfl));have c0:=q6.cell 0;have c1:=q6.cell 1;have c2:=q6.cell 2;have c3:=q6.cell 3;have f0:=q6.frozen 0;have f1:=q6.frozen 1;have f2:=q6.frozen 2;have f3:=q6.frozen 3;simp only[List.getElem?_toArray,List.getElem?_cons_zero,List.getElem?_cons_succ]at c0 c1 c2 c3;have q7:=q6.aB 3 (.i (a4+1));have Q7:=uH q7;have Z7:=uH (af.aK z6 ((aD.refl (fun k=>k=W.heap.size+1) w6).setCell ⟨W.heap.size+1,3,none⟩ (.i (a4+1)) (fun _=>rfl)) ag)
    have B7:=uH (B6.setCell (by simp:W.heap.size<=W.heap.size+1) (p:=⟨W.heap.size+1,3,none⟩) (.i (a4+1)));clear q7 q6 z6 B6 B5 z5 q5 r6;go_wp2_with fail
    go_roundw
    case rel=>exact⟨k+1,ag,by go_num,B7.out,Z7.out,by rw[S1.out,S2.out,S3.out,S4.out];exact Q7.out⟩
    case measure=>simp[intOf];omega
  ·have hkk:k=l.length:=ag
   subst hkk;have HB:=uH hb;clear hb;go_upto_region 14 with(fail);refine wp_region_lit ?_;refine grow q1 45 (.tmp 3) underlying45 (ay ?_)
   refine uR hz #[.i (fO qi l l.length),.i (fO ql l l.length),.i (fO qe l l.length),.i (fO qo l l.length)] 45 (.tmp 2) (.tmp 52) (ay ?_)
   have hz2:=hz.set #[.i (fO qi l l.length),.i (fO ql l l.length),.i (fO qe l l.length),.i (fO qo l l.length)];have HB2:=uH (HB.out.trans ((mY (F:=fun k=>k=W.heap.size) (aD.refl _ _) W.heap.size #[.i (fO qi l l.length),.i (fO ql l l.length),.i (fO qe l l.length),.i (fO qo l l.length)] (fun _=>rfl)).below HB.out.size (fun k e=>ag)));clear hz q1 HB;go_wp2_with fail;refine N7 W.heap.size hz2 underlying45 ?_;exact⟨rfl,HB2.out⟩
theorem dD.Dc {W:World} {tb mb wb:Nat} {vr vl:Value} {t:Tw} {ws:List Int} {tc:Int} (h:dD W tb mb wb vr vl t ws tc):∀ b,qD tb vr vl b->b < W.heap.size:=by
 rintro b (rfl | e | e)
 ·exact h.lt
 ·exact h.own.lt e
 ·exact h.last.lt e
theorem Em {W0 W:World} {p0 p:Mp} {m:Mc} {who:Nat} {k:Wk} {v:KV} {s:Sh} {t:Tw} {vr vl:Value} {b1 b2 b3 tb:Nat} (h:Mx W0 p0 W p m who k v s) (hk:k.st=2)
  (hl:qa W p.gb who (In W p.ow (8+who)) 173 v.work (ptr tb) 88 b1 b2 b3) (hg:dD W tb p.mb p.wb vr vl t s.ws s.tc) (hd:∀ b,qD tb vr vl b->uw (In W p.ow (8+who)) b1 b2 b3 b)
  (ok:pG m.cf t) (h9:t.rounds<=1000000) (hM:aA m.cf) (hwn:(who:Int) < m.cf.workers) (hlen:s.ws.length=sc m.cf (ns m.cf)) (ht:(s.tc:Int)<=4000000000000000000):
  Calls prog 173 #[ptr b1,ptr b2,ptr b3] W (bV W0 p0 m who (if (t.step s.ws).1.done=true then (K2 k (.stats (t.step s.ws).1)).finish m.cf who (counted (t.step s.ws).1.last) else K2 k (.stats (t.step s.ws).1)) (s.cells (s.ws,(t.step s.ws).2))):=by
 have hcf:=ok.cf;have hns:=hM.ns;have hst:=fun(w':World) (hb:Below W.heap.size W w')=>jY (hg.below hb) ⟨ag,ht⟩ (by rw[hcf];exact hM) (by rw[hcf];exact hlen) (by rw[hcf];exact ok) h9
 have hle:(t.step s.ws).1.done=true->(t.step s.ws).1.last.length=ns m.cf:=fun e=>((ok.step hM s.ws).last) ((ok.step hM s.ws).done e)
 have TF:RowKit.Hid (0 < ns m.cf/\ns m.cf<=16):=uH ⟨ag,ag⟩;have Sb:=uH hle;clear ok h9 hM hlen ht hcf hwn hg hns hle;obtain⟨r,hr⟩:∃ r,r=t.step s.ws:=⟨_,rfl⟩
 rw[<- hr]at hst Sb ⊢;clear hr;obtain⟨g2,n2⟩:=r;dsimp only at hst ⊢;have hcl:=hl;have c1:=cP tb (hcl.r1.cell 0);have c2:=cP p.gb (hcl.r2.cell 0);have c3:=cC who (hcl.r3.cell 0);clear hcl;have g5:=cP p.mb (h.az 5);have qh:=hst W.drew bY;have hdr:Below W.heap.size W W.drew:=bY;have H:=uH (h.below hdr);have hcl0:qa W.drew p.gb who (In W.drew p.ow (8+who)) 173 v.work (ptr tb) 88 b1 b2 b3:=hl.aK (G:=fun _=>False) (aD.aF hdr) (fun _ _ e=>e) (fun b hb=>hb.mono hdr.size);have HL:=uH hcl0;have hd0:∀ b,qD tb vr vl b->uw (In W.drew p.ow (8+who)) b1 b2 b3 b:=fun b hb=>(hd b hb).mono (fun b hb=>hb.mono hdr.size)
 have HD:=uH hd0;have HK:=uH hk;clear h hl hcl0 hd hd0 hst hk hdr
 by_cases hdn:g2.done=true
 focus
  rw[if_pos hdn];have HLEN:RowKit.Hid (g2.last.length=ns m.cf):=uH (Sb.out hdn);rw[hdn]at qh;have Fx:=uH hdn;clear hdn
 rotate_left
 focus
  rw[if_neg hdn];have hdf:g2.done=false:=by simpa using hdn
  rw[hdf]at qh;clear hdn hdf
 rotate_left
 all_goals
  go_enter func173,ntmps173
  go_wp2_with fail
  go_region_held3 (fun w'=>w'.cell? ⟨b1,0,none⟩=some (ptr tb)/\w'.cell? ⟨b2,0,none⟩=some (ptr p.gb)/\w'.cell? ⟨p.gb,5,none⟩=some (ptr p.mb)) (first | go_keep | exact⟨aI,aI,aI⟩)
   ((first
   | (go_at_call 83;refine qh.mono ?_;rintro e w5 ⟨rfl,WB,WC,jD,zu⟩;have eG:dD w5 tb p.mb p.wb WB WC g2 s.ws ((s.tc+n2:Nat):Int):=jD;have hor:=zu;have h5:=(H.out.mG (fun b hb=>(HD.out b hb).1) hor.2 eG.mem);have hcl:=H.out.nu HL.out HD.out hor.2;have hfp:=H.out.qj HL.out HD.out hor.2.size hor.1 eG.Dc;have d1:=cP tb (hcl.r1.cell 0);have d2:=cP p.gb (hcl.r2.cell 0);have d3:=cC who (hcl.r3.cell 0);have d5:=cP p.mb (h5.az 5))))
 ·have hlast:=HLEN.out;have FF:=(eG.below bY)
  have kG:=wZ FF Fx.out (by rw[hlast];exact TF.out.1) (by rw[hlast];have:=TF.out.2;omega);have hLd:=eG.laid;have hH:=(h5.same (k':=K2 k (.stats g2)) (v':=v) (fK k _ v)).below bY;have HH:=uH hH;have WE:=hcl.aK (L':=In w5.drew p.ow (8+who)) (G:=fun _=>False) (aD.aF bY) (fun _ _ e=>e) (fun b hb=>hb.mono (show w5.heap.size<=w5.drew.heap.size from Nat.le_refl _));have yB:=uH WE;have hco:=fun(w:World) (g:Nat) (h:mR w g g2.last) (hL:Laid w)=>BC w (some ⟨g,0,none⟩) g2.last.length g2.last (yI h (by rw[hlast];have:=TF.out.2;omega)) (by rw[hlast];have:=TF.out.2;omega) hL
  simp only[cO]at hco;have HCO:=uH hco;clear h5 hcl WE hfp eG hor qh hH hlast FF hco;go_wp2_with fail
  go_region_held3 (fun w'=>w'.cell? ⟨b1,0,none⟩=some (ptr tb)/\w'.cell? ⟨b2,0,none⟩=some (ptr p.gb)/\w'.cell? ⟨b3,0,none⟩=some (.i who)) (first | go_keep | exact⟨aI,aI,aI⟩)
   ((first
   | (go_at_call 84;refine kG.mono ?_;rintro e w6 ⟨g6,rfl,Yf,IB,hb6⟩;have hcl:=yB.out.aK (L':=In w6 p.ow (8+who)) (G:=fun _=>False) (aD.aF hb6) (fun _ _ e=>e) (fun b hb=>hb.mono hb6.size);have HC6:=uH hcl;have hL6:Laid w6:=HH.out.laid.stable (hb6.block 0 (HH.out.laid.lt aT));have h6:=HH.out.below hb6;have e1:=cP tb (hcl.r1.cell 0);have e2:=cP p.gb (hcl.r2.cell 0);have e3:=cC who (hcl.r3.cell 0);clear hcl)
   | (go_at_call 174;refine(HCO.out w6 g6 Yf hL6).mono ?_;rintro e w7 ⟨rfl,cB⟩;have hcl:=HC6.out.aK (L':=In w7 p.ow (8+who)) (G:=fun _=>False) (aD.aF cB) (fun _ _ e=>e) (fun b hb=>hb.mono cB.size);have HC7:=uH hcl;have h7:=h6.below cB;have q1:=cP tb (hcl.r1.cell 0);have q2:=cP p.gb (hcl.r2.cell 0);have q3:=cC who (hcl.r3.cell 0);clear hcl)
   | (go_at_call 88;refine(gU h7 (counted g2.last)).mono ?_;rintro e w9 ⟨rfl,v9,h9,a9,c9⟩;have hcl:=h7.QI c9 HC7.out;have z1:=cP tb (hcl.r1.cell 0);have z2:=cP p.gb (hcl.r2.cell 0);have z3:=cC who (hcl.r3.cell 0))))
  have H9:=uH h9;have A9:=uH a9;clear kG h9 a9 h7 c9 hcl h6;go_wp2_with fail
  first | go_end0 | refine bP ?_
  exact⟨rfl,p,v9,H9.out,A9.out⟩
 ·have H5:=uH (h5.same (k':=K2 k (.stats g2)) (v':=v) (fK k _ v));have A5:=uH (jN (v:=v) HK.out (show fZ w5 p.gb p.mb p.wb (In w5 p.ow (8+who)) who s.ws ((s.tc+n2:Nat):Int) m.cf (.stats g2) v.work from⟨b1,b2,b3,tb,WB,WC,hcl,eG,hfp⟩));clear h5 hcl hfp eG hor qh;go_wp2_with fail
  first | go_end0 | refine bP ?_
  exact⟨rfl,p,v,H5.out,A5.out⟩
def Mp.world (p:Mp) (W W':World) (wv:Value):Mp:={p with wv:=wv,ow:=fun b=>if W.heap.size<=b/\b < W'.heap.size then 5 else p.ow b}
section
variable {W0 W W':World} {p0 p:Mp} {m:Mc} {who:Nat} {k k':Wk} {v v':KV} {s s':Sh}
variable {wv:Value}
theorem dX {b:Nat} (hb:b < W.heap.size):(p.world W W' wv).ow b=p.ow b:=if_neg ag
theorem IK {b:Nat} (hb:W'.heap.size<=b):(p.world W W' wv).ow b=p.ow b:=if_neg ag
theorem IL {b:Nat} (h1:W.heap.size<=b) (h2:b < W'.heap.size):(p.world W W' wv).ow b=5:=if_pos ⟨h1,h2⟩
theorem Core.world {m:Mc} (h:Core W p m) {l:List Bool} {g b:Nat} (hw:aO.nV W' p.ob p.rb wv l g b) (hf:∀ k,Fp wv k->Fp p.wv k\/W.heap.size<=k) (hc:aD (aO.AA p.ob p.rb p.wv) W W'):
  Core W' (p.world W W' wv) {m with sh:={m.sh with ahead:=l,good:=g,bad:=b}}:=by
 have hn:∀ b,p.ow b≠5->¬ aO.AA p.ob p.rb p.wv b:=fun b h5 e=>h5 (h.lo b e)
 have hs:=hc.size;have l0:0 < W.heap.size:=h.laid.lt aT;have l2:2 < W.heap.size:=dN (h.tab 0 aT);have n0:¬ aO.AA p.ob p.rb p.wv 0:=hn 0 (by rw[h.l0.1];decide);have n2:¬ aO.AA p.ob p.rb p.wv 2:=hn 2 (by rw[h.l0.2];decide)
 refine⟨af.aK h.row hc (hn p.gb (by rw[h.lg];decide)),h.mem.stable (hc.block _ h.mem.lt.1 (hn _ (by rw[h.lm];decide))) (hc.block _ h.mem.lt.2 (hn _ (by rw[h.lw];decide))),af.aK h.JH hc (hn p.cb (by rw[h.lc];decide)),hw,
  h.evs.aK hc (fun b hb=>hn _ (by rw[h.le b hb];decide)),h.ks.stable (hc.block _ h.uU (hn _ (by rw[h.lk];decide))),h.k0,h.laid.stable (hc.block 0 l0 n0),h.tab.stable (hc.block 2 l2 n2),
  ⟨(dX l0).trans h.l0.1,(dX l2).trans h.l0.2⟩,(dX h.qp).trans h.lg,(dX h.mem.lt.1).trans h.lm,(dX h.mem.lt.2).trans h.lw,(dX h.Ot).trans h.lc,?_,
  fun b hb=>(dX (h.evs.lt hb)).trans (h.le b hb),(dX h.uU).trans h.lk⟩
 intro b hb;have hlt:=hw.lt hb
 by_cases hbs:b < W.heap.size
 ·refine(dX hbs).trans (h.lo b ?_)
  rcases hb with rfl | hb | hb
  ·exact .inl rfl
  ·exact .inr (.inl hb)
  ·rcases hf b hb with e | e
   ·exact .inr (.inr e)
   ·omega
 ·exact IL ag hlt
theorem Mx.world (h:Mx W0 p0 W p m who k v s) {l:List Bool} {g b:Nat} (hw:aO.nV W' p.ob p.rb wv l g b) (hf:∀ k,Fp wv k->Fp p.wv k\/W.heap.size<=k) (hc:aD (aO.AA p.ob p.rb p.wv) W W'):
  Mx W0 p0 W' (p.world W W' wv) m who k v {s with ahead:=l,good:=g,bad:=b}:=by
 have hs:=hc.size;have hn:∀ b,p.ow b≠5->¬ aO.AA p.ob p.rb p.wv b:=fun b h5 e=>h5 (h.core.lo b e)
 have hm:=h.mem;refine⟨h.core.world hw hf hc,fun i q hi hq=>?_,h.hw,fun b hb=>(IK hb).trans (h.fresh b ag),?_⟩
 ·refine bF.aK (h.jobs i q hi hq) hc (hn 0 (by rw[show p.ow 0=0 from h.core.l0.1];decide)) (fun b hb=>hn b (by rw[hb.2];omega)) ?_ (fun b hb=>⟨by have:=hb.1;omega,(dX hb.1).trans hb.2⟩);exact hm.stable (hc.block _ hm.lt.1 (hn _ (by rw[show p.ow p.mb=2 from h.core.lm];decide))) (hc.block _ hm.lt.2 (hn _ (by rw[show p.ow p.wb=3 from h.core.lw];decide)))
 ·exact h.kept.trans ⟨⟨rfl,rfl,rfl,rfl,rfl,rfl,rfl⟩,fun b hb=>dX hb,hc.mono (fun b _ e=>by rw[show p.ow b=5 from h.core.lo b e];decide)⟩
theorem Mx.rA (h:Mx W0 p0 W p m who k v s) (hs:W.heap.size<=W'.heap.size) {b l:Nat} (hb:In W p.ow l b):In W' (p.world W W' wv).ow l b:=⟨by have:=hb.1;omega,(dX hb.1).trans hb.2⟩
theorem Mx.wK (h:Mx W0 p0 W p m who k v s) (hc:aD (aO.AA p.ob p.rb p.wv) W W') {F:Nat} {u x:Value} {T:TypeId} {b1 b2 b3:Nat} (hl:qa W p.gb who (In W p.ow (8+who)) F u x T b1 b2 b3):qa W' p.gb who (In W' (p.world W W' wv).ow (8+who)) F u x T b1 b2 b3:=
 hl.aK hc (fun b hb e=>by have:=h.core.lo b e;have h5:p.ow b=5:=this;have:=hb.2;omega) (fun b hb=>h.rA hc.size hb)
end
theorem wJ (w:World) (wb rb:Nat) (v:Value) (l:List Bool) (g b:Nat) (h:aO.nV w wb rb v l g b) (hg:(g:Int)<=1000000) (hb:(b:Int)<=1000000):
  Calls prog 122 #[ptr wb] w (aO.Post w wb rb v (.bool (l.headD true)) l.tail (((if l.headD true then g+1 else g:Nat):Int)) (((if l.headD true then b else b+1:Nat):Int))):=by
 cases l with
 | nil=>exact aO.IM w wb rb v g b h ⟨ag,hg⟩
 | cons x l=>cases x with
  | true=>exact aO.IP w wb rb v l g b h ⟨ag,hg⟩
  | false=>exact aO.LM w wb rb v l g b h ⟨ag,hb⟩
theorem yD {W:World} {tb mb wb:Nat} {lo ro:Option Nat} {t:Tk.Tk} {ws:List Int} {tc:Int} (h:bz W tb mb wb lo ro t ws tc):Calls prog 121 #[ptr tb] W fun e W'=>e=.returned (.bool (decide (t.st=9)))/\W=W':=by
 have c6:=cC t.st (h.cell 6);clear h
 by_cases h9:t.st=9
 ·rw[h9]at c6 ⊢
  go_enter func121,ntmps121
  go_wp2_with fail;go_ret;exact⟨rfl,rfl⟩
 ·have hb:(((t.st:Nat):Int) == 9)=false:=by simpa using (by omega:¬ ((t.st:Nat):Int)=9)
  rw[decide_eq_false h9];clear h9;generalize ((t.st:Nat):Int)=z at *
  go_enter func121,ntmps121
  go_wp2_with fail;go_ret;exact⟨rfl,rfl⟩
theorem bz.Dc {W:World} {tb mb wb:Nat} {lo ro:Option Nat} {t:Tk.Tk} {ws:List Int} {tc:Int} (h:bz W tb mb wb lo ro t ws tc):∀ b,jo tb lo ro b->b < W.heap.size:=by
 rintro b (rfl | e | e)
 ·exact h.lt
 ·exact(h.la b e).2.2
 ·exact(h.ra b e).2.2
theorem bu.Dc {W:World} {tb mb wb:Nat} {lo ro:Option Nat} {t:Ty.Ty} {ws:List Int} {tc:Int} (h:bu W tb mb wb lo ro t ws tc):∀ b,jo tb lo ro b->b < W.heap.size:=by
 rintro b (rfl | e | e)
 ·exact h.lt
 ·exact(h.la b e).2.2
 ·exact(h.ra b e).2.2
theorem tu {W:World} {tb:Nat} {lo ro lo' ro':Option Nat} (h1:Grow W lo lo') (h2:Grow W ro ro'):∀ b,jo tb lo' ro' b->jo tb lo ro b\/W.heap.size<=b:=
 fun b hb=>Grow.fp (W1:=W) (tb:=tb) h1 h2 hb
def xR (k:Wk) (c:Cf) (who:Nat) (t:Tk.Tk):Wk:=
 if t.st≠15 then K2 k (.get t)
 else if t.answer.1=3 then (if k.ask.wait then {K2 k (.get t)with queue:=some (Qu.enter c who),st:=4} else {K2 k (.get t)with two:=some (Tw.new c),st:=3})
 else (K2 k (.get t)).finish c who {Mod.Ev.zero with e:=t.answer.1,slot:=t.answer.2.1,gen:=t.answer.2.2}
theorem Ov (k:Wk) (c:Cf) (who:Nat) (t:Tk.Tk) (s:Sh):k.gets c who t s=(xR k c who (t.step s.ws (decide (t.st=9) && s.outcome)).1,(if t.st=9 then s.next else s).cells (t.step s.ws (decide (t.st=9) && s.outcome)).2):=by
 unfold Wk.gets xR K2;dsimp only
 split
 ·rfl
 ·split
  ·split<;>rfl
  ·rfl
theorem KW {W0 W:World} {p0 p:Mp} {m:Mc} {who:Nat} {k:Wk} {v:KV} {s:Sh} {t:Tk.Tk} {lo ro:Option Nat} {b1 b2 b3 tb:Nat} (h:Mx W0 p0 W p m who k v s) (hk:k.st=2)
  (hl:qa W p.gb who (In W p.ow (8+who)) 120 v.work (ptr tb) 128 b1 b2 b3) (hg:bz W tb p.mb p.wb lo ro t s.ws s.tc) (hd:∀ b,jo tb lo ro b->uw (In W p.ow (8+who)) b1 b2 b3 b)
  (ok:dR t s.ws) (ht:(s.tc:Int)<=4000000000000000000) (hgd:(s.good:Int)<=1000000) (hbd:(s.bad:Int)<=1000000) (h9:¬ t.st=9):
  Calls prog 120 #[ptr b1,ptr b2,ptr b3] W (bV W0 p0 m who (xR k m.cf who (t.step s.ws false).1) (s.cells (t.step s.ws false).2)):=by
 obtain⟨hx0,hx1,hx2⟩:=idx h.hw;have hdl:=yD hg;have hstep:=fun(w':World) (hg:bz w' tb p.mb p.wb lo ro t s.ws s.tc)=>Cl.jY hg ok ⟨ag,ht⟩ false
 unfold rE jk at hstep;rw[decide_eq_false h9]at hdl;obtain⟨r,hr⟩:∃ r,r=t.step s.ws false:=⟨_,rfl⟩
 rw[<- hr]at hstep ⊢;clear hr;obtain⟨t2,jq,n2⟩:=r;dsimp only at hstep ⊢;have c1:=cP tb (hl.r1.cell 0);have c2:=cP p.gb (hl.r2.cell 0);have c3:=cC who (hl.r3.cell 0);have g5:=cP p.mb (h.az 5);have g7:=cP p.ob (h.az 7);have H:=uH h;have HL:=uH hl;have HD:=uH hd;have HK:=uH hk;have HG:=uH hg;clear h hl hd hk hg ok ht hgd hbd h9
 by_cases hdn:t2.st=15
 focus
  have xS:xR k m.cf who t2=(if t2.answer.1=3 then (if k.ask.wait then {K2 k (.get t2)with queue:=some (Qu.enter m.cf who),st:=4} else {K2 k (.get t2)with two:=some (Tw.new m.cf),st:=3}) else (K2 k (.get t2)).finish m.cf who {Mod.Ev.zero with e:=t2.answer.1,slot:=t2.answer.2.1,gen:=t2.answer.2.2}):=if_neg (fun e=>e hdn);rw[xS];clear xS;rw[decide_eq_true hdn]at hstep;clear hdn;obtain⟨a,ha⟩:∃ a,a=t2.answer:=⟨_,rfl⟩
  rw[<- ha];have HA:=uH ha.symm;clear ha;obtain⟨a1,a2,a3⟩:=a;dsimp only
  by_cases h3:a1=3
 focus
  subst h3;rw[if_pos rfl];cases hwt:k.ask.wait
 focus
  rw[if_neg aT];have KX:=uH hwt;clear hwt
 rotate_left
 focus
  rw[if_pos rfl];have KX:=uH hwt;clear hwt
 rotate_left
 focus
  rw[if_neg h3];have h3b:(a1 == 3)=false:=by simpa using h3
  clear h3
 rotate_left
 focus
  have xS:xR k m.cf who t2=K2 k (.get t2):=if_pos hdn;rw[xS];clear xS;rw[decide_eq_false hdn]at hstep;clear hdn
 rotate_left
 all_goals
  go_enter func120,ntmps120
  go_wp2_with fail;refine hdl.mono ?_;rintro e w4 ⟨rfl,rfl⟩;clear hdl;go_wp2_with fail;have h5:=H.out;have hl5:=HL.out;have hd5:=HD.out;have hg5:=HG.out;clear c1 c2 c3 g5 g7;have d1:=cP tb (hl5.r1.cell 0);have d2:=cP p.gb (hl5.r2.cell 0);have d3:=cC who (hl5.r3.cell 0);have d5:=cP p.mb (h5.az 5);have hst:=hstep W.drew (hg5.below bY);have hdr:Below W.heap.size W W.drew:=bY;have H5:=uH (h5.below hdr);have QL:=uH (hl5.aK (L':=In W.drew p.ow (8+who)) (G:=fun _=>False) (aD.aF hdr) (fun _ _ e=>e) (fun b hb=>hb.mono hdr.size));have hd6:∀ b,jo tb lo ro b->uw (In W.drew p.ow (8+who)) b1 b2 b3 b:=fun b hb=>(hd5 b hb).mono (fun b hb=>hb.mono hdr.size)
  have HD6:=uH hd6;clear h5 hl5 hd5 hd6 hg5 hdr;go_wp2_with fail
  go_region_held3 (fun w'=>w'.cell? ⟨b1,0,none⟩=some (ptr tb)/\w'.cell? ⟨b2,0,none⟩=some (ptr p.gb)/\w'.cell? ⟨p.gb,5,none⟩=some (ptr p.mb)) (first | go_keep | exact⟨aI,aI,aI⟩)
   ((first
   | (go_at_call 123;refine hst.mono ?_;rintro e w7 ⟨rfl,BF,BG,eG,xU,KY,nW⟩;have eG:bz w7 tb p.mb p.wb BF BG t2 jq ((s.tc+n2:Nat):Int):=eG;have h7:=H5.out.mG (fun b hb=>(HD6.out b hb).1) nW eG.mem;have hcl:=H5.out.nu QL.out HD6.out nW;have hfp:=H5.out.qj QL.out HD6.out nW.size (tu xU KY) (bz.Dc eG);have e1:=cP tb (hcl.r1.cell 0);have e2:=cP p.gb (hcl.r2.cell 0);have e3:=cC who (hcl.r3.cell 0);have e5:=cP p.mb (h7.az 5))))
  have h8:=h7.same (k':=K2 k (.get t2)) (v':=v) (fK k _ v);clear h7 hst d1 d2 d3 d5
 rotate_left;rotate_left;rotate_left
 ·have H8:=uH h8;have A8:=uH (jN (v:=v) HK.out (show fZ w7 p.gb p.mb p.wb (In w7 p.ow (8+who)) who jq ((s.tc+n2:Nat):Int) m.cf (.get t2) v.work from⟨b1,b2,b3,tb,BF,BG,hcl,eG,hfp⟩));clear h8 hcl hfp eG nW;go_wp2_with fail
  first | go_end0 | refine bP ?_
  exact⟨rfl,_,v,H8.out,A8.out⟩
 all_goals
  have kG:=qw eG;rw[HA.out]at kG;dsimp only at kG;have H8:=uH h8;have yB:=uH hcl;clear h8 hcl hfp eG nW;go_wp2_with fail;refine kG.mono ?_;rintro e w8 ⟨rfl,cZ⟩;have rF:Below w8.heap.size w8 w8.drew:=bY;have h9:=(H8.out.below cZ).below rF;have hcl:=(yB.out.aK (L':=In w8 p.ow (8+who)) (G:=fun _=>False) (aD.aF cZ) (fun _ _ e=>e) (fun b hb=>hb.mono cZ.size))
  have q1:=cP tb (hcl.r1.cell 0);have q2:=cP p.gb (hcl.r2.cell 0);have q3:=cC who (hcl.r3.cell 0);have q9:=cV (.slice (some ⟨p.kb,0,none⟩) m.ks.length m.ks.length) (h9.az 9);have k3:=cV (.bool k.ask.wait) (h9.aL 3 rfl)
 focus
  rw[KX.out]at k3;have H9:=uH h9;clear kG cZ hcl h9 e1 e2 e3 e5 rF H8 yB;go_wp2_with fail;go_region;have hca:=sW H9.out
 rotate_left
 focus
  rw[KX.out]at k3;have H9:=uH h9;clear kG cZ hcl h9 e1 e2 e3 e5 rF H8 yB;go_wp2_with fail;go_region;have hca:=wF H9.out
 rotate_left
 focus
  have H9:=uH h9;clear kG cZ hcl h9 e1 e2 e3 e5 rF H8 yB;go_wp2_with fail;go_region;have hca:=gU H9.out {Mod.Ev.zero with e:=a1,slot:=a2,gen:=a3}
 rotate_left
 all_goals
  clear H9;go_wp2_with fail;refine hca.mono ?_;rintro e w9 ⟨rfl,v9,h9,a9,-⟩;have H9:=uH h9;have A9:=uH a9;clear hca h9 a9;go_wp2_with fail
  first | go_end0 | refine bP ?_
  exact⟨rfl,_,v9,H9.out,A9.out⟩
end Mc
end Go.Proofs.YtbklamnimfmjkaaGreatDoor
