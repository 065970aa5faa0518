/- Part 8 of the walks and plain laws that the last text joins. -/
import Derived.Test.YtbklamnimfmjkaaGreatDoorKB6
set_option maxRecDepth 100000
set_option maxHeartbeats 16000000
set_option linter.all false
open Go.Proofs.Tryz
namespace Go.Proofs.YtbklamnimfmjkaaGreatDoor
namespace Cl
open Go.RowKit Hp ah aj
theorem Bj {w:World} {a:Option Addr} {c:Nat} {l:List Int} (h:SliceAt w (.slice a l.length c) (l.map (Value.int .i64))) {k:Nat} (hk:k < l.length):
  ∃ g off,a=some ⟨g,off,none⟩/\w.cell? ⟨g,off+k,none⟩=some (.i l[k]):=by
 obtain⟨a',c',he,h1,h2⟩:=h
 injection he with e1 e2 e3
 subst e1
 rcases h2 with h2 | ⟨g,off,rfl,h3⟩
 ·have hz:l=[]:=by
   cases l
   ·rfl
   ·simp at h2
  subst hz;simp at hk
 ·exact⟨g,off,rfl,h3 k _ (by rw[List.getElem?_map,List.getElem?_eq_getElem hk];rfl)⟩
theorem N9 (x:Int):∀ l:List Int,Ty.lw (l ++ [x])=Ty.lw l+(x+1) * 16 ^ l.length:=by
 intro l
 induction l with
 | nil=>simp[Ty.lw]
 | cons y l ih=>
  simp only[List.cons_append,Ty.lw,ih,List.length_cons];rw[Int.pow_succ,Int.mul_add,<- Int.mul_assoc,Int.mul_comm 16 (x+1),Int.mul_assoc,Int.mul_comm 16 (16 ^ l.length)];omega
theorem Bl:∀ l:List Int,(∀ x ∈ l,0<=x/\x<=14)->0<=Ty.lw l/\Ty.lw l < 16 ^ l.length:=by
 intro l
 induction l with
 | nil=>intro _;simp[Ty.lw]
 | cons y l ih=>
  intro h;have hy:=h y au;have hl:=ih fun x hx=>h x (by simp[hx])
  simp only[Ty.lw,List.length_cons];rw[Int.pow_succ];omega
theorem GK {k:Nat} (h:k<=8):1<=(16:Int) ^ k/\(16:Int) ^ k<=4294967296:=by
 have hc:k=0\/k=1\/k=2\/k=3\/k=4\/k=5\/k=6\/k=7\/k=8:=ag
 rcases hc with rfl | rfl | rfl | rfl | rfl | rfl | rfl | rfl | rfl<;>decide
end Cl
namespace Cl
open Go.RowKit Hp Slot ah ai
theorem pX {P:Program} {ops:Array Oper} {Q:Exit->Act->World->Prop} {rest:List Oper} {o:Oper} {a:Act} {w:World} (F:Nat) (args:Array Operand) (ats:Array TypeId) (vals:Array Value) (hE:∀ args w,(callFunc F args).run P w=.ok (.enter F args) w)
  (h:Calls P F vals w fun e w'=>∃ v,e=.returned v/\wpList P ops Q rest (a.put o.dst v) w')
  (ho:o.op=Op.call {callee:=Callee.value (Operand.func F),args:=args,argTypes:=ats}:=by kernel_rfl) (hv:args.map a.eval=vals:=by kernel_rfl) (hw:Region.wanted o (yielded ops a.tmps)=true:=by kernel_rfl):wpList P ops Q (o :: rest) a w:=by
 unfold wpList;rw[if_pos hw];refine .inl ?_
 have hx:(execOp a.eval o).run P w=.ok (.enter F vals) w:=by
  unfold execOp;simp only[ho,resolve];simp[go_sem,hv,hE,Act.eval,invoke,Deferred.ofValue]
 unfold Oper.wp;rw[hx,Oper.upon_enter];refine h.mono ?_;rintro e w' ⟨v,rfl,hk⟩;exact hk
end Cl
namespace Mc
open Go.RowKit Hp Slot ah ai Tk
def K7:Nat->Int->List Int
  | 0,_=>[]
  | n+1,q=>if 0 < q then (q % 16 - 1) :: K7 n (q / 16) else []
def Br (q:Int):List Int:=K7 16 q
def JG (q w:Int):Bool:=(Br q).any fun x=>x == w
def nH (q w:Int):Int:=q+(w+1) * 16 ^ (Br q).length
def nI (q w:Int):Int:=Ty.lw ((Br q).filter fun x=>x != w)
structure Qu where
  cf:aj.Cf
  w:Int
  line:Int
  first:Int
  st:Nat
  why:Int
  e:Int
def Qu.enter (c:aj.Cf) (w:Int):Qu:=⟨c,w,0,0,0,0,0⟩
def Qu.leave (c:aj.Cf) (w:Int):Qu:=⟨c,w,0,0,3,4,0⟩
def Qu.drain (c:aj.Cf):Qu:=⟨c,0,0,0,5,0,0⟩
def Qu.finish (q:Qu) (e:Int):Qu:={q with e:=e,st:=8}
def Qu.step (q:Qu) (ws:List Int):Qu×List Int×Nat:=
  match q.st with
  | 0=>if q.cf.waiters<=((Br (rd ws 1)).length:Int)\/JG (rd ws 1) q.w=true then ({q with line:=rd ws 1}.finish 7,ws,1) else ({q with line:=rd ws 1,st:=1},ws,1)
  | 1=>let r:=dF ws 1 q.line (nH q.line q.w)
    if r.1 then ({q with st:=2},r.2,1) else ({q with st:=0},r.2,1)
  | 2=>if rd ws 0=0 then (q.finish 0,ws,1) else ({q with why:=5,st:=3},ws,1)
  | 3=>if JG (rd ws 1) q.w=true then ({q with line:=rd ws 1,st:=4},ws,1) else ({q with line:=rd ws 1}.finish 8,ws,1)
  | 4=>let r:=dF ws 1 q.line (nI q.line q.w)
    if r.1 then (q.finish q.why,r.2,1) else ({q with st:=3},r.2,1)
  | 5=>if 0 < rd ws 1 then ({q with line:=rd ws 1,first:=rd ws 1 % 16 - 1,st:=6},ws,1) else ({q with line:=rd ws 1}.finish 0,ws,1)
  | 6=>let r:=dF ws 1 q.line (q.line / 16)
    if r.1 then ({q with st:=7},r.2,1) else ({q with st:=5},r.2,1)
  | 7=>({q with st:=5},ws.set (Ty.gc q.cf q.first.toNat) (-1),1)
  | _=>(q,ws,0)
structure Gi where
  cf:aj.Cf
  w:Int
  i:Int
  gen:Int
  discard:Bool
  st:Nat
  closed:Int
  word:Int
  rt:Option Rt
  e:Int
def Gi.new (c:aj.Cf) (w i gen:Int) (discard:Bool):Gi:=⟨c,w,i,gen,discard,0,0,0,none,0⟩
def Gi.finish (g:Gi) (e:Int):Gi:={g with e:=e,st:=4}
def Gi.ret (g:Gi):Rt:=g.rt.getD (Rt.new 0 0)
def Gi.gQ (g:Gi) (s:S):Bool:=g.discard || s.broken || decide (g.cf.uses<=s.uses) || decide (g.closed≠0)
def owns (s:S) (w gen:Int):Bool:=s.state == 3 && s.own == w && s.gen == gen
def bW (c:aj.Cf) (i:Int):Bool:=decide (0<=i/\i < c.slots)
def Gi.step (g:Gi) (ws:List Int):Gi×List Int×Nat:=
  match g.st with
  | 0=>if rd ws 0=2 then ({g with closed:=rd ws 0}.finish 5,ws,1) else ({g with closed:=rd ws 0,st:=1},ws,1)
  | 1=>if bW g.cf g.i then
      (match dec (rd ws (sc g.cf g.i.toNat))with
      | none=>({g with word:=rd ws (sc g.cf g.i.toNat)}.finish 2,ws,1)
      | some s=>
        if !owns s g.w g.gen then ({g with word:=rd ws (sc g.cf g.i.toNat)}.finish 2,ws,1)
        else if s.streams≠0/\g.discard=false then ({g with word:=rd ws (sc g.cf g.i.toNat)}.finish 8,ws,1)
        else if g.gQ s then ({g with word:=rd ws (sc g.cf g.i.toNat),rt:=some (Rt.new (sc g.cf g.i.toNat) (rd ws (sc g.cf g.i.toNat))),st:=3},ws,1)
        else ({g with word:=rd ws (sc g.cf g.i.toNat),st:=2},ws,1))
    else (g.finish 2,ws,0)
  | 2=>(match bn g.word 4 g.w 0 with
      | none=>({g with st:=1},ws,0)
      | some nw=>let r:=dF ws (sc g.cf g.i.toNat) g.word nw
        if r.1 then (g.finish 0,r.2,1) else ({g with st:=1},r.2,1))
  | 3=>let r:=g.ret.step ws
    if r.1 then (if r.2.1.swapped then ({g with rt:=some r.2.1}.finish 0,r.2.2) else ({g with rt:=some r.2.1,st:=1},r.2.2)) else ({g with rt:=some r.2.1},r.2.2)
  | _=>(g,ws,0)
structure Sm where
  cf:aj.Cf
  w:Int
  i:Int
  gen:Int
  st:Nat
  word:Int
  next:Int
  stream:Int
  opens:Bool
  num:Int
  e:Int
def Sm.open' (c:aj.Cf) (w i gen:Int):Sm:=⟨c,w,i,gen,0,0,0,0,true,0,0⟩
def Sm.shut (c:aj.Cf) (w i gen num:Int):Sm:=⟨c,w,i,gen,0,0,0,0,false,num,0⟩
def Sm.finish (s:Sm) (e:Int):Sm:={s with e:=e,st:=3}
def Sm.becomes (x:Sm) (s:S):S ⊕ Int:=
  if x.opens then (if s.broken then .inr 9 else match bC s 14 x.w x.cf.streams with | some t=>.inl t | none=>.inr 10)
  else match bC s 15 x.w x.num with | some t=>.inl t | none=>.inr 11
def Sm.which (x:Sm) (s:S):Int:=if x.opens then (match Mod.dQ s.streams x.cf.streams with | some k=>(k:Int) | none=>0) else x.num
def Sm.step (x:Sm) (ws:List Int):Sm×List Int×Nat:=
  match x.st with
  | 0=>if rd ws 0=2 then (x.finish 5,ws,1) else ({x with st:=1},ws,1)
  | 1=>if bW x.cf x.i then
      (match dec (rd ws (sc x.cf x.i.toNat))with
      | none=>({x with word:=rd ws (sc x.cf x.i.toNat)}.finish 2,ws,1)
      | some s=>
        if !owns s x.w x.gen then ({x with word:=rd ws (sc x.cf x.i.toNat)}.finish 2,ws,1)
        else match x.becomes s with
          | .inr e=>({x with word:=rd ws (sc x.cf x.i.toNat)}.finish e,ws,1)
          | .inl t=>({x with word:=rd ws (sc x.cf x.i.toNat),next:=t.word,stream:=x.which s,st:=2},ws,1))
    else (x.finish 2,ws,0)
  | 2=>let r:=dF ws (sc x.cf x.i.toNat) x.word x.next
    if r.1 then (x.finish 0,r.2,1) else ({x with st:=1},r.2,1)
  | _=>(x,ws,0)
def Sm.answer (x:Sm):Int×Int:=if x.e=0 then (0,x.stream) else (x.e,0)
structure Tw where
  cf:aj.Cf
  round:List Int
  last:List Int
  rounds:Nat
  done:Bool
def Tw.new (c:aj.Cf):Tw:=⟨c,[],[],0,false⟩
def Tw.step (t:Tw) (ws:List Int):Tw×Nat:=
  if t.done then (t,0)
  else
    let r:=t.round ++ [rd ws (sc t.cf t.round.length)]
    if r.length < ns t.cf then ({t with round:=r},1)
    else ({t with round:=[],last:=r,rounds:=t.rounds+1,done:=decide (0 < t.rounds) && (r == t.last)},1)
structure Rp where
  st:Nat
  many:Int
  look:Tk.Fd
  rt:Option Rt
def Rp.new (w:Int):Rp:=⟨0,0,Tk.Fd.new 6 w,none⟩
def Rp.ret (r:Rp):Rt:=r.rt.getD (Rt.new 0 0)
def Rp.kC (r:Rp):Rp:={r with look:=r.look.go,st:=0}
inductive Az where
  | get (t:Tk)
  | give (g:Gi)
  | stream (s:Sm)
  | close (force:Bool) (drain:Option Qu)
  | stats (t:Tw)
  | bO (r:Rp)
structure Wk where
  st:Nat
  ask:Mod.Ask
  half:Bool
  word:Int
  grant:Int
  bq:Option Az
  two:Option Tw
  queue:Option Qu
  tidy:Option Ty.Ty
  dO:Bool
  dA:Bool
  ans:Mod.Ev
def Wk.zero:Wk:=⟨0,Mod.Ask.zero,false,0,0,none,none,none,none,false,false,Mod.Ev.zero⟩
structure Sh where
  ws:List Int
  tc:Nat
  now:Int
  ahead:List Bool
  good:Nat
  bad:Nat
structure Mc where
  cf:aj.Cf
  sh:Sh
  evs:List Mod.Ev
  ks:List Wk
  entries:Nat
  at':Nat
def Mc.new (c:aj.Cf):Mc:=⟨c,⟨List.replicate (sc c (ns c)) 0,0,0,[],0,0⟩,[],List.replicate c.workers.toNat Wk.zero,0,0⟩
def Sh.cells (s:Sh) (r:List Int×Nat):Sh:={s with ws:=r.1,tc:=s.tc+r.2}
def Sh.outcome (s:Sh):Bool:=s.ahead.headD true
def Sh.next (s:Sh):Sh:={s with ahead:=s.ahead.tail,good:=if s.ahead.headD true then s.good+1 else s.good,bad:=if s.ahead.headD true then s.bad else s.bad+1}
def Wk.aR (k:Wk) (c:aj.Cf) (who:Nat) (dO:Bool):Wk:={k with tidy:=some (Ty.Ty.new c who),dO:=dO,st:=5}
def Wk.finish (k:Wk) (c:aj.Cf) (who:Nat) (x:Mod.Ev):Wk:={k with ans:=x}.aR c who false
def Wk.begin (k:Wk) (c:aj.Cf) (who:Nat):Az:=
  if k.ask.op=0 then (if 0 < k.grant then .get (Tk.granted c who (k.grant - 1).toNat) else .get (Tk.new c who))
  else if k.ask.op=1 then .give (Gi.new c who k.ask.slot k.ask.gen false)
  else if k.ask.op=2 then .give (Gi.new c who k.ask.slot k.ask.gen true)
  else if k.ask.op=3 then .stream (Sm.open' c who k.ask.slot k.ask.gen)
  else if k.ask.op=4 then .stream (Sm.shut c who k.ask.slot k.ask.gen k.ask.stream)
  else if k.ask.op=5 then .bO (Rp.new who)
  else if k.ask.op=6 then .close k.ask.force none
  else .stats (Tw.new c)
def counted (l:List Int):Mod.Ev:=
  let n:=fun(p:Int->Bool)=>((l.filter fun w=>match dec w with | some s=>p s.state | none=>p 0).length:Int)
  {Mod.Ev.zero with idle:=n (· == 2),eu:=n (· == 3),empty:=n (· == 0),other:=n fun x=>!(x == 0 || x == 2 || x == 3)}
def Wk.gets (k:Wk) (c:aj.Cf) (who:Nat) (t:Tk) (s:Sh):Wk×Sh:=
  let s1:=if t.st=9 then s.next else s
  let g:=decide (t.st=9) && s.outcome
  let r:=t.step s.ws g
  let s2:=s1.cells r.2
  let k1:Wk:={k with bq:=some (.get r.1)}
  if r.1.st≠15 then (k1,s2)
  else if r.1.answer.1=3 then (if k.ask.wait then ({k1 with queue:=some (Qu.enter c who),st:=4},s2) else ({k1 with two:=some (Tw.new c),st:=3},s2))
  else (k1.finish c who {Mod.Ev.zero with e:=r.1.answer.1,slot:=r.1.answer.2.1,gen:=r.1.answer.2.2},s2)
def Wk.iH (k:Wk) (c:aj.Cf) (who:Nat) (r:Rp) (s:Sh):Wk×Sh:=
  match r.st with
  | 0=>let f:=r.look.step c s.ws
    let r1:Rp:={r with look:=f.2.1}
    let s1:=s.cells (s.ws,f.2.2)
    if f.2.1.found then ({k with bq:=some (.bO {r1 with st:=1})},s1)
    else if f.1 then ({k with bq:=some (.bO r1)}.finish c who {Mod.Ev.zero with slot:=r.many},s1)
    else ({k with bq:=some (.bO r1)},s1)
  | 1=>let ok:=match dec r.look.word with | some x=>s.outcome && !x.marked && !x.broken | none=>s.outcome
    if ok then ({k with bq:=some (.bO {r with st:=2})},s.next)
    else ({k with bq:=some (.bO {r with rt:=some (Rt.new (sc c r.look.at') r.look.word),st:=3})},s.next)
  | 2=>let s1:=match bn r.look.word 10 who 0 with
      | some nw=>s.cells ((dF s.ws (sc c r.look.at') r.look.word nw).2,1)
      | none=>s
    ({k with bq:=some (.bO r.kC)},s1)
  | 3=>let x:=r.ret.step s.ws
    let s1:=s.cells x.2.2
    let r1:Rp:={r with rt:=some x.2.1}
    if x.1 then ({k with bq:=some (.bO {(if x.2.1.swapped then {r1 with many:=wrap64 (r1.many+1)} else r1).kC with})},s1)
    else ({k with bq:=some (.bO r1)},s1)
  | _=>(k,s)
def Wk.works (k:Wk) (c:aj.Cf) (who:Nat) (s:Sh):Wk×Sh:=
  match k.bq with
  | some (.get t)=>k.gets c who t s
  | some (.give g)=>let r:=g.step s.ws
    let k1:Wk:={k with bq:=some (.give r.1)}
    if r.1.st=4 then (k1.finish c who {Mod.Ev.zero with e:=r.1.e},s.cells r.2) else (k1,s.cells r.2)
  | some (.stream x)=>let r:=x.step s.ws
    let k1:Wk:={k with bq:=some (.stream r.1)}
    if r.1.st=3 then (k1.finish c who {Mod.Ev.zero with e:=r.1.answer.1,stream:=r.1.answer.2},s.cells r.2) else (k1,s.cells r.2)
  | some (.close force none)=>
    ({k with bq:=some (.close force (some (Qu.drain c)))},s.cells (if force then s.ws.set 0 2 else (dF s.ws 0 0 1).2,1))
  | some (.close force (some q))=>let r:=q.step s.ws
    let k1:Wk:={k with bq:=some (.close force (some r.1))}
    if r.1.st=8 then (k1.finish c who Mod.Ev.zero,s.cells r.2) else (k1,s.cells r.2)
  | some (.stats t)=>let r:=t.step s.ws
    let k1:Wk:={k with bq:=some (.stats r.1)}
    if r.1.done then (k1.finish c who (counted r.1.last),s.cells (s.ws,r.2)) else (k1,s.cells (s.ws,r.2))
  | some (.bO r)=>k.iH c who r s
  | none=>(k,s)
def granted (c:aj.Cf) (who:Nat) (s:Sh):Int:=rd s.ws (Ty.gc c who)
def Wk.wakes (k:Wk) (c:aj.Cf) (who:Nat) (s:Sh):Wk×Sh:=
  if k.half then
    (if k.word < 0 then ({k with half:=false}.finish c who {Mod.Ev.zero with e:=5},s.cells (s.ws.set (Ty.gc c who) 0,1))
     else ({k with half:=false,grant:=k.word,st:=1},s.cells (s.ws.set (Ty.gc c who) 0,1)))
  else ({k with word:=granted c who s,half:=true},s.cells (s.ws,1))
def Wk.leaves (k:Wk) (c:aj.Cf) (who:Nat) (q:Qu) (s:Sh):Wk×Sh:=
  let r:=q.step s.ws
  let k1:Wk:={k with queue:=some r.1}
  if r.1.st≠8 then (k1,s.cells r.2)
  else if r.1.e=8 then ({k1 with dA:=false,st:=6},s.cells r.2)
  else (k1.finish c who {Mod.Ev.zero with e:=r.1.e},s.cells r.2)
def Wk.step (k:Wk) (c:aj.Cf) (who:Nat) (at':Nat) (s:Sh):Wk×Sh×Option Mod.Ev:=
  match k.st with
  | 1=>if k.half then ({k with half:=false,bq:=some (k.begin c who),st:=2},s.cells (s.ws.set (Ty.pc who) (wrap64 (k.word+1)),1),none)
    else ({k with word:=rd s.ws 2,half:=true},s.cells (s.ws,1),none)
  | 2=>let r:=k.works c who s
    (r.1,r.2,none)
  | 3=>match k.two with
    | some t=>let r:=t.step s.ws
      let k1:Wk:={k with two:=some r.1}
      if !r.1.done then (k1,s.cells (s.ws,r.2),none)
      else if r.1.last.any (fun w=>eF w 3 who) then ({k1 with bq:=some (.get (Tk.new c who)),st:=2},s.cells (s.ws,r.2),none)
      else (k1.finish c who {Mod.Ev.zero with e:=3},s.cells (s.ws,r.2),none)
    | none=>(k,s,none)
  | 4=>match k.queue with
    | some q=>let r:=q.step s.ws
      let k1:Wk:={k with queue:=some r.1}
      if r.1.st≠8 then (k1,s.cells r.2,none)
      else if r.1.e≠0/\r.1.e≠8 then (k1.finish c who {Mod.Ev.zero with e:=r.1.e},s.cells r.2,none)
      else ({k1 with dA:=decide (r.1.e=0)}.aR c who true,s.cells r.2,none)
    | none=>(k,s,none)
  | 5=>match k.tidy with
    | some t=>let r:=t.step s.ws
      let k1:Wk:={k with tidy:=some r.1}
      if r.1.st≠17 then (k1,s.cells r.2,none)
      else if k.dO then ({k1 with st:=6},s.cells r.2,none)
      else ({k1 with st:=0},s.cells r.2,some {k.ans with ended:=true,who:=who,at':=at',ask:=k.ask})
    | none=>(k,s,none)
  | 6=>if granted c who s≠0 then (let r:={k with st:=7}.wakes c who s;(r.1,r.2,none))
    else (let r:={k with queue:=some (Qu.leave c who),st:=8}.leaves c who (Qu.leave c who) s;(r.1,r.2,none))
  | 7=>let r:=k.wakes c who s
    (r.1,r.2,none)
  | 8=>match k.queue with
    | some q=>let r:=k.leaves c who q s
      (r.1,r.2,none)
    | none=>(k,s,none)
  | _=>(k,s,none)
def Wk.may (k:Wk) (c:aj.Cf) (who:Nat) (s:Sh):Bool:=
  if k.st=0 then false else if k.st=6 then decide (granted c who s≠0) || k.dA && decide (k.ask.deadline<=s.now) else true
def Mc.has (m:Mc) (who:Int):Bool:=decide (0<=who/\who < m.ks.length)
def Mc.worker (m:Mc) (who:Int):Wk:=m.ks[who.toNat]?.getD Wk.zero
def Mc.state (m:Mc) (who:Int):Int:=if m.has who then (m.worker who).st else -1
def Mc.invoke (m:Mc) (who:Int) (a:Mod.Ask):Bool×Mc:=
  if m.has who && decide ((m.worker who).st=0) && decide (m.evs.length < 1999) && decide (0<=a.op/\a.op < 8) then
    (true,{m with evs:=m.evs ++ [{Mod.Ev.zero with who:=who,at':=m.at',ask:=a}],ks:=m.ks.set who.toNat {Wk.zero with st:=1,ask:=a}})
  else (false,m)
def Mc.pick (m:Mc) (who:Int):Bool×Mc:=
  if m.has who && (m.worker who).may m.cf who.toNat m.sh then
    (let r:=(m.worker who).step m.cf who.toNat m.at' m.sh
     (true,{m with ks:=m.ks.set who.toNat r.1,sh:=r.2.1,evs:=m.evs ++ r.2.2.toList}))
  else (false,m)
def Mc.break' (m:Mc) (i:Int):Bool×Mc:=
  if bW m.cf i then
    (match bn (rd m.sh.ws (sc m.cf i.toNat)) 13 0 0 with
     | some nw=>(true,{m with sh:=m.sh.cells (m.sh.ws.set (sc m.cf i.toNat) nw,2)})
     | none=>(false,{m with sh:=m.sh.cells (m.sh.ws,1)}))
  else (false,m)
structure En where
  kind:Int
  who:Int
  ask:Mod.Ask
  n:Int
  good:Bool
def tick (now n:Int):Int:=min (now+max n 0) 1099511627776
def Mc.does (m:Mc) (x:En):Bool×Mc:=
  if x.kind=0 then m.invoke x.who x.ask
  else if x.kind=1 then m.pick x.who
  else if x.kind=2 then (true,{m with sh:={m.sh with now:=tick m.sh.now x.n}})
  else if x.kind=3 then (decide (m.sh.ahead.length < 1000),if m.sh.ahead.length < 1000 then {m with sh:={m.sh with ahead:=m.sh.ahead ++ [x.good]}} else m)
  else if x.kind=4 then m.break' x.ask.slot
  else (false,m)
def Mc.lG (m:Mc) (x:En):Bool×Mc:={m with at':=m.entries,entries:=m.entries+1}.does x
theorem OO:∀ (L:List Int) (n:Nat),L.length<=n->(∀ x ∈ L,0<=x/\x<=14)->K7 n (Ty.lw L)=L:=by
 intro L
 induction L with
 | nil=>
  intro n hn h
  cases n with
  | zero=>rfl
  | succ n=>simp[K7,Ty.lw]
 | cons x L ih=>
  intro n hn h;have hx:=h x au;have h0:0<=Ty.lw L:=Ty.jX fun y hy=>(h y (by simp[hy])).1
  cases n with
  | zero=>simp at hn
  | succ n=>
   have e1:Ty.lw (x :: L) % 16=x+1:=by simp only[Ty.lw];omega
   have e2:Ty.lw (x :: L) / 16=Ty.lw L:=by simp only[Ty.lw];omega
   have e3:0 < Ty.lw (x :: L):=by simp only[Ty.lw];omega
   unfold K7;rw[if_pos e3,e1,e2,ih n (by simpa using hn) (fun y hy=>h y (by simp[hy]))];simp
structure aA (c:aj.Cf):Prop where
 w:1<=c.workers/\c.workers<=8
 s:1<=c.slots/\c.slots<=16
 wa:0<=c.waiters/\c.waiters<=8
 st:0<=c.streams/\c.streams<=8
 us:1<=c.uses/\c.uses<=60
structure bA (c:aj.Cf) (q:Int) (L:List Int):Prop where
 q:q=Ty.lw L
 nd:L.Nodup
 x:∀ x ∈ L,0<=x/\x < c.workers
 len:(L.length:Int)<=c.waiters
section
variable {c:aj.Cf} {q w:Int} {L:List Int}
theorem bA.nil (hc:aA c):bA c 0 []:=⟨rfl,List.nodup_nil,au,hc.wa.1⟩
theorem bA.JF (h:bA c q L) (hc:aA c):∀ x ∈ L,0<=x/\x<=14:=fun x hx=>by have:=h.x x hx;have:=hc.w;omega
theorem bA.len8 (h:bA c q L) (hc:aA c):L.length<=8:=by have:=h.len;have:=hc.wa;omega
theorem bA.Br (h:bA c q L) (hc:aA c):Br q=L:=by
 rw[h.q];exact OO L 16 (by have:=h.len8 hc;omega) (h.JF hc)
theorem bA.JG (h:bA c q L) (hc:aA c) (w:Int):JG q w=decide (w ∈ L):=by
 unfold Mc.JG;rw[h.Br hc,Bool.eq_iff_iff];simp
theorem bA.push (h:bA c q L) (hc:aA c) (hw:0<=w/\w < c.workers) (hn:w ∉ L) (hl:(L.length:Int) < c.waiters):bA c (nH q w) (L ++ [w]):=by
 refine⟨?_,?_,?_,by simp;omega⟩
 ·unfold nH;rw[h.Br hc,Cl.N9,h.q]
 ·exact List.nodup_append.2 ⟨h.nd,au,fun a ha b hb=>by simp at hb;subst hb;exact fun e=>hn (e ▸ ha)⟩
 ·intro x hx
  rcases List.mem_append.1 hx with hx | hx
  ·exact h.x x hx
  ·simp at hx;subst hx;exact hw
theorem bA.drop (h:bA c q L) (hc:aA c) (w:Int):bA c (nI q w) (L.filter fun x=>x != w):=by
 refine⟨by unfold nI;rw[h.Br hc],h.nd.filter _,fun x hx=>h.x x (List.mem_filter.1 hx).1,?_⟩;have:=List.length_filter_le (fun x=>x != w) L;have:=h.len;omega
theorem bA.pop (h:bA c q L) (hc:aA c):bA c (q / 16) L.tail:=by
 cases L with
 | nil=>exact⟨by rw[h.q];rfl,List.nodup_nil,au,h.len⟩
 | cons x L=>
  have hx:=h.JF hc x au;have hl:=h.len;refine⟨?_,(List.nodup_cons.1 h.nd).2,fun y hy=>h.x y (by simp at hy;simp[hy]),by simp at hl ⊢;omega⟩;rw[h.q];simp only[Ty.lw,List.tail_cons];omega
theorem bA.pos (h:bA c q L) (hc:aA c):0 < q↔L≠[]:=by
 cases L with
 | nil=>rw[h.q];simp[Ty.lw]
 | cons x L=>
  have hx:=h.x x au;have h0:0<=Ty.lw L:=Ty.jX fun y hy=>(h.x y (by simp[hy])).1
  rw[h.q];simp only[Ty.lw,ne_eq,reduceCtorEq,not_false_eq_true,iff_true];omega
theorem bA.bd (h:bA c q L) (hc:aA c):0<=q/\q < 4294967296:=by
 have h1:=Cl.Bl L (h.JF hc);have h2:=Cl.GK (h.len8 hc);rw[h.q];omega
theorem bA.head {x:Int} (h:bA c q (x :: L)) (hc:aA c):q % 16 - 1=x:=by
 have hx:=h.JF hc x au;rw[h.q];simp only[Ty.lw];omega
end
end Mc
namespace Ty
open Go.RowKit Hp Slot ah ai Tk
def dg (q:Int):Nat->Int
 | 0=>q
 | k+1=>dg (q / 16) k
def UA (c:aj.Cf) (q:Int):Prop:=∀ k,0 < dg q k->1<=dg q k % 16/\dg q k % 16<=c.workers
section
variable {c:aj.Cf} {ws:List Int} {t:Ty}
theorem Hz:∀ {L:List Int},(∀ x ∈ L,0<=x/\x < c.workers)->c.workers<=8->UA c (lw L):=by
 intro L
 induction L with
 | nil=>
  intro _ _ k hk
  have:∀ k,dg 0 k=0:=by
   intro k
   induction k with
   | zero=>rfl
   | succ k ih=>exact ih
  simp only[lw]at hk;rw[this]at hk;omega
 | cons x L ih=>
  intro h h8 k hk;have hx:=h x au;have hL:=ih (fun y hy=>h y (by simp[hy])) h8;have h0:0<=lw L:=jX fun y hy=>(h y (by simp[hy])).1
  cases k with
  | zero=>simp only[dg,lw]at hk ⊢;omega
  | succ k=>
   have e:dg (lw (x :: L)) (k+1)=dg (lw L) k:=by
    show dg (lw (x :: L) / 16) k=_
    rw[show lw (x :: L) / 16=lw L by simp only[lw];omega]
   rw[e]at hk ⊢;exact hL k hk
theorem FE (x:Int):wrap64 x<=9223372036854775807:=by unfold wrap64;omega
theorem Oz (r:Rt) (ws:List Int):(r.step ws).2.1.cell=r.cell:=by
 unfold Rt.step
 split<;>(try split)<;>(try split)<;>rfl
theorem OB (t:Ty) (ws:List Int):(t.dz ws).2.2.1.rt=t.rt/\(t.dz ws).2.2.1.cf=t.cf:=by
 unfold Ty.dz;dsimp only
 split<;>exact⟨rfl,rfl⟩
theorem Ea (t:Ty) (ws:List Int):(t.step ws).2.2<=1:=by
 have hf:∀ (f:Tk.Fd) (c:aj.Cf),(f.step c ws).2.2<=1:=by
  intro f c;unfold Fd.step
  split
  ·exact Nat.zero_le _
  ·split<;>exact Nat.le_refl _
 have hs:(t.dz ws).2.2.2<=1:=hf _ _
 have hr:(t.ret.step ws).2.2.2<=1:=by
  unfold Rt.step
  split<;>(try split)<;>(try split)<;>simp
 have hw:∀ d own,(t.swap d own ws).2.2<=1:=by
  intro d own;unfold Ty.swap
  split<;>simp
 unfold Ty.step
 split<;>(try dsimp only)<;>(repeat' split)<;>first | exact Nat.le_refl _ | exact hs | exact hr | exact hw _ _ | exact Nat.zero_le _
end
end Ty
namespace Mc
open Go.RowKit Hp Slot ah ai Tk
inductive Eff where
 | none
 | slot (i d:Nat) (own more:Int)
 | aJ
 | pin (x:Int)
 | grant (o:Nat) (x:Int)
 | line (q:Int)
 | closed (x:Int)
def Eff.run (c:aj.Cf) (who:Nat) (ws:List Int):Eff->List Int
 | .none=>ws
 | .slot i d own more=>match bn (rd ws (sc c i)) d own more with | some nw=>ws.set (sc c i) nw | .none=>ws
 | .aJ=>ws.set 2 (wrap64 (rd ws 2+1))
 | .pin x=>ws.set (Ty.pc who) x
 | .grant o x=>ws.set (Ty.gc c o) x
 | .line q=>ws.set 1 q
 | .closed x=>ws.set 0 x
def eU (ws:List Int) (i:Nat) (old:Int) (e:Eff):Eff:=if rd ws i=old then e else .none
theorem nC (c:aj.Cf) (who:Nat) (ws:List Int) (i d:Nat) (old own more:Int) {nw:Int} (h:bn old d own more=some nw):(dF ws (sc c i) old nw).2=(eU ws (sc c i) old (.slot i d own more)).run c who ws:=by
 unfold dF eU
 split
 ·rename_i e
  simp only[Eff.run,e,h]
 ·rfl
theorem qC (c:aj.Cf) (who:Nat) (ws:List Int) (i d:Nat) (old own more:Int) (h:bn old d own more=.none):ws=(eU ws (sc c i) old (.slot i d own more)).run c who ws:=by
 unfold eU
 split
 ·rename_i e
  simp only[Eff.run,e,h]
 ·rfl
theorem rG (c:aj.Cf) (who:Nat) (ws:List Int) (old q:Int):(dF ws 1 old q).2=(eU ws 1 old (.line q)).run c who ws:=by
 unfold dF eU
 split<;>rfl
def D7 (c:aj.Cf) (r:Rt):Prop:=∃ i,i < ns c/\r.cell=sc c i
def six (c:aj.Cf) (cell:Nat):Nat:=cell - sc c 0
theorem D7.six {c:aj.Cf} {r:Rt} (h:D7 c r):sc c (six c r.cell)=r.cell/\Mc.six c r.cell < ns c:=by
 obtain⟨i,hi,e⟩:=h;unfold Mc.six;rw[e];unfold sc;omega
theorem D7.step {c:aj.Cf} {r:Rt} (h:D7 c r) (ws:List Int):D7 c (r.step ws).2.1:=by
 obtain⟨i,hi,e⟩:=h;exact⟨i,hi,by rw[Ty.Oz];exact e⟩
def Hu (c:aj.Cf) (r:Rt) (ws:List Int):Eff:=
 match r.st with
 | 0=>eU ws r.cell r.word (.slot (six c r.cell) 11 0 4095)
 | 2=>eU ws r.cell r.word (.slot (six c r.cell) 17 0 r.aJ)
 | 3=>.aJ
 | _=>.none
theorem zA {c:aj.Cf} {r:Rt} (h:D7 c r) (who:Nat) (ws:List Int):(r.step ws).2.2.1=(Hu c r ws).run c who ws:=by
 obtain⟨h1,-⟩:=h.six
 have hcas:∀ d own more nw,bn r.word d own more=some nw->(dF ws r.cell r.word nw).2=(eU ws r.cell r.word (.slot (six c r.cell) d own more)).run c who ws:=by
  intro d own more nw hn;have:=nC c who ws (six c r.cell) d r.word own more hn
  rwa [h1]at this
 have hno:∀ d own more,bn r.word d own more=.none->ws=(eU ws r.cell r.word (.slot (six c r.cell) d own more)).run c who ws:=by
  intro d own more hn;have:=qC c who ws (six c r.cell) d r.word own more hn
  rwa [h1]at this
 unfold Rt.step Hu
 split
 ·rename_i hst
  simp only[hst]
  cases hn:bn r.word 11 0 4095 with
  | none=>exact hno _ _ _ hn
  | some nw=>
   have:=hcas _ _ _ _ hn;dsimp only;rw[<- this];unfold dF
   split<;>rfl
 ·rename_i hst
  simp only[hst];rfl
 ·rename_i hst
  simp only[hst]
  cases hn:bn r.word 17 0 r.aJ with
  | none=>exact hno _ _ _ hn
  | some nw=>exact hcas _ _ _ _ hn
 ·rename_i hst
  simp only[hst];rfl
 ·rename_i h0 h1 h2 h3
  have e:(match r.st with | 0=>eU ws r.cell r.word (.slot (six c r.cell) 11 0 4095) | 2=>eU ws r.cell r.word (.slot (six c r.cell) 17 0 r.aJ) | 3=>.aJ | _=>.none)=Eff.none:=by
   split
   ·exact absurd ‹_› h0
   ·exact absurd ‹_› h2
   ·exact absurd ‹_› h3
   ·rfl
  rw[e];rfl
def QO (t:Tk) (ws:List Int) (good:Bool):Eff:=
 match t.st with
 | 2=>eU ws (sc t.cf t.fd.at') t.fd.word (.slot t.fd.at' 3 t.w 0)
 | 4=>eU ws (sc t.cf t.fd.at') t.fd.word (.slot t.fd.at' 3 t.w 0)
 | 6=>eU ws (sc t.cf t.fd.at') t.fd.word (.slot t.fd.at' 9 t.w 0)
 | 8=>eU ws (sc t.cf t.fd.at') t.fd.word (.slot t.fd.at' 0 t.w 0)
 | 9=>eU ws (sc t.cf t.i) t.word (.slot t.i (if good then 1 else 2) t.w 0)
 | 12=>Hu t.cf t.ret ws
 | 14=>eU ws (sc t.cf t.i) t.word (.slot t.i 16 t.w 0)
 | _=>.none
theorem wL (w:Int) (d:Nat) (own more:Int):bn w d own more=((dec w).bind fun s=>bC s d own more).map S.word:=by
 unfold bn;cases dec w<;>rfl
theorem wM (t:Tk) (who i:Nat) (word:Int) (d:Nat) (ws:List Int):(t.swap i word d ws).2.2.1=(eU ws (sc t.cf i) word (.slot i d t.w 0)).run t.cf who ws:=by
 have hb:=wL word d t.w 0;unfold Tk.swap
 cases hn:(dec word).bind fun s=>bC s d t.w 0 with
 | none=>rw[hn]at hb;exact qC _ _ _ _ _ _ _ _ hb
 | some s=>
  rw[hn]at hb;rw[<- nC _ who _ _ _ _ _ _ hb];dsimp only;unfold dF
  split<;>rfl
theorem tC (t:Tk) (who d:Nat) (ws:List Int):(t.di d ws).2.2.1=(eU ws (sc t.cf t.fd.at') t.fd.word (.slot t.fd.at' d t.w 0)).run t.cf who ws:=by
 rw[<- wM t who];unfold Tk.di;dsimp only
 split<;>rfl
theorem Lc {t:Tk} (hr:t.st=12->D7 t.cf t.ret) (who:Nat) (ws:List Int) (good:Bool) (hst:t.st<=15):(t.step ws good).2.1=(QO t ws good).run t.cf who ws:=by
 have hcases:t.st=0\/t.st=1\/t.st=2\/t.st=3\/t.st=4\/t.st=5\/t.st=6\/t.st=7\/t.st=8\/t.st=9\/t.st=10\/t.st=11\/t.st=12\/t.st=13\/t.st=14\/t.st=15:=ag
 unfold Tk.step QO
 rcases hcases with hk | hk | hk | hk | hk | hk | hk | hk | hk | hk | hk | hk | hk | hk | hk | hk<;>simp only[hk]
 ·split<;>rfl
 ·split
  ·rfl
  ·split<;>rfl
 ·have h:=tC {t with st:=1} who 3 ws
  split
  ·exact h
  ·exact h
 ·split
  ·rfl
  ·split<;>rfl
 ·have h:=tC {t with st:=3} who 3 ws
  split
  ·split
   ·split<;>exact h
   ·exact h
  ·exact h
 ·split
  ·rfl
  ·split
   ·rfl
   ·split<;>rfl
 ·cases hn:bn t.fd.word 9 t.w 0 with
  | none=>exact qC _ _ _ _ _ _ _ _ hn
  | some nw=>exact nC _ _ _ _ _ _ _ _ hn
 ·split
  ·rfl
  ·split<;>rfl
 ·have h:=tC {t with st:=7} who 0 ws
  split
  ·exact h
  ·exact h
 ·have h:=wM t who t.i t.word (if good then 1 else 2) ws;generalize (if good then 1 else 2)=d at h ⊢
  split<;>exact h
 ·split<;>rfl
 ·split
  ·split<;>rfl
  ·rfl
 ·have h:=zA (hr hk) who ws
  split
  ·split<;>exact h
  ·exact h
 ·rfl
 ·have h:=wM t who t.i t.word 16 ws;have hb:=wL t.word 16 t.w 0
  cases hn:(dec t.word).bind fun s=>bC s 16 t.w 0 with
  | none=>rw[hn]at hb;exact qC _ _ _ _ _ _ _ _ hb
  | some s=>
   dsimp only
   split
   ·split<;>exact h
   ·exact h
 ·rfl
def OA (t:Ty.Ty) (ws:List Int):Eff:=
 match t.st with
 | 1=>.pin (wrap64 (t.aJ+1))
 | 4=>Hu t.cf t.ret ws
 | 7=>eU ws (sc t.cf t.i) t.word (.slot t.i 12 t.w 0)
 | 10=>eU ws (sc t.cf t.i) t.word (.slot t.i (if t.is=2 then 5 else 7) t.head 0)
 | 11=>eU ws 1 t.queue (.line (t.queue / 16))
 | 12=>.grant t.head.toNat (t.i+1)
 | 14=>eU ws (sc t.cf t.i) t.word (.slot t.i (if t.is=4 then 6 else 8) t.w 0)
 | 15=>.pin 0
 | _=>.none
theorem tJ (t:Ty.Ty) (who d:Nat) (own:Int) (ws:List Int):(t.swap d own ws).2.1=(eU ws (sc t.cf t.i) t.word (.slot t.i d own 0)).run t.cf who ws:=by
 unfold Ty.Ty.swap
 cases hn:bn t.word d own 0 with
 | none=>exact qC _ _ _ _ _ _ _ _ hn
 | some nw=>exact nC _ _ _ _ _ _ _ _ hn
theorem Tc {t:Ty.Ty} (hr:t.st=4->D7 t.cf t.ret) (ws:List Int) (hst:t.st<=17):(t.step ws).2.1=(OA t ws).run t.cf t.w ws:=by
 have hcases:t.st=0\/t.st=1\/t.st=2\/t.st=3\/t.st=4\/t.st=5\/t.st=6\/t.st=7\/t.st=8\/t.st=9\/t.st=10\/t.st=11\/t.st=12\/t.st=13\/t.st=14\/t.st=15\/t.st=16\/t.st=17:=ag
 unfold Ty.Ty.step OA
 rcases hcases with hk | hk | hk | hk | hk | hk | hk | hk | hk | hk | hk | hk | hk | hk | hk | hk | hk | hk<;>simp only[hk]
 ·rfl
 ·rfl
 ·rfl
 ·split
  ·rfl
  ·split<;>rfl
 ·have h:=zA (hr hk) t.w ws
  split<;>exact h
 ·split
  ·split<;>rfl
  ·split
   ·split<;>rfl
   ·rfl
 ·split
  ·rfl
  ·split<;>rfl
 ·exact tJ t t.w 12 t.w ws
 ·split<;>rfl
 ·split
  ·rfl
  ·split<;>rfl
 ·have h:=tJ t t.w (if t.is=2 then 5 else 7) t.head ws;generalize (if t.is=2 then 5 else 7)=d at h ⊢
  split<;>exact h
 ·have h:=rG t.cf t.w ws t.queue (t.queue / 16)
  split<;>exact h
 ·rfl
 ·split<;>rfl
 ·have h:=tJ t t.w (if t.is=4 then 6 else 8) t.w ws;generalize (if t.is=4 then 6 else 8)=d at h ⊢
  split<;>exact h
 ·rfl
 ·split<;>rfl
 ·rfl
def Hw (q:Qu) (ws:List Int):Eff:=
 match q.st with
 | 1=>eU ws 1 q.line (.line (nH q.line q.w))
 | 4=>eU ws 1 q.line (.line (nI q.line q.w))
 | 6=>eU ws 1 q.line (.line (q.line / 16))
 | 7=>.grant q.first.toNat (-1)
 | _=>.none
theorem Td (q:Qu) (who:Nat) (ws:List Int) (hst:q.st<=8):(q.step ws).2.1=(Hw q ws).run q.cf who ws:=by
 have hcases:q.st=0\/q.st=1\/q.st=2\/q.st=3\/q.st=4\/q.st=5\/q.st=6\/q.st=7\/q.st=8:=ag
 unfold Qu.step Hw
 rcases hcases with hk | hk | hk | hk | hk | hk | hk | hk | hk<;>simp only[hk]
 ·split<;>rfl
 ·have h:=rG q.cf who ws q.line (nH q.line q.w)
  split<;>exact h
 ·split<;>rfl
 ·split<;>rfl
 ·have h:=rG q.cf who ws q.line (nI q.line q.w)
  split<;>exact h
 ·split<;>rfl
 ·have h:=rG q.cf who ws q.line (q.line / 16)
  split<;>exact h
 ·rfl
 ·rfl
def QS (g:Gi) (ws:List Int):Eff:=
 match g.st with
 | 2=>eU ws (sc g.cf g.i.toNat) g.word (.slot g.i.toNat 4 g.w 0)
 | 3=>Hu g.cf g.ret ws
 | _=>.none
theorem Te {g:Gi} (hr:g.st=3->D7 g.cf g.ret) (who:Nat) (ws:List Int) (hst:g.st<=4):(g.step ws).2.1=(QS g ws).run g.cf who ws:=by
 have hcases:g.st=0\/g.st=1\/g.st=2\/g.st=3\/g.st=4:=ag
 unfold Gi.step QS
 rcases hcases with hk | hk | hk | hk | hk<;>simp only[hk]
 ·split<;>rfl
 ·split
  ·split
   ·rfl
   ·split
    ·rfl
    ·split
     ·rfl
     ·split<;>rfl
  ·rfl
 ·cases hn:bn g.word 4 g.w 0 with
  | none=>exact qC _ _ _ _ _ _ _ _ hn
  | some nw=>
   have h:=nC g.cf who ws g.i.toNat 4 g.word g.w 0 hn;dsimp only
   split<;>exact h
 ·have h:=zA (hr hk) who ws
  split
  ·split<;>exact h
  ·exact h
 ·rfl
def Tf (x:Sm):Nat:=if x.opens then 14 else 15
def Tg (x:Sm):Int:=if x.opens then x.cf.streams else x.num
def QT (x:Sm) (ws:List Int):Eff:=
 match x.st with
 | 2=>eU ws (sc x.cf x.i.toNat) x.word (.slot x.i.toNat (Tf x) x.w (Tg x))
 | _=>.none
theorem Ti {x:Sm} (hr:x.st=2->bn x.word (Tf x) x.w (Tg x)=some x.next) (who:Nat) (ws:List Int) (hst:x.st<=3):(x.step ws).2.1=(QT x ws).run x.cf who ws:=by
 have hcases:x.st=0\/x.st=1\/x.st=2\/x.st=3:=ag
 unfold Sm.step QT
 rcases hcases with hk | hk | hk | hk<;>simp only[hk]
 ·split<;>rfl
 ·split
  ·split
   ·rfl
   ·split
    ·rfl
    ·split<;>rfl
  ·rfl
 ·have h:=nC x.cf who ws x.i.toNat (Tf x) x.word x.w (Tg x) (hr hk)
  split<;>exact h
 ·rfl
structure vC (c:aj.Cf) (ws:List Int):Prop where
 len:ws.length=sc c (ns c)
 line:∃ L,bA c (rd ws 1) L
section
variable {c:aj.Cf} {ws:List Int}
theorem aA.toC (h:aA c):zG c:=⟨⟨by have:=h.w;omega,h.w.2⟩,⟨by have:=h.s;omega,by have:=h.s;omega⟩⟩
theorem aA.ns (h:aA c):1<=ns c/\ns c<=16/\(ns c:Int)=c.slots:=by have:=h.s;unfold Tk.ns;omega
theorem aA.nw (h:aA c):1<=c.workers.toNat/\c.workers.toNat<=8/\(c.workers.toNat:Int)=c.workers:=by have:=h.w;omega
theorem fI:sc c (ns c)=3+2 * c.workers.toNat+ns c:=rfl
def OM (c:aj.Cf) (r:Rt):Prop:=y5 (sc c (ns c)) r/\D7 c r
theorem OM.new {i:Nat} (hi:i < ns c) (word:Int):OM c (Rt.new (sc c i) word):=⟨⟨by show sc c i < sc c (ns c);unfold sc;omega,by simp[Rt.new]⟩,i,hi,rfl⟩
theorem OM.step {r:Rt} (h:OM c r) (ws:List Int):OM c (r.step ws).2.1:=⟨(h.1.step ws).1,h.2.step ws⟩
structure fH (c:aj.Cf) (q:Qu):Prop where
 cf:q.cf=c
 st:q.st<=8
 w:0<=q.w/\q.w < c.workers
 push:q.st=1->∃ L,bA c q.line L/\q.w ∉ L/\(L.length:Int) < c.waiters
 drop:q.st=4->∃ L,bA c q.line L/\q.w ∈ L
 pop:q.st=6->∃ x L,bA c q.line (x :: L)/\q.first=x
 tell:q.st=7->0<=q.first/\q.first < c.workers
theorem fH.enter {w:Int} (hw:0<=w/\w < c.workers):fH c (Qu.enter c w):=⟨rfl,by simp[Qu.enter],hw,by simp[Qu.enter],by simp[Qu.enter],by simp[Qu.enter],by simp[Qu.enter]⟩
theorem fH.leave {w:Int} (hw:0<=w/\w < c.workers):fH c (Qu.leave c w):=⟨rfl,by simp[Qu.leave],hw,by simp[Qu.leave],by simp[Qu.leave],by simp[Qu.leave],by simp[Qu.leave]⟩
theorem fH.drain (hc:aA c):fH c (Qu.drain c):=⟨rfl,by simp[Qu.drain],⟨Int.le_refl _,by have:=hc.w;show(0:Int) < _;omega⟩,by simp[Qu.drain],by simp[Qu.drain],by simp[Qu.drain],by simp[Qu.drain]⟩
theorem fH.toK {q q':Qu} (h:fH c q) (hcf:q'.cf=q.cf) (hw:q'.w=q.w) (hst:q'.st<=8) (h1:q'.st≠1) (h4:q'.st≠4) (h6:q'.st≠6) (h7:q'.st≠7):fH c q':=
 ⟨hcf.trans h.cf,hst,by rw[hw];exact h.w,fun e=>absurd e h1,fun e=>absurd e h4,fun e=>absurd e h6,fun e=>absurd e h7⟩
theorem fH.step {q:Qu} (h:fH c q) (hc:aA c) (hm:vC c ws):fH c (q.step ws).1/\vC c (q.step ws).2.1:=by
 have hst:=h.st;obtain⟨L,hL⟩:=hm.line;have hl1:1 < ws.length:=by rw[hm.len,fI];omega
 have VV:∀ x L',bA c x L'->vC c (ws.set 1 x):=fun x L' h=>⟨by simp[hm.len],L',by rw[Ty.fq hl1];exact h⟩
 have hcas:∀ old x,(rd ws 1=old->∃ L',bA c x L')->vC c (dF ws 1 old x).2:=by
  intro old x hx;unfold dF
  split
  ·rename_i e
   obtain⟨L',h'⟩:=hx e;exact VV x L' h'
  ·exact hm
 have hcases:q.st=0\/q.st=1\/q.st=2\/q.st=3\/q.st=4\/q.st=5\/q.st=6\/q.st=7\/q.st=8:=ag
 unfold Qu.step
 rcases hcases with hk | hk | hk | hk | hk | hk | hk | hk | hk<;>simp only[hk]
 ·rw[hL.Br hc,hL.JG hc]
  split
  ·exact⟨h.toK rfl rfl (by simp[Qu.finish]) (by simp[Qu.finish]) (by simp[Qu.finish]) (by simp[Qu.finish]) (by simp[Qu.finish]),hm⟩
  ·rename_i hn
   rw[h.cf]at hn;simp only[not_or,decide_eq_true_eq]at hn;exact⟨⟨h.cf,au,h.w,fun _=>⟨L,hL,hn.2,ag⟩,au,au,au⟩,hm⟩
 ·obtain⟨L1,h1,h2,h3⟩:=h.push hk;have hp:=h1.push hc h.w h2 h3;have hw:=hcas q.line (nH q.line q.w) (fun _=>⟨_,hp⟩)
  split
  ·exact⟨h.toK rfl rfl au au au au au,hw⟩
  ·exact⟨h.toK rfl rfl au au au au au,hw⟩
 ·split
  ·exact⟨h.toK rfl rfl (by simp[Qu.finish]) (by simp[Qu.finish]) (by simp[Qu.finish]) (by simp[Qu.finish]) (by simp[Qu.finish]),hm⟩
  ·exact⟨h.toK rfl rfl au au au au au,hm⟩
 ·rw[hL.JG hc]
  split
  ·rename_i hi
   exact⟨⟨h.cf,au,h.w,au,fun _=>⟨L,hL,of_decide_eq_true hi⟩,au,au⟩,hm⟩
  ·exact⟨h.toK rfl rfl (by simp[Qu.finish]) (by simp[Qu.finish]) (by simp[Qu.finish]) (by simp[Qu.finish]) (by simp[Qu.finish]),hm⟩
 ·obtain⟨L1,h1,h2⟩:=h.drop hk;have hw:=hcas q.line (nI q.line q.w) (fun _=>⟨_,h1.drop hc q.w⟩)
  split
  ·exact⟨h.toK rfl rfl (by simp[Qu.finish]) (by simp[Qu.finish]) (by simp[Qu.finish]) (by simp[Qu.finish]) (by simp[Qu.finish]),hw⟩
  ·exact⟨h.toK rfl rfl au au au au au,hw⟩
 ·split
  ·rename_i hp
   cases L with
   | nil=>exact absurd rfl ((hL.pos hc).1 hp)
   | cons x L=>exact⟨⟨h.cf,au,h.w,au,au,fun _=>⟨x,L,hL,hL.head hc⟩,au⟩,hm⟩
  ·exact⟨h.toK rfl rfl (by simp[Qu.finish]) (by simp[Qu.finish]) (by simp[Qu.finish]) (by simp[Qu.finish]) (by simp[Qu.finish]),hm⟩
 ·obtain⟨x,L1,h1,h2⟩:=h.pop hk;have hw:=hcas q.line (q.line / 16) (fun _=>⟨_,h1.pop hc⟩);have hx:=h1.x x au
  split
  ·exact⟨⟨h.cf,au,h.w,au,au,au,fun _=>by rw[h2];exact hx⟩,hw⟩
  ·exact⟨h.toK rfl rfl au au au au au,hw⟩
 ·have hf:=h.tell hk;refine⟨h.toK rfl rfl au au au au au,by simp[hm.len],L,?_⟩;rw[Ty.aP (by unfold Ty.gc;omega)];exact hL
 ·exact⟨h,hm⟩
structure pW (c:aj.Cf) (g:Gi):Prop where
 cf:g.cf=c
 st:g.st<=4
 has:g.st=2\/g.st=3->0<=g.i/\g.i < c.slots
 uses:g.st=2->∃ s,dec g.word=some s/\owns s g.w g.gen=true/\s.uses < c.uses/\s.streams=0/\s.broken=false
 rt:∀ r,g.rt=some r->OM c r
 kz:g.st=3->∃ r,g.rt=some r
theorem pW.new (w i gen:Int) (d:Bool):pW c (Gi.new c w i gen d):=⟨rfl,by simp[Gi.new],by simp[Gi.new],by simp[Gi.new],by simp[Gi.new],by simp[Gi.new]⟩
theorem pW.toK {g g':Gi} (h:pW c g) (hcf:g'.cf=g.cf) (hst:g'.st<=4) (h2:g'.st≠2) (h3:g'.st≠3) (hr:g'.rt=g.rt):pW c g':=
 ⟨hcf.trans h.cf,hst,by rintro(e | e);exact absurd e h2;exact absurd e h3,fun e=>absurd e h2,by rw[hr];exact h.rt,fun e=>absurd e h3⟩
theorem pW.step {g:Gi} (h:pW c g) (hc:aA c) (ws:List Int):pW c (g.step ws).1:=by
 have hst:=h.st;have hcases:g.st=0\/g.st=1\/g.st=2\/g.st=3\/g.st=4:=ag
 unfold Gi.step
 rcases hcases with hk | hk | hk | hk | hk<;>simp only[hk]
 ·split
  ·exact h.toK rfl (by simp[Gi.finish]) (by simp[Gi.finish]) (by simp[Gi.finish]) rfl
  ·exact h.toK rfl au au au rfl
 ·split
  ·rename_i hh
   have hi:0<=g.i/\g.i < c.slots:=by rw[h.cf]at hh;exact of_decide_eq_true hh
   have hin:g.i.toNat < ns c:=by unfold ns;omega
   split
   ·exact h.toK rfl (by simp[Gi.finish]) (by simp[Gi.finish]) (by simp[Gi.finish]) rfl
   ·rename_i s hs
    split
    ·exact h.toK rfl (by simp[Gi.finish]) (by simp[Gi.finish]) (by simp[Gi.finish]) rfl
    ·rename_i ho
     split
     ·exact h.toK rfl (by simp[Gi.finish]) (by simp[Gi.finish]) (by simp[Gi.finish]) rfl
     ·rename_i hb
      split
      ·exact⟨h.cf,au,fun _=>hi,au,fun r e=>by cases e;rw[h.cf];exact OM.new hin _,fun _=>⟨_,rfl⟩⟩
      ·rename_i hr
       refine⟨h.cf,au,fun _=>hi,fun _=>⟨s,hs,by simpa using ho,?_⟩,h.rt,au⟩;simp only[Gi.gQ,Bool.or_eq_true,decide_eq_true_eq,not_or,Bool.not_eq_true]at hr;obtain⟨⟨⟨r1,r2⟩,r3⟩,r4⟩:=hr;rw[h.cf]at r3;exact⟨ag,by by_cases e:s.streams=0;exact e;exact absurd ⟨e,r1⟩ hb,r2⟩
  ·exact h.toK rfl (by simp[Gi.finish]) (by simp[Gi.finish]) (by simp[Gi.finish]) rfl
 ·split
  ·exact h.toK rfl au au au rfl
  ·split
   ·exact h.toK rfl (by simp[Gi.finish]) (by simp[Gi.finish]) (by simp[Gi.finish]) rfl
   ·exact h.toK rfl au au au rfl
 ·obtain⟨r,hr⟩:=h.kz hk;have hret:g.ret=r:=by unfold Gi.ret;rw[hr];rfl
  have hs:=(h.rt r hr).step ws;rw[hret]
  split
  ·split
   ·exact⟨h.cf,by simp[Gi.finish],by simp[Gi.finish],by simp[Gi.finish],fun x e=>by cases e;exact hs,by simp[Gi.finish]⟩
   ·exact⟨h.cf,au,au,au,fun x e=>by cases e;exact hs,au⟩
  ·exact⟨h.cf,by simp[hk],fun _=>h.has (.inr hk),by simp[hk],fun x e=>by cases e;exact hs,fun _=>⟨_,rfl⟩⟩
 ·exact h
structure ny (c:aj.Cf) (x:Sm):Prop where
 cf:x.cf=c
 st:x.st<=3
 has:x.st=2->0<=x.i/\x.i < c.slots
 next:x.st=2->∃ s t,dec x.word=some s/\owns s x.w x.gen=true/\bC s (Tf x) x.w (Tg x)=some t/\x.next=t.word
theorem ny.open' (w i gen:Int):ny c (Sm.open' c w i gen):=⟨rfl,by simp[Sm.open'],by simp[Sm.open'],by simp[Sm.open']⟩
theorem ny.shut (w i gen num:Int):ny c (Sm.shut c w i gen num):=⟨rfl,by simp[Sm.shut],by simp[Sm.shut],by simp[Sm.shut]⟩
theorem ny.toK {x x':Sm} (h:ny c x) (hcf:x'.cf=x.cf) (hst:x'.st<=3) (h2:x'.st≠2):ny c x':=
 ⟨hcf.trans h.cf,hst,fun e=>absurd e h2,fun e=>absurd e h2⟩
theorem ny.bn {x:Sm} (h:ny c x) (hk:x.st=2):bn x.word (Tf x) x.w (Tg x)=some x.next:=by
 obtain⟨s,t,h1,-,h2,h3⟩:=h.next hk;unfold Tk.bn;rw[h1,h3];simp[h2]
theorem ny.step {x:Sm} (h:ny c x) (hc:aA c) (ws:List Int):ny c (x.step ws).1:=by
 have hst:=h.st;have hcases:x.st=0\/x.st=1\/x.st=2\/x.st=3:=ag
 unfold Sm.step
 rcases hcases with hk | hk | hk | hk<;>simp only[hk]
 ·split
  ·exact h.toK rfl (by simp[Sm.finish]) (by simp[Sm.finish])
  ·exact h.toK rfl au au
 ·split
  ·rename_i hh
   have hi:0<=x.i/\x.i < c.slots:=by rw[h.cf]at hh;exact of_decide_eq_true hh
   split
   ·exact h.toK rfl (by simp[Sm.finish]) (by simp[Sm.finish])
   ·rename_i s hs
    split
    ·exact h.toK rfl (by simp[Sm.finish]) (by simp[Sm.finish])
    ·rename_i ho
     split
     ·exact h.toK rfl (by simp[Sm.finish]) (by simp[Sm.finish])
     ·rename_i t ht
      refine⟨h.cf,au,fun _=>hi,fun _=>⟨s,t,hs,by simpa using ho,?_,rfl⟩⟩;unfold Sm.becomes at ht;unfold Tf Tg
      split at ht
      ·rename_i hop
       rw[if_pos (by exact hop),if_pos (by exact hop)]
       split at ht
       ·cases ht
       ·split at ht
        ·rename_i t' ht'
         cases ht;exact ht'
        ·cases ht
      ·rename_i hop
       rw[if_neg (by exact hop),if_neg (by exact hop)]
       split at ht
       ·rename_i t' ht'
        cases ht;exact ht'
       ·cases ht
  ·exact h.toK rfl (by simp[Sm.finish]) (by simp[Sm.finish])
 ·split
  ·exact h.toK rfl (by simp[Sm.finish]) (by simp[Sm.finish])
  ·exact h.toK rfl au au
 ·exact h
structure pG (c:aj.Cf) (t:Tw):Prop where
 cf:t.cf=c
 round:t.round.length < ns c
 last:0 < t.rounds->t.last.length=ns c
 none:t.rounds=0->t.last=[]
 done:t.done=true->0 < t.rounds
theorem pG.new (hc:aA c):pG c (Tw.new c):=⟨rfl,by have:=hc.ns;simp[Tw.new];omega,by simp[Tw.new],by simp[Tw.new],by simp[Tw.new]⟩
theorem pG.step {t:Tw} (h:pG c t) (hc:aA c) (ws:List Int):pG c (t.step ws).1:=by
 have hn:=hc.ns;have hr:=h.round;unfold Tw.step
 split
 ·exact h
 ·dsimp only
  split
  ·rename_i hd hl
   rw[h.cf]at hl;exact⟨h.cf,by simpa using hl,h.last,h.none,h.done⟩
  ·rename_i hd hl
   rw[h.cf]at hl;simp only[List.length_append,List.length_singleton]at hl;exact⟨h.cf,by simp;omega,fun _=>by simp;omega,au,au⟩
structure nL (c:aj.Cf) (r:Rp):Prop where
 st:r.st<=3
 look:Ty.fQ c r.look
 found:r.st=1\/r.st=2\/r.st=3->r.look.found=true
 rt:∀ x,r.rt=some x->OM c x
 kz:r.st=3->∃ x,r.rt=some x
theorem nL.new (w:Int):nL c (Rp.new w):=⟨by simp[Rp.new],Ty.fQ.new ag,by simp[Rp.new],by simp[Rp.new],by simp[Rp.new]⟩
theorem nL.kC {r:Rp} (h:nL c r):nL c r.kC:=⟨by simp[Rp.kC],h.look.go,by simp[Rp.kC],h.rt,by simp[Rp.kC]⟩
end
section
variable {c:aj.Cf} {ws:List Int} {who:Nat}
def zs (c:aj.Cf):List Int:=List.replicate (sc c (ns c)) 0
theorem zB:(zs c).length=sc c (ns c):=by simp[zs]
theorem BK {t:Tk} {ws aC:List Int} (h:dR t ws) (hl:aC.length=ws.length):dR t aC:=h.toK rfl rfl hl h.i h.look h.has h.rt h.kz h.st
structure BL (c:aj.Cf) (who:Nat) (t:Tk):Prop where
 ok:dR t (zs c)
 cf:t.cf=c
 w:t.w=who
 rt:∀ r,t.rt=some r->D7 c r
theorem BL.tk {t:Tk} (h:BL c who t) (hl:ws.length=sc c (ns c)):dR t ws:=BK h.ok (by rw[zB,hl])
theorem BL.new (hc:aA c) (hw:who < c.workers.toNat):BL c who (Tk.new c who):=by
 have h1:=hc.ns;have h2:=hc.nw;refine⟨⟨hc.toC,by exact h1.1,by show(0:Int)<=(who:Int)/\(who:Int)<=15;omega,by rw[zB];rfl,by show 0 < Tk.ns c;omega,by simp[Tk.new],by simp[Tk.new],by simp[Tk.new],by simp[Tk.new],by simp[Tk.new]⟩,rfl,rfl,by simp[Tk.new]⟩
theorem BL.granted (hc:aA c) (hw:who < c.workers.toNat) {i:Nat} (hi:i < Tk.ns c):BL c who (Tk.granted c who i):=by
 have h1:=hc.ns;have h2:=hc.nw;refine⟨⟨hc.toC,by exact h1.1,by show(0:Int)<=(who:Int)/\(who:Int)<=15;omega,by rw[zB];rfl,by exact hi,by simp[Tk.granted],by simp[Tk.granted],by simp[Tk.granted],by simp[Tk.granted],by simp[Tk.granted]⟩,rfl,rfl,by simp[Tk.granted]⟩
theorem wN (t:Tk) (i:Nat) (word:Int) (d:Nat) (ws:List Int):(t.swap i word d ws).2.1.rt=t.rt/\(t.swap i word d ws).2.1.cf=t.cf/\(t.swap i word d ws).2.1.w=t.w:=by
 unfold Tk.swap
 split
 ·split<;>exact⟨rfl,rfl,rfl⟩
 ·exact⟨rfl,rfl,rfl⟩
theorem tK (t:Tk) (d:Nat) (ws:List Int):(t.di d ws).2.1.rt=t.rt/\(t.di d ws).2.1.cf=t.cf/\(t.di d ws).2.1.w=t.w:=by
 have h:=wN t t.fd.at' t.fd.word d ws;unfold Tk.di;dsimp only
 split
 ·exact h
 ·exact h
theorem VT (t:Tk) (ws:List Int) (good:Bool) (hst:t.st<=15):((t.step ws good).1.cf=t.cf/\(t.step ws good).1.w=t.w)/\
  ((t.step ws good).1.rt=t.rt\/(∃ w,(t.step ws good).1.rt=some (Rt.new (sc t.cf t.i) w))\/(t.st=12/\(t.step ws good).1.rt=some (t.ret.step ws).2.1)):=by
 have hcases:t.st=0\/t.st=1\/t.st=2\/t.st=3\/t.st=4\/t.st=5\/t.st=6\/t.st=7\/t.st=8\/t.st=9\/t.st=10\/t.st=11\/t.st=12\/t.st=13\/t.st=14\/t.st=15:=ag
 rcases hcases with hk | hk | hk | hk | hk | hk | hk | hk | hk | hk | hk | hk | hk | hk | hk | hk
 ·rw[Tk.BM hk]
  split<;>exact⟨⟨rfl,rfl⟩,.inl rfl⟩
 ·rw[Tk.BN hk];dsimp only
  split
  ·exact⟨⟨rfl,rfl⟩,.inl rfl⟩
  ·split<;>exact⟨⟨rfl,rfl⟩,.inl rfl⟩
 ·have h:=tK {t with st:=1} 3 ws;rw[Tk.BO hk];dsimp only
  split<;>exact⟨⟨h.2.1,h.2.2⟩,.inl h.1⟩
 ·rw[Tk.BP hk];dsimp only
  split
  ·exact⟨⟨rfl,rfl⟩,.inl rfl⟩
  ·split<;>exact⟨⟨rfl,rfl⟩,.inl rfl⟩
 ·have h:=tK {t with st:=3} 3 ws;rw[Tk.BQ hk];dsimp only
  split
  ·split
   ·split<;>exact⟨⟨h.2.1,h.2.2⟩,.inl h.1⟩
   ·exact⟨⟨h.2.1,h.2.2⟩,.inl h.1⟩
  ·exact⟨⟨h.2.1,h.2.2⟩,.inl h.1⟩
 ·rw[Tk.BR hk];dsimp only
  split
  ·exact⟨⟨rfl,rfl⟩,.inl rfl⟩
  ·split
   ·exact⟨⟨rfl,rfl⟩,.inl rfl⟩
   ·split<;>exact⟨⟨rfl,rfl⟩,.inl rfl⟩
 ·rw[Tk.BS hk]
  split<;>exact⟨⟨rfl,rfl⟩,.inl rfl⟩
 ·rw[Tk.BU hk];dsimp only
  split
  ·exact⟨⟨rfl,rfl⟩,.inl rfl⟩
  ·split<;>exact⟨⟨rfl,rfl⟩,.inl rfl⟩
 ·have h:=tK {t with st:=7} 0 ws;rw[Tk.BV hk];dsimp only
  split<;>exact⟨⟨h.2.1,h.2.2⟩,.inl h.1⟩
 ·have h:=wN t t.i t.word (if good then 1 else 2) ws;rw[Tk.BX hk];generalize (if good then 1 else 2)=d at h ⊢;dsimp only
  split<;>exact⟨⟨h.2.1,h.2.2⟩,.inl h.1⟩
 ·rw[Tk.uy hk]
  split<;>exact⟨⟨rfl,rfl⟩,.inl rfl⟩
 ·rw[Tk.uz hk];dsimp only
  split
  ·split
   ·exact⟨⟨rfl,rfl⟩,.inr (.inl ⟨_,rfl⟩)⟩
   ·exact⟨⟨rfl,rfl⟩,.inl rfl⟩
  ·exact⟨⟨rfl,rfl⟩,.inl rfl⟩
 ·rw[Tk.uA hk];dsimp only
  split
  ·split<;>exact⟨⟨rfl,rfl⟩,.inr (.inr ⟨hk,rfl⟩)⟩
  ·exact⟨⟨rfl,rfl⟩,.inr (.inr ⟨hk,rfl⟩)⟩
 ·rw[Tk.uB hk];exact⟨⟨rfl,rfl⟩,.inl rfl⟩
 ·have h:=wN t t.i t.word 16 ws;rw[Tk.uC hk];dsimp only
  split
  ·exact⟨⟨rfl,rfl⟩,.inl rfl⟩
  ·split
   ·split<;>exact⟨⟨h.2.1,h.2.2⟩,.inl h.1⟩
   ·exact⟨⟨h.2.1,h.2.2⟩,.inl h.1⟩
 ·rw[Tk.uD hk];exact⟨⟨rfl,rfl⟩,.inl rfl⟩
theorem BL.ret {t:Tk} (h:BL c who t) (hk:t.st=12):D7 t.cf t.ret:=by
 obtain⟨r,hr⟩:=h.ok.kz hk;have:t.ret=r:=by unfold Tk.ret;rw[hr];rfl
 rw[this,h.cf];exact h.rt r hr
theorem BL.step {t:Tk} (h:BL c who t) (hl:ws.length=sc c (ns c)) (good:Bool):BL c who (t.step ws good).1:=by
 obtain⟨⟨h1,h2⟩,h3⟩:=VT t ws good h.ok.st;have hr:=Lc (ws:=ws) (good:=good) (who:=who) (fun hk=>h.ret hk) h.ok.st;have hs:=(h.tk hl).step good;have hlen:=hs.len;rw[h1,h.cf]at hlen;refine⟨BK hs (by rw[zB,hlen];rfl),h1.trans h.cf,h2.trans h.w,fun r hr=>?_⟩
 rcases h3 with h3 | ⟨w,h3⟩ | ⟨hk,h3⟩
 ·exact h.rt r (by rw[<- h3];exact hr)
 ·rw[h3]at hr;cases hr;rw[h.cf];exact⟨t.i,by have:=h.ok.i;rw[h.cf]at this;exact this,rfl⟩
 ·rw[h3]at hr;cases hr;have:=h.ret hk;rw[h.cf]at this;exact this.step ws
structure BZ (c:aj.Cf) (who:Nat) (t:Ty.Ty):Prop where
 ok:Ty.eH t (sc c (ns c))
 cf:t.cf=c
 w:t.w=who
 rt:∀ r,t.rt=some r->D7 c r
theorem BZ.new (hc:aA c) (hw:who < c.workers.toNat):BZ c who (Ty.Ty.new c who):=by
 have h1:=hc.ns;have h2:=hc.nw;exact⟨Ty.eH.new hc.toC h1.1 ag rfl,rfl,rfl,by simp[Ty.Ty.new]⟩
theorem BZ.ret {t:Ty.Ty} (h:BZ c who t) (hk:t.st=4):D7 t.cf t.ret:=by
 obtain⟨r,hr⟩:=h.ok.kz hk;have:t.ret=r:=by unfold Ty.Ty.ret;rw[hr];rfl
 rw[this,h.cf];exact h.rt r hr
theorem VU (t:Ty.Ty) (ws:List Int) (hst:t.st<=17):(t.step ws).1.rt=t.rt\/(t.st=3/\∃ w,(t.step ws).1.rt=some (Rt.new (sc t.cf (t.step ws).1.i) w))\/(t.st=4/\(t.step ws).1.rt=some (t.ret.step ws).2.1):=by
 have hs:=Ty.OB t ws;have hcases:t.st=0\/t.st=1\/t.st=2\/t.st=3\/t.st=4\/t.st=5\/t.st=6\/t.st=7\/t.st=8\/t.st=9\/t.st=10\/t.st=11\/t.st=12\/t.st=13\/t.st=14\/t.st=15\/t.st=16\/t.st=17:=ag
 rcases hcases with hk | hk | hk | hk | hk | hk | hk | hk | hk | hk | hk | hk | hk | hk | hk | hk | hk | hk
 ·rw[Ty.BM hk];exact .inl rfl
 ·rw[Ty.BN hk];exact .inl rfl
 ·rw[Ty.BO hk];exact .inl rfl
 ·rw[Ty.BP hk];dsimp only
  split
  ·refine .inr (.inl ⟨hk,(t.dz ws).2.2.1.word,?_⟩);rfl
  ·split
   ·exact .inl hs.1
   ·exact .inl hs.1
 ·rw[Ty.BQ hk];dsimp only
  split
  ·exact .inr (.inr ⟨hk,rfl⟩)
  ·exact .inr (.inr ⟨hk,rfl⟩)
 ·rw[Ty.BR hk];dsimp only
  split
  ·split<;>exact .inl hs.1
  ·split
   ·split<;>exact .inl hs.1
   ·exact .inl hs.1
 ·rw[Ty.BS hk];dsimp only
  split
  ·exact .inl rfl
  ·split<;>exact .inl rfl
 ·rw[Ty.BU hk];exact .inl rfl
 ·rw[Ty.BV hk];split<;>exact .inl rfl
 ·rw[Ty.BX hk];dsimp only
  split
  ·exact .inl hs.1
  ·split<;>exact .inl hs.1
 ·rw[Ty.uy hk];generalize (if t.is=2 then (5:Nat) else 7)=d;dsimp only
  split<;>exact .inl rfl
 ·rw[Ty.uz hk];dsimp only;split<;>exact .inl rfl
 ·rw[Ty.uA hk];exact .inl rfl
 ·rw[Ty.uB hk];dsimp only;split<;>exact .inl rfl
 ·rw[Ty.uC hk];generalize (if t.is=4 then (6:Nat) else 8)=d;dsimp only
  split<;>exact .inl rfl
 ·rw[Ty.uD hk];exact .inl rfl
 ·rw[Ty.FC hk];split<;>exact .inl rfl
 ·rw[Ty.FD hk];exact .inl rfl
theorem vC.qok (h:vC c ws) (hc:aA c):Ty.QOk c ws:=by
 obtain⟨L,hL⟩:=h.line;have:=hL.q;have hlo:=Ty.Hz (L:=L) hL.x hc.w.2;intro h0;rw[<- this]at hlo;exact hlo 0 h0
theorem BZ.step {t:Ty.Ty} (h:BZ c who t) (hc:aA c) (hm:vC c ws):BZ c who (t.step ws).1/\(t.step ws).2.1.length=ws.length:=by
 have hq:=hm.qok hc;have h1:=Ty.OC t ws;have hok:Ty.eH t ws.length:=by rw[hm.len];exact h.ok
 obtain⟨hs,hl⟩:=hok.step (by rw[h.cf];exact hq);rw[hm.len]at hs;refine⟨⟨hs,h1.1.trans h.cf,h1.2.trans h.w,fun r hr=>?_⟩,hl⟩
 rcases VU t ws h.ok.st with h3 | ⟨-,w,h3⟩ | ⟨hk,h3⟩
 ·exact h.rt r (by rw[<- h3];exact hr)
 ·rw[h3]at hr;cases hr;have hi:=hs.i;rw[h1.1,h.cf]at hi;rw[h.cf];exact⟨_,hi,rfl⟩
 ·rw[h3]at hr;cases hr;have:=h.ret hk;rw[h.cf]at this;exact this.step ws
def wO (c:aj.Cf) (who:Nat) (a:Mod.Ask):Az->Prop
 | .get t=>a.op=0/\BL c who t
 | .give g=>(a.op=1\/a.op=2)/\pW c g/\g.w=who/\g.i=a.slot/\g.gen=a.gen/\g.discard=decide (a.op=2)
 | .stream x=>(a.op=3\/a.op=4)/\ny c x/\x.w=who/\x.i=a.slot/\x.gen=a.gen/\x.opens=decide (a.op=3)/\(a.op=4->x.num=a.stream)
 | .close f q=>a.op=6/\f=a.force/\∀ x,q=some x->fH c x
 | .stats t=>a.op=7/\pG c t
 | .bO r=>a.op=5/\nL c r
structure dY (c:aj.Cf) (who:Nat) (k:Wk):Prop where
 st:k.st<=8
 bq:∀ j,k.bq=some j->wO c who k.ask j
 xL:k.st=2->∃ j,k.bq=some j
 two:∀ t,k.two=some t->pG c t
 zf:k.st=3->∃ t,k.two=some t
 queue:∀ q,k.queue=some q->fH c q/\q.w=who
 xM:k.st=4\/k.st=8->∃ q,k.queue=some q
 tidy:∀ t,k.tidy=some t->BZ c who t
 xN:k.st=5->∃ t,k.tidy=some t
 half:k.half=true->k.st=1\/k.st=7
 grant:k.grant<=c.slots
 word:k.st=7->k.half=true->k.word<=c.slots
 op:k.st≠0->0<=k.ask.op/\k.ask.op < 8
 get:k.st=3\/k.st=4\/k.st=6\/k.st=7\/k.st=8\/k.st=5/\k.dO=true->k.ask.op=0
structure Ia (c:aj.Cf) (ws:List Int):Prop where
 l:vC c ws
 pin:∀ o,o < c.workers.toNat->rd ws (Ty.pc o)<=9223372036854775807
 grant:∀ o,o < c.workers.toNat-> -1<=rd ws (Ty.gc c o)/\rd ws (Ty.gc c o)<=c.slots
def dB (c:aj.Cf):Eff->Prop
 | .none=>True
 | .slot i _ _ _=>i < ns c
 | .aJ=>True
 | .pin x=>x<=9223372036854775807
 | .grant o x=>o < c.workers.toNat/\ -1<=x/\x<=c.slots
 | .line q=>∃ L,bA c q L
 | .closed x=>0<=x/\x<=2
theorem dB.dF {i:Nat} {old:Int} {e:Eff} (h:rd ws i=old->dB c e):dB c (eU ws i old e):=by
 unfold eU
 split
 ·rename_i hh;exact h hh
 ·trivial
theorem OD (who:Nat) (ws:List Int) (e:Eff):(e.run c who ws).length=ws.length:=by
 unfold Eff.run
 split<;>(try simp)
 split<;>simp
theorem Ia.run (h:Ia c ws) (hc:aA c) (hw:who < c.workers.toNat) {e:Eff} (he:dB c e):Ia c (e.run c who ws):=by
 have hl:=OD (c:=c) who ws e;have hlen:=h.l.len;rw[fI]at hlen;obtain⟨L,hL⟩:=h.l.line;have hns:=hc.ns
 have key:∀ aC:List Int,aC.length=ws.length->(∃ L,bA c (rd aC 1) L)->(∀ o,o < c.workers.toNat->rd aC (Ty.pc o)<=9223372036854775807)->(∀ o,o < c.workers.toNat-> -1<=rd aC (Ty.gc c o)/\rd aC (Ty.gc c o)<=c.slots)->Ia c aC:=
  fun aC h1 h2 h3 h4=>⟨⟨h1.trans h.l.len,h2⟩,h3,h4⟩
 have far:∀ (i:Nat) (x:Int),(i=0\/i=2\/3+2 * c.workers.toNat<=i)->Ia c (ws.set i x):=by
  intro i x hi;refine key _ au ⟨L,by rw[Ty.aP ag];exact hL⟩ (fun o ho=>?_) (fun o ho=>?_)
  ·rw[Ty.aP (by unfold Ty.pc;omega)];exact h.pin o ho
  ·rw[Ty.aP (by unfold Ty.gc;omega)];exact h.grant o ho
 cases e with
 | none=>exact h
 | slot i d own more=>
  unfold Eff.run;simp only
  split
  ·exact far _ _ (by unfold sc;omega)
  ·exact h
 | aJ=>exact far _ _ ag
 | pin x=>
  refine key _ (by simp[Eff.run]) ⟨L,by simp only[Eff.run];rw[Ty.aP (by unfold Ty.pc;omega)];exact hL⟩ (fun o ho=>?_) (fun o ho=>?_)
  ·simp only[Eff.run]
   by_cases e:Ty.pc who=Ty.pc o
   ·rw[e,Ty.fq (by unfold Ty.pc;omega)];exact he
   ·rw[Ty.aP e];exact h.pin o ho
  ·simp only[Eff.run];rw[Ty.aP (by unfold Ty.gc Ty.pc;omega)];exact h.grant o ho
 | grant g x=>
  obtain⟨h1,h2⟩:=he;refine key _ (by simp[Eff.run]) ⟨L,by simp only[Eff.run];rw[Ty.aP (by unfold Ty.gc;omega)];exact hL⟩ (fun o ho=>?_) (fun o ho=>?_)
  ·simp only[Eff.run];rw[Ty.aP (by unfold Ty.gc Ty.pc;omega)];exact h.pin o ho
  ·simp only[Eff.run]
   by_cases e:Ty.gc c g=Ty.gc c o
   ·rw[e,Ty.fq (by unfold Ty.gc;omega)];exact h2
   ·rw[Ty.aP e];exact h.grant o ho
 | line q=>
  obtain⟨L',hL'⟩:=he;refine key _ (by simp[Eff.run]) ⟨L',by simp only[Eff.run];rw[Ty.fq ag];exact hL'⟩ (fun o ho=>?_) (fun o ho=>?_)
  ·simp only[Eff.run];rw[Ty.aP (by unfold Ty.pc;omega)];exact h.pin o ho
  ·simp only[Eff.run];rw[Ty.aP (by unfold Ty.gc;omega)];exact h.grant o ho
 | closed x=>exact far _ _ ag
theorem zC {r:Rt} (h:D7 c r) (ws:List Int):dB c (Hu c r ws):=by
 obtain⟨-,h1⟩:=h.six;unfold Hu
 split
 ·exact dB.dF fun _=>h1
 ·exact dB.dF fun _=>h1
 ·trivial
 ·trivial
theorem Tj {t:Tk} (h:BL c who t) (ws:List Int) (good:Bool):dB c (QO t ws good):=by
 have hok:=h.ok
 have iV:t.st=2\/t.st=4\/t.st=6\/t.st=8->t.fd.at' < ns c:=by
  intro hh;obtain⟨f,h3,h4⟩:=hok.has ag ag;have:=(hok.look f h3).2.2 (h4 ag);have hf:t.fd=f:=by unfold Tk.fd;rw[h3];rfl
  rw[hf,<- h.cf];exact this
 have hi:t.i < ns c:=by have:=hok.i;rw[h.cf]at this;exact this
 unfold QO
 split
 ·exact dB.dF fun _=>iV ag
 ·exact dB.dF fun _=>iV ag
 ·exact dB.dF fun _=>iV ag
 ·exact dB.dF fun _=>iV ag
 ·exact dB.dF fun _=>hi
 ·rename_i hk
  have:=h.ret hk;rw[h.cf]at this ⊢;exact zC this ws
 ·exact dB.dF fun _=>hi
 ·trivial
theorem Tm {t:Ty.Ty} (h:BZ c who t) (hc:aA c) (hm:vC c ws):dB c (OA t ws):=by
 have hok:=h.ok;have hns:=hc.ns;have hi:t.i < ns c:=by have:=hok.i;rw[h.cf]at this;exact this
 have hh:9<=t.st->t.st<=14->0<=t.head/\t.head < c.workers:=by have:=hok.head;rw[h.cf]at this;exact this
 unfold OA
 split
 ·exact Ty.FE _
 ·rename_i hk
  have:=h.ret hk;rw[h.cf]at this ⊢;exact zC this ws
 ·exact dB.dF fun _=>hi
 ·exact dB.dF fun _=>hi
 ·refine dB.dF fun e=>?_
  obtain⟨L,hL⟩:=hm.line;rw[e]at hL;exact⟨_,hL.pop hc⟩
 ·rename_i hk
  have:=hh ag ag;exact⟨ag,ag,ag⟩
 ·exact dB.dF fun _=>hi
 ·show(0:Int)<=_;omega
 ·trivial
theorem D8 {q:Qu} (h:fH c q) (hc:aA c) (ws:List Int):dB c (Hw q ws):=by
 unfold Hw
 split
 ·rename_i hk
  obtain⟨L,h1,h2,h3⟩:=h.push hk;exact dB.dF fun _=>⟨_,h1.push hc h.w h2 h3⟩
 ·rename_i hk
  obtain⟨L,h1,h2⟩:=h.drop hk;exact dB.dF fun _=>⟨_,h1.drop hc q.w⟩
 ·rename_i hk
  obtain⟨x,L,h1,h2⟩:=h.pop hk;exact dB.dF fun _=>⟨_,h1.pop hc⟩
 ·rename_i hk
  have:=h.tell hk;have:=hc.s;exact⟨ag,ag,ag⟩
 ·trivial
theorem Tp {g:Gi} (h:pW c g) (ws:List Int):dB c (QS g ws):=by
 unfold QS
 split
 ·rename_i hk
  have:=h.has (.inl hk);exact dB.dF fun _=>by show g.i.toNat < ns c;unfold ns;omega
 ·rename_i hk
  obtain⟨r,hr⟩:=h.kz hk;have hret:g.ret=r:=by unfold Gi.ret;rw[hr];rfl
  rw[h.cf,hret];exact zC (h.rt r hr).2 ws
 ·trivial
theorem Tq {x:Sm} (h:ny c x) (ws:List Int):dB c (QT x ws):=by
 unfold QT
 split
 ·rename_i hk
  have:=h.has hk;exact dB.dF fun _=>by show x.i.toNat < ns c;unfold ns;omega
 ·trivial
end
inductive Stp (c:aj.Cf) (who:Nat) (at':Nat) (s:Sh) (k:Wk):Wk->Sh->Option Mod.Ev->Prop
 | aJ:k.st=1->k.half=false->Stp c who at' s k {k with word:=rd s.ws 2,half:=true} (s.cells (s.ws,1)) none
 | pin:k.st=1->k.half=true->Stp c who at' s k {k with half:=false,bq:=some (k.begin c who),st:=2} (s.cells (s.ws.set (Ty.pc who) (wrap64 (k.word+1)),1)) none
 | yw (t t':Tk) (aC:List Int) (n:Nat) (s1:Sh):k.st=2->k.bq=some (.get t)->t.step s.ws (decide (t.st=9) && s.outcome)=(t',aC,n)->s1=(if t.st=9 then s.next else s)->t'.st≠15->
   Stp c who at' s k {k with bq:=some (.get t')} (s1.cells (aC,n)) none
 | oM (t t':Tk) (aC:List Int) (n:Nat) (s1:Sh):k.st=2->k.bq=some (.get t)->t.step s.ws (decide (t.st=9) && s.outcome)=(t',aC,n)->s1=(if t.st=9 then s.next else s)->t'.st=15->t'.e=3->k.ask.wait=true->
   Stp c who at' s k {k with bq:=some (.get t'),queue:=some (Qu.enter c who),st:=4} (s1.cells (aC,n)) none
 | lN (t t':Tk) (aC:List Int) (n:Nat) (s1:Sh):k.st=2->k.bq=some (.get t)->t.step s.ws (decide (t.st=9) && s.outcome)=(t',aC,n)->s1=(if t.st=9 then s.next else s)->t'.st=15->t'.e=3->k.ask.wait=false->
   Stp c who at' s k {k with bq:=some (.get t'),two:=some (Tw.new c),st:=3} (s1.cells (aC,n)) none
 | sM (t t':Tk) (aC:List Int) (n:Nat) (s1:Sh):k.st=2->k.bq=some (.get t)->t.step s.ws (decide (t.st=9) && s.outcome)=(t',aC,n)->s1=(if t.st=9 then s.next else s)->t'.st=15->t'.e≠3->
   Stp c who at' s k (({k with bq:=some (.get t')}:Wk).finish c who {Mod.Ev.zero with e:=t'.answer.1,slot:=t'.answer.2.1,gen:=t'.answer.2.2}) (s1.cells (aC,n)) none
 | sN (g g':Gi) (aC:List Int) (n:Nat):k.st=2->k.bq=some (.give g)->g.step s.ws=(g',aC,n)->g'.st≠4->Stp c who at' s k {k with bq:=some (.give g')} (s.cells (aC,n)) none
 | oN (g g':Gi) (aC:List Int) (n:Nat):k.st=2->k.bq=some (.give g)->g.step s.ws=(g',aC,n)->g'.st=4->Stp c who at' s k (({k with bq:=some (.give g')}:Wk).finish c who {Mod.Ev.zero with e:=g'.e}) (s.cells (aC,n)) none
 | yx (x x':Sm) (aC:List Int) (n:Nat):k.st=2->k.bq=some (.stream x)->x.step s.ws=(x',aC,n)->x'.st≠3->Stp c who at' s k {k with bq:=some (.stream x')} (s.cells (aC,n)) none
 | sO (x x':Sm) (aC:List Int) (n:Nat):k.st=2->k.bq=some (.stream x)->x.step s.ws=(x',aC,n)->x'.st=3->
   Stp c who at' s k (({k with bq:=some (.stream x')}:Wk).finish c who {Mod.Ev.zero with e:=x'.answer.1,stream:=x'.answer.2}) (s.cells (aC,n)) none
 | lQ (f:Bool):k.st=2->k.bq=some (.close f none)->Stp c who at' s k {k with bq:=some (.close f (some (Qu.drain c)))} (s.cells (if f then s.ws.set 0 2 else (dF s.ws 0 0 1).2,1)) none
 | oO (f:Bool) (q q':Qu) (aC:List Int) (n:Nat):k.st=2->k.bq=some (.close f (some q))->q.step s.ws=(q',aC,n)->q'.st≠8->Stp c who at' s k {k with bq:=some (.close f (some q'))} (s.cells (aC,n)) none
 | lS (f:Bool) (q q':Qu) (aC:List Int) (n:Nat):k.st=2->k.bq=some (.close f (some q))->q.step s.ws=(q',aC,n)->q'.st=8->Stp c who at' s k (({k with bq:=some (.close f (some q'))}:Wk).finish c who Mod.Ev.zero) (s.cells (aC,n)) none
 | oP (t t':Tw) (n:Nat):k.st=2->k.bq=some (.stats t)->t.step s.ws=(t',n)->t'.done=false->Stp c who at' s k {k with bq:=some (.stats t')} (s.cells (s.ws,n)) none
 | lT (t t':Tw) (n:Nat):k.st=2->k.bq=some (.stats t)->t.step s.ws=(t',n)->t'.done=true->Stp c who at' s k (({k with bq:=some (.stats t')}:Wk).finish c who (counted t'.last)) (s.cells (s.ws,n)) none
 | jT (r:Rp) (b:Bool) (f:Tk.Fd) (n:Nat):k.st=2->k.bq=some (.bO r)->r.st=0->r.look.step c s.ws=(b,f,n)->f.found=true->Stp c who at' s k {k with bq:=some (.bO {r with look:=f,st:=1})} (s.cells (s.ws,n)) none
 | lU (r:Rp) (f:Tk.Fd) (n:Nat):k.st=2->k.bq=some (.bO r)->r.st=0->r.look.step c s.ws=(true,f,n)->f.found=false->
   Stp c who at' s k (({k with bq:=some (.bO {r with look:=f})}:Wk).finish c who {Mod.Ev.zero with slot:=r.many}) (s.cells (s.ws,n)) none
 | lV (r:Rp) (f:Tk.Fd) (n:Nat):k.st=2->k.bq=some (.bO r)->r.st=0->r.look.step c s.ws=(false,f,n)->f.found=false->Stp c who at' s k {k with bq:=some (.bO {r with look:=f})} (s.cells (s.ws,n)) none
 | sP (r:Rp):k.st=2->k.bq=some (.bO r)->r.st=1->Stp c who at' s k {k with bq:=some (.bO {r with st:=2})} s.next none
 | oQ (r:Rp):k.st=2->k.bq=some (.bO r)->r.st=1->Stp c who at' s k {k with bq:=some (.bO {r with rt:=some (Rt.new (sc c r.look.at') r.look.word),st:=3})} s.next none
 | lW (r:Rp) (s1:Sh):k.st=2->k.bq=some (.bO r)->r.st=2->
   (s1=match bn r.look.word 10 who 0 with | some nw=>s.cells ((dF s.ws (sc c r.look.at') r.look.word nw).2,1) | none=>s)->Stp c who at' s k {k with bq:=some (.bO r.kC)} s1 none
 | oU (r:Rp) (x x':Rt) (b:Bool) (aC:List Int) (n:Nat) (many:Int):k.st=2->k.bq=some (.bO r)->r.st=3->r.rt=some x->x.step s.ws=(b,x',aC,n)->b=true->(many=if x'.swapped then wrap64 (r.many+1) else r.many)->
   Stp c who at' s k {k with bq:=some (.bO {r with rt:=some x',many:=many,look:=r.look.go,st:=0})} (s.cells (aC,n)) none
 | jU (r:Rp) (x x':Rt) (b:Bool) (aC:List Int) (n:Nat):k.st=2->k.bq=some (.bO r)->r.st=3->r.rt=some x->x.step s.ws=(b,x',aC,n)->b=false->Stp c who at' s k {k with bq:=some (.bO {r with rt:=some x'})} (s.cells (aC,n)) none
 | oV (t t':Tw) (n:Nat):k.st=3->k.two=some t->t.step s.ws=(t',n)->t'.done=false->Stp c who at' s k {k with two:=some t'} (s.cells (s.ws,n)) none
 | jV (t t':Tw) (n:Nat):k.st=3->k.two=some t->t.step s.ws=(t',n)->t'.done=true->t'.last.any (fun w=>eF w 3 who)=true->Stp c who at' s k {k with two:=some t',bq:=some (.get (Tk.new c who)),st:=2} (s.cells (s.ws,n)) none
 | lX (t t':Tw) (n:Nat):k.st=3->k.two=some t->t.step s.ws=(t',n)->t'.done=true->t'.last.any (fun w=>eF w 3 who)=false->Stp c who at' s k (({k with two:=some t'}:Wk).finish c who {Mod.Ev.zero with e:=3}) (s.cells (s.ws,n)) none
 | oW (q q':Qu) (aC:List Int) (n:Nat):k.st=4->k.queue=some q->q.step s.ws=(q',aC,n)->q'.st≠8->Stp c who at' s k {k with queue:=some q'} (s.cells (aC,n)) none
 | lY (q q':Qu) (aC:List Int) (n:Nat):k.st=4->k.queue=some q->q.step s.ws=(q',aC,n)->q'.st=8->q'.e≠0->q'.e≠8->Stp c who at' s k (({k with queue:=some q'}:Wk).finish c who {Mod.Ev.zero with e:=q'.e}) (s.cells (aC,n)) none
 | oZ (q q':Qu) (aC:List Int) (n:Nat):k.st=4->k.queue=some q->q.step s.ws=(q',aC,n)->q'.st=8->q'.e=0\/q'.e=8->Stp c who at' s k (({k with queue:=some q',dA:=decide (q'.e=0)}:Wk).aR c who true) (s.cells (aC,n)) none
 | sQ (t t':Ty.Ty) (aC:List Int) (n:Nat):k.st=5->k.tidy=some t->t.step s.ws=(t',aC,n)->t'.st≠17->Stp c who at' s k {k with tidy:=some t'} (s.cells (aC,n)) none
 | lZ (t t':Ty.Ty) (aC:List Int) (n:Nat):k.st=5->k.tidy=some t->t.step s.ws=(t',aC,n)->t'.st=17->k.dO=true->Stp c who at' s k {k with tidy:=some t',st:=6} (s.cells (aC,n)) none
 | mg (t t':Ty.Ty) (aC:List Int) (n:Nat):k.st=5->k.tidy=some t->t.step s.ws=(t',aC,n)->t'.st=17->k.dO=false->Stp c who at' s k {k with tidy:=some t',st:=0} (s.cells (aC,n)) (some {k.ans with ended:=true,who:=who,at':=at',ask:=k.ask})
 | mh:k.st=6->k.half=false->granted c who s≠0->Stp c who at' s k {k with st:=7,word:=granted c who s,half:=true} (s.cells (s.ws,1)) none
 | mo (q':Qu) (aC:List Int) (n:Nat):k.st=6->granted c who s=0->(Qu.leave c who).step s.ws=(q',aC,n)->q'.st≠8->Stp c who at' s k {k with queue:=some q',st:=8} (s.cells (aC,n)) none
 | mq (q':Qu) (aC:List Int) (n:Nat):k.st=6->granted c who s=0->(Qu.leave c who).step s.ws=(q',aC,n)->q'.st=8->q'.e=8->Stp c who at' s k {k with queue:=some q',dA:=false,st:=6} (s.cells (aC,n)) none
 | mD:k.st=7->k.half=false->Stp c who at' s k {k with word:=granted c who s,half:=true} (s.cells (s.ws,1)) none
 | mE:k.st=7->k.half=true->k.word < 0->Stp c who at' s k (({k with half:=false}:Wk).finish c who {Mod.Ev.zero with e:=5}) (s.cells (s.ws.set (Ty.gc c who) 0,1)) none
 | o5:k.st=7->k.half=true->0<=k.word->Stp c who at' s k {k with half:=false,grant:=k.word,st:=1} (s.cells (s.ws.set (Ty.gc c who) 0,1)) none
 | o6 (q q':Qu) (aC:List Int) (n:Nat):k.st=8->k.queue=some q->q.step s.ws=(q',aC,n)->q'.st≠8->Stp c who at' s k {k with queue:=some q'} (s.cells (aC,n)) none
 | jW (q q':Qu) (aC:List Int) (n:Nat):k.st=8->k.queue=some q->q.step s.ws=(q',aC,n)->q'.st=8->q'.e=8->Stp c who at' s k {k with queue:=some q',dA:=false,st:=6} (s.cells (aC,n)) none
 | mF (q q':Qu) (aC:List Int) (n:Nat):k.st=8->k.queue=some q->q.step s.ws=(q',aC,n)->q'.st=8->q'.e≠8->Stp c who at' s k (({k with queue:=some q'}:Wk).finish c who {Mod.Ev.zero with e:=q'.e}) (s.cells (aC,n)) none
section
variable {c:aj.Cf} {who at':Nat} {s:Sh} {k:Wk}
theorem dY.Dy (h:dY c who k) (h1:k.st≠1) (h7:k.st≠7):k.half=false:=by
 cases hh:k.half
 ·rfl
 ·exact absurd (h.half hh) ag
theorem QA {t:Tk} (h:t.st=15):t.answer.1=t.e:=by
 unfold Tk.answer;rw[if_neg (by simp[h])]
 split
 ·rfl
 ·rename_i h0
  simp only[ne_eq,Decidable.not_not]at h0;exact h0.symm
theorem NU (h:dY c who k) (hk:k.st=2) {t:Tk} (hj:k.bq=some (.get t)):Stp c who at' s k (k.gets c who t s).1 (k.gets c who t s).2 none:=by
 unfold Wk.gets;dsimp only
 rcases hr:t.step s.ws (decide (t.st=9) && s.outcome)with⟨t',aC,n⟩
 dsimp only
 by_cases xE:t'.st=15
 ·rw[if_neg (by simp[xE]),QA xE]
  by_cases h3:t'.e=3
  ·rw[if_pos h3]
   by_cases hw:k.ask.wait=true
   ·rw[if_pos hw];exact .oM t t' aC n _ hk hj hr rfl xE h3 hw
   ·rw[if_neg hw];exact .lN t t' aC n _ hk hj hr rfl xE h3 (by simpa using hw)
  ·rw[if_neg h3,<- QA xE];exact .sM t t' aC n _ hk hj hr rfl xE h3
 ·rw[if_pos xE];exact .yw t t' aC n _ hk hj hr rfl xE
theorem NV (k:Wk) (c:aj.Cf) (who:Nat) (m:Int) (l:Tk.Fd) (rt:Option Rt) (s:Sh):k.iH c who ⟨0,m,l,rt⟩ s=
  if (l.step c s.ws).2.1.found=true then ({k with bq:=some (.bO ⟨1,m,(l.step c s.ws).2.1,rt⟩)},s.cells (s.ws,(l.step c s.ws).2.2))
  else if (l.step c s.ws).1=true then (({k with bq:=some (.bO ⟨0,m,(l.step c s.ws).2.1,rt⟩)}:Wk).finish c who {Mod.Ev.zero with slot:=m},s.cells (s.ws,(l.step c s.ws).2.2))
  else ({k with bq:=some (.bO ⟨0,m,(l.step c s.ws).2.1,rt⟩)},s.cells (s.ws,(l.step c s.ws).2.2)):=rfl
theorem Fq (k:Wk) (c:aj.Cf) (who:Nat) (m:Int) (l:Tk.Fd) (rt:Option Rt) (s:Sh):k.iH c who ⟨1,m,l,rt⟩ s=
  if (match dec l.word with | some x=>s.outcome && !x.marked && !x.broken | none=>s.outcome)=true then ({k with bq:=some (.bO ⟨2,m,l,rt⟩)},s.next)
  else ({k with bq:=some (.bO ⟨3,m,l,some (Rt.new (sc c l.at') l.word)⟩)},s.next):=rfl
theorem NW (k:Wk) (c:aj.Cf) (who:Nat) (m:Int) (l:Tk.Fd) (rt:Option Rt) (s:Sh):k.iH c who ⟨2,m,l,rt⟩ s=
  ({k with bq:=some (.bO (Rp.kC ⟨2,m,l,rt⟩))},match bn l.word 10 who 0 with | some nw=>s.cells ((dF s.ws (sc c l.at') l.word nw).2,1) | none=>s):=rfl
theorem NY (k:Wk) (c:aj.Cf) (who:Nat) (m:Int) (l:Tk.Fd) (x:Rt) (s:Sh):k.iH c who ⟨3,m,l,some x⟩ s=
  if (x.step s.ws).1=true then ({k with bq:=some (.bO (if (x.step s.ws).2.1.swapped=true then (⟨3,wrap64 (m+1),l,some (x.step s.ws).2.1⟩:Rp) else ⟨3,m,l,some (x.step s.ws).2.1⟩).kC)},s.cells (x.step s.ws).2.2)
  else ({k with bq:=some (.bO ⟨3,m,l,some (x.step s.ws).2.1⟩)},s.cells (x.step s.ws).2.2):=rfl
theorem Kh (h:dY c who k) (hk:k.st=2) {r:Rp} (hj:k.bq=some (.bO r)):Stp c who at' s k (k.iH c who r s).1 (k.iH c who r s).2 none:=by
 have hr:=(h.bq _ hj).2;have hst:=hr.st;have hhas:=hr.kz;obtain⟨Vx,Bh,qW,rrt⟩:=r;dsimp only at hst hhas;have hcases:Vx=0\/Vx=1\/Vx=2\/Vx=3:=ag
 rcases hcases with h0 | h0 | h0 | h0
 ·subst h0;rw[NV]
  rcases hf:qW.step c s.ws with⟨b,f,n⟩
  dsimp only
  by_cases hfo:f.found=true
  ·rw[if_pos hfo];exact .jT _ b f n hk hj rfl hf hfo
  ·rw[if_neg hfo];have Vy:f.found=false:=by simpa using hfo
   cases b
   ·rw[if_neg au];exact .lV _ f n hk hj rfl hf Vy
   ·rw[if_pos rfl];exact .lU _ f n hk hj rfl hf Vy
 ·subst h0;rw[Fq];generalize (match dec qW.word with | some x=>s.outcome && !x.marked && !x.broken | none=>s.outcome)=ok;cases ok
  ·rw[if_neg au];exact .oQ _ hk hj rfl
  ·rw[if_pos rfl];exact .sP _ hk hj rfl
 ·subst h0;rw[NW];exact .lW _ _ hk hj rfl rfl
 ·subst h0;obtain⟨x,hx⟩:=hhas rfl;subst hx;rw[NY]
  rcases hs:x.step s.ws with⟨b,x',aC,n⟩
  dsimp only;cases b
  ·rw[if_neg au];exact .jU _ x x' _ aC n hk hj rfl rfl hs rfl
  ·rw[if_pos rfl]
   have e:(if x'.swapped=true then ({st:=3,many:=wrap64 (Bh+1),look:=qW,rt:=some x'}:Rp) else {st:=3,many:=Bh,look:=qW,rt:=some x'}).kC={st:=0,many:=if x'.swapped then wrap64 (Bh+1) else Bh,look:=qW.go,rt:=some x'}:=by
    unfold Rp.kC
    split<;>rfl
   rw[e];exact .oU _ x x' _ aC n _ hk hj rfl rfl hs rfl rfl
theorem GH (h:dY c who k) (hk:k.st=2):Stp c who at' s k (k.works c who s).1 (k.works c who s).2 none:=by
 obtain⟨j,hj⟩:=h.xL hk;unfold Wk.works;rw[hj]
 cases j with
 | get t=>exact NU h hk hj
 | give g=>
  dsimp only
  rcases hr:g.step s.ws with⟨g',aC,n⟩
  dsimp only
  split
  ·exact .oN g g' aC n hk hj hr ‹_›
  ·exact .sN g g' aC n hk hj hr ‹_›
 | stream x=>
  dsimp only
  rcases hr:x.step s.ws with⟨x',aC,n⟩
  dsimp only
  split
  ·exact .sO x x' aC n hk hj hr ‹_›
  ·exact .yx x x' aC n hk hj hr ‹_›
 | close f q=>
  cases q with
  | none=>exact .lQ f hk hj
  | some q=>
   dsimp only
   rcases hr:q.step s.ws with⟨q',aC,n⟩
   dsimp only
   split
   ·exact .lS f q q' aC n hk hj hr ‹_›
   ·exact .oO f q q' aC n hk hj hr ‹_›
 | stats t=>
  dsimp only
  rcases hr:t.step s.ws with⟨t',n⟩
  dsimp only;cases hd:t'.done
  ·rw[if_neg au];exact .oP t t' n hk hj hr hd
  ·rw[if_pos rfl];exact .lT t t' n hk hj hr hd
 | bO r=>exact Kh h hk hj
theorem Bi (ws:List Int):((Qu.leave c who).step ws).1.st=8->((Qu.leave c who).step ws).1.e=8:=by
 have e:(Qu.leave c who).step ws=if JG (rd ws 1) (who:Int)=true then ({Qu.leave c who with line:=rd ws 1,st:=4},ws,1) else ({Qu.leave c who with line:=rd ws 1}.finish 8,ws,1):=rfl
 rw[e]
 split
 ·intro h;simp at h
 ·intro _;rfl
theorem vW (h:dY c who k) (h0:k.st≠0):Stp c who at' s k (k.step c who at' s).1 (k.step c who at' s).2.1 (k.step c who at' s).2.2:=by
 have hst:=h.st;have QB:=h.zf;have Ki:=h.xM;have QC:=h.xN;have vX:=h.Dy;have hwk:=fun hk=>GH (at':=at') (s:=s) h hk
 obtain⟨st,ask,half,word,grant,bq,two,queue,tidy,dO,dA,ans⟩:=k;dsimp only at hst h0 QB Ki QC vX hwk;have hcases:st=1\/st=2\/st=3\/st=4\/st=5\/st=6\/st=7\/st=8:=ag
 unfold Wk.step
 rcases hcases with hk | hk | hk | hk | hk | hk | hk | hk
 ·subst hk;simp only[];cases half
  ·rw[if_neg au];exact .aJ rfl rfl
  ·rw[if_pos rfl];exact .pin rfl rfl
 ·subst hk;exact hwk rfl
 ·subst hk;obtain⟨t,rfl⟩:=QB rfl;simp only[]
  rcases hr:t.step s.ws with⟨t',n⟩
  dsimp only;cases hd:t'.done
  ·rw[if_pos au];exact .oV t t' n rfl rfl hr hd
  ·rw[if_neg au];cases hf:t'.last.any (fun w=>eF w 3 who)
   ·rw[if_neg au];exact .lX t t' n rfl rfl hr hd hf
   ·rw[if_pos rfl];exact .jV t t' n rfl rfl hr hd hf
 ·subst hk;obtain⟨q,rfl⟩:=Ki (.inl rfl);simp only[]
  rcases hr:q.step s.ws with⟨q',aC,n⟩
  dsimp only
  by_cases h8:q'.st=8
  ·rw[if_neg (by simp[h8])]
   split
   ·rename_i he
    exact .lY q q' aC n rfl rfl hr h8 he.1 he.2
   ·rename_i he
    exact .oZ q q' aC n rfl rfl hr h8 ag
  ·rw[if_pos h8];exact .oW q q' aC n rfl rfl hr h8
 ·subst hk;obtain⟨t,rfl⟩:=QC rfl;simp only[]
  rcases hr:t.step s.ws with⟨t',aC,n⟩
  dsimp only
  by_cases Fs:t'.st=17
  ·rw[if_neg (by simp[Fs])];cases dO
   ·rw[if_neg au];exact .mg t t' aC n rfl rfl hr Fs rfl
   ·rw[if_pos rfl];exact .lZ t t' aC n rfl rfl hr Fs rfl
  ·rw[if_pos Fs];exact .sQ t t' aC n rfl rfl hr Fs
 ·subst hk;have hh:=vX ag ag;subst hh;simp only[]
  split
  ·rename_i hg
   unfold Wk.wakes;dsimp only;rw[if_neg au];exact .mh rfl rfl hg
  ·rename_i hg
   have hl:=Bi (c:=c) (who:=who) s.ws;unfold Wk.leaves;dsimp only
   rcases hr:(Qu.leave c who).step s.ws with⟨q',aC,n⟩
   rw[hr]at hl;dsimp only at hl ⊢
   by_cases h8:q'.st=8
   ·rw[if_neg (by simp[h8]),if_pos (hl h8)];exact .mq q' aC n rfl (by simpa using hg) hr h8 (hl h8)
   ·rw[if_pos h8];exact .mo q' aC n rfl (by simpa using hg) hr h8
 ·subst hk;simp only[];unfold Wk.wakes;cases half
  ·rw[if_neg au];exact .mD rfl rfl
  ·rw[if_pos rfl];dsimp only
   split
   ·exact .mE rfl rfl ‹_›
   ·rename_i hn
    exact .o5 rfl rfl (by show 0<=word;omega)
 ·subst hk;obtain⟨q,rfl⟩:=Ki (.inr rfl);simp only[];unfold Wk.leaves
  rcases hr:q.step s.ws with⟨q',aC,n⟩
  dsimp only
  by_cases h8:q'.st=8
  ·rw[if_neg (by simp[h8])]
   split
   ·exact .jW q q' aC n rfl rfl hr h8 ‹_›
   ·exact .mF q q' aC n rfl rfl hr h8 ‹_›
  ·rw[if_pos h8];exact .o6 q q' aC n rfl rfl hr h8
end
section
variable {c:aj.Cf} {ws:List Int} {who:Nat} {k:Wk} {s:Sh}
def D9 (c:aj.Cf) (who:Nat) (r:Rp) (ws:List Int):Eff:=
 match r.st with
 | 2=>eU ws (sc c r.look.at') r.look.word (.slot r.look.at' 10 who 0)
 | 3=>Hu c r.ret ws
 | _=>.none
def xV (c:aj.Cf) (who:Nat) (j:Az) (s:Sh):Eff:=
 match j with
 | .get t=>QO t s.ws (decide (t.st=9) && s.outcome)
 | .give g=>QS g s.ws
 | .stream x=>QT x s.ws
 | .close force none=>if force then .closed 2 else eU s.ws 0 0 (.closed 1)
 | .close _ (some q)=>Hw q s.ws
 | .bO r=>D9 c who r s.ws
 | .stats _=>.none
def oL (c:aj.Cf) (who:Nat) (k:Wk) (s:Sh):Eff:=
 match k.st with
 | 1=>if k.half then .pin (wrap64 (k.word+1)) else .none
 | 2=>match k.bq with | some j=>xV c who j s | none=>.none
 | 4=>match k.queue with | some q=>Hw q s.ws | none=>.none
 | 5=>match k.tidy with | some t=>OA t s.ws | none=>.none
 | 7=>if k.half then .grant who 0 else .none
 | 8=>match k.queue with | some q=>Hw q s.ws | none=>.none
 | _=>.none
theorem dY.zero (hc:aA c):dY c who Wk.zero:=⟨by simp[Wk.zero],by simp[Wk.zero],by simp[Wk.zero],by simp[Wk.zero],by simp[Wk.zero],by simp[Wk.zero],by simp[Wk.zero],by simp[Wk.zero],by simp[Wk.zero],by simp[Wk.zero],by have:=hc.s;simp[Wk.zero];omega,by simp[Wk.zero],by simp[Wk.zero],by simp[Wk.zero]⟩
theorem dY.fE (h:dY c who k) {j:Az} (hj:wO c who k.ask j):dY c who {k with bq:=some j}:=
 ⟨h.st,fun x e=>by cases e;exact hj,fun _=>⟨j,rfl⟩,h.two,h.zf,h.queue,h.xM,h.tidy,h.xN,h.half,h.grant,h.word,h.op,h.get⟩
theorem dY.aR (h:dY c who k) (hc:aA c) (hw:who < c.workers.toNat) (hh:k.half=false) (hst:k.st≠0) (p:Bool) (hp:p=true->k.ask.op=0):dY c who (k.aR c who p):=
 ⟨by simp[Wk.aR],h.bq,by simp[Wk.aR],h.two,by simp[Wk.aR],h.queue,by simp[Wk.aR],fun t e=>by cases e;exact BZ.new hc hw,fun _=>⟨_,rfl⟩,fun e=>absurd (show k.half=true from e) (by simp[hh]),h.grant,by simp[Wk.aR],fun _=>h.op hst,
  fun e=>by simp[Wk.aR]at e;exact hp e⟩
theorem dY.finish (h:dY c who k) (hc:aA c) (hw:who < c.workers.toNat) (hh:k.half=false) (hst:k.st≠0) (x:Mod.Ev):dY c who (k.finish c who x):=
 dY.aR (k:={k with ans:=x}) ⟨h.st,h.bq,h.xL,h.two,h.zf,h.queue,h.xM,h.tidy,h.xN,h.half,h.grant,h.word,h.op,h.get⟩ hc hw hh hst false au
theorem Lr (h:dY c who k) (hc:aA c) (hw:who < c.workers.toNat) (hst:k.st≠0):wO c who k.ask (k.begin c who):=by
 have hop:=h.op hst;have hn:=hc.ns;have hg:=h.grant;unfold Wk.begin
 split
 ·rename_i h0
  split
  ·exact⟨h0,BL.granted hc hw ag⟩
  ·exact⟨h0,BL.new hc hw⟩
 split
 ·rename_i h0
  exact⟨.inl h0,pW.new _ _ _ _,rfl,rfl,rfl,by simp[Gi.new,h0]⟩
 split
 ·rename_i h0
  exact⟨.inr h0,pW.new _ _ _ _,rfl,rfl,rfl,by simp[Gi.new,h0]⟩
 split
 ·rename_i h0
  exact⟨.inl h0,ny.open' _ _ _,rfl,rfl,rfl,by simp[Sm.open',h0],ag⟩
 split
 ·rename_i h0
  exact⟨.inr h0,ny.shut _ _ _ _,rfl,rfl,rfl,by simp[Sm.shut,h0],fun _=>rfl⟩
 split
 ·rename_i h0
  exact⟨h0,nL.new _⟩
 split
 ·rename_i h0
  exact⟨h0,rfl,au⟩
 ·exact⟨ag,pG.new hc⟩
theorem FI (g:Gi) (ws:List Int):(g.step ws).1.w=g.w/\(g.step ws).1.i=g.i/\(g.step ws).1.gen=g.gen/\(g.step ws).1.discard=g.discard:=by
 unfold Gi.step
 split<;>(try dsimp only)<;>(repeat' split)<;>exact⟨rfl,rfl,rfl,rfl⟩
theorem FJ (x:Sm) (ws:List Int):(x.step ws).1.w=x.w/\(x.step ws).1.i=x.i/\(x.step ws).1.gen=x.gen/\(x.step ws).1.opens=x.opens/\(x.step ws).1.num=x.num:=by
 unfold Sm.step
 split<;>(try dsimp only)<;>(repeat' split)<;>exact⟨rfl,rfl,rfl,rfl,rfl⟩
theorem Y3 (q:Qu) (ws:List Int):(q.step ws).1.w=q.w:=by
 unfold Qu.step
 split<;>(try dsimp only)<;>(repeat' split)<;>rfl
theorem dY.turn (h:dY c who k) (hh:k.half=false) (h0:k.st≠0) (st:Nat) (bq:Option Az) (two:Option Tw) (queue:Option Qu) (tidy:Option Ty.Ty) (dA:Bool) (grant:Int)
  (hst:st<=8) (hn0:st≠0) (hj:∀ j,bq=some j->wO c who k.ask j) (hj2:st=2->∃ j,bq=some j) (ht:∀ t,two=some t->pG c t) (ht3:st=3->∃ t,two=some t)
  (hq:∀ q,queue=some q->fH c q/\q.w=who) (hq4:st=4\/st=8->∃ q,queue=some q) (hy:∀ t,tidy=some t->BZ c who t) (hy5:st=5->∃ t,tidy=some t) (hg:grant<=c.slots)
  (hget:st=3\/st=4\/st=6\/st=7\/st=8\/st=5/\k.dO=true->k.ask.op=0):
  dY c who {k with st:=st,bq:=bq,two:=two,queue:=queue,tidy:=tidy,dA:=dA,grant:=grant}:=
 ⟨hst,hj,hj2,ht,ht3,hq,hq4,hy,hy5,fun e=>absurd (show k.half=true from e) (by simp[hh]),hg,fun _ e=>absurd (show k.half=true from e) (by simp[hh]),fun _=>h.op h0,hget⟩
theorem dY.Y2 {k':Wk} {s':Sh} {o:Option Mod.Ev} {at':Nat} (h:dY c who k) (hc:aA c) (hw:who < c.workers.toNat) (hm:Ia c s.ws) (hs:Stp c who at' s k k' s' o):dY c who k':=by
 have hwi:0<=(who:Int)/\(who:Int) < c.workers:=by have:=hc.nw;omega
 have vX:k.st≠1->k.st≠7->k.half=false:=h.Dy;have fin:∀ (k1:Wk) (x:Mod.Ev),dY c who k1->k1.half=false->k1.st≠0->dY c who (k1.finish c who x):=fun k1 x h1 h2 h3=>h1.finish hc hw h2 h3 x
 have Ls:∀ q,fH c q/\q.w=who->dY c who {k with queue:=some q}:=fun q hq=>⟨h.st,h.bq,h.xL,h.two,h.zf,fun x e=>by cases e;exact hq,fun _=>⟨_,rfl⟩,h.tidy,h.xN,h.half,h.grant,h.word,h.op,h.get⟩
 have QW:∀ (q q':Qu) (aC:List Int) (n:Nat),fH c q/\q.w=who->q.step s.ws=(q',aC,n)->fH c q'/\q'.w=who:=by
  intro q q' aC n hq he;have h1:=(hq.1.step hc hm.l).1;have h2:=Y3 q s.ws;rw[he]at h1 h2;exact⟨h1,h2.trans hq.2⟩
 have tst:∀ (t t':Tk) (g:Bool) (aC:List Int) (n:Nat),wO c who k.ask (.get t)->t.step s.ws g=(t',aC,n)->wO c who k.ask (.get t'):=by
  intro t t' g aC n ht he;have h1:=ht.2.step hm.l.len g;rw[he]at h1;exact⟨ht.1,h1⟩
 have VW:∀ (t t':Tw) (n:Nat),pG c t->t.step s.ws=(t',n)->pG c t':=by
  intro t t' n ht he;have h1:=ht.step hc s.ws;rw[he]at h1;exact h1
 have Y4:∀ (t t':Ty.Ty) (aC:List Int) (n:Nat),BZ c who t->t.step s.ws=(t',aC,n)->BZ c who t':=by
  intro t t' aC n ht he;have h1:=(ht.step hc hm.l).1;rw[he]at h1;exact h1
 cases hs with
 | aJ h1 h2=>exact⟨h.st,h.bq,h.xL,h.two,h.zf,h.queue,h.xM,h.tidy,h.xN,fun _=>.inl h1,h.grant,fun e=>absurd h1 (by rw[show k.st=7 from e];simp),h.op,h.get⟩
 | pin h1 h2=>
  have hb:=Lr h hc hw ag;exact⟨au,fun j e=>by cases e;exact hb,fun _=>⟨_,rfl⟩,h.two,au,h.queue,au,h.tidy,au,au,h.grant,au,fun _=>h.op ag,au⟩
 | yw t t' aC n s1 h1 h2 h3 h4 h5=>exact h.fE (tst t t' _ aC n (h.bq _ h2) h3)
 | oM t t' aC n s1 h1 h2 h3 h4 h5 h6 h7=>
  have hj:=tst t t' _ aC n (h.bq _ h2) h3;exact h.turn (vX ag ag) ag 4 _ k.two _ k.tidy k.dA k.grant ag ag (fun j e=>by cases e;exact hj) ag h.two ag (fun q e=>by cases e;exact⟨fH.enter hwi,rfl⟩) (fun _=>⟨_,rfl⟩) h.tidy ag h.grant (fun _=>hj.1)
 | lN t t' aC n s1 h1 h2 h3 h4 h5 h6 h7=>
  have hj:=tst t t' _ aC n (h.bq _ h2) h3;exact h.turn (vX ag ag) ag 3 _ _ k.queue k.tidy k.dA k.grant ag ag (fun j e=>by cases e;exact hj) ag (fun t e=>by cases e;exact pG.new hc) (fun _=>⟨_,rfl⟩) h.queue ag h.tidy ag h.grant (fun _=>hj.1)
 | sM t t' aC n s1 h1 h2 h3 h4 h5 h6=>exact fin _ _ (h.fE (tst t t' _ aC n (h.bq _ h2) h3)) (vX ag ag) (by show k.st≠0;omega)
 | sN g g' aC n h1 h2 h3 h4=>
  have hj:=h.bq _ h2;have a:=hj.2.1.step hc s.ws;have b:=FI g s.ws;rw[h3]at a b;exact h.fE ⟨hj.1,a,b.1.trans hj.2.2.1,b.2.1.trans hj.2.2.2.1,b.2.2.1.trans hj.2.2.2.2.1,b.2.2.2.trans hj.2.2.2.2.2⟩
 | oN g g' aC n h1 h2 h3 h4=>
  have hj:=h.bq _ h2;have a:=hj.2.1.step hc s.ws;have b:=FI g s.ws;rw[h3]at a b;exact fin _ _ (h.fE (j:=.give g') ⟨hj.1,a,b.1.trans hj.2.2.1,b.2.1.trans hj.2.2.2.1,b.2.2.1.trans hj.2.2.2.2.1,b.2.2.2.trans hj.2.2.2.2.2⟩) (vX ag ag) (by show k.st≠0;omega)
 | yx x x' aC n h1 h2 h3 h4=>
  have hj:=h.bq _ h2;have a:=hj.2.1.step hc s.ws;have b:=FJ x s.ws;rw[h3]at a b;exact h.fE ⟨hj.1,a,b.1.trans hj.2.2.1,b.2.1.trans hj.2.2.2.1,b.2.2.1.trans hj.2.2.2.2.1,b.2.2.2.1.trans hj.2.2.2.2.2.1,fun e=>b.2.2.2.2.trans (hj.2.2.2.2.2.2 e)⟩
 | sO x x' aC n h1 h2 h3 h4=>
  have hj:=h.bq _ h2;have a:=hj.2.1.step hc s.ws;have b:=FJ x s.ws;rw[h3]at a b;exact fin _ _ (h.fE (j:=.stream x') ⟨hj.1,a,b.1.trans hj.2.2.1,b.2.1.trans hj.2.2.2.1,b.2.2.1.trans hj.2.2.2.2.1,b.2.2.2.1.trans hj.2.2.2.2.2.1,fun e=>b.2.2.2.2.trans (hj.2.2.2.2.2.2 e)⟩) (vX ag ag) (by show k.st≠0;omega)
 | lQ f h1 h2=>
  have hj:=h.bq _ h2;exact h.fE ⟨hj.1,hj.2.1,fun x e=>by cases e;exact fH.drain hc⟩
 | oO f q q' aC n h1 h2 h3 h4=>
  have hj:=h.bq _ h2;have a:=((hj.2.2 q rfl).step hc hm.l).1;rw[h3]at a;exact h.fE ⟨hj.1,hj.2.1,fun x e=>by cases e;exact a⟩
 | lS f q q' aC n h1 h2 h3 h4=>
  have hj:=h.bq _ h2;have a:=((hj.2.2 q rfl).step hc hm.l).1;rw[h3]at a;exact fin _ _ (h.fE (j:=.close f (some q')) ⟨hj.1,hj.2.1,fun x e=>by cases e;exact a⟩) (vX ag ag) (by show k.st≠0;omega)
 | oP t t' n h1 h2 h3 h4=>
  have hj:=h.bq _ h2;exact h.fE ⟨hj.1,VW t t' n hj.2 h3⟩
 | lT t t' n h1 h2 h3 h4=>
  have hj:=h.bq _ h2;exact fin _ _ (h.fE (j:=.stats t') ⟨hj.1,VW t t' n hj.2 h3⟩) (vX ag ag) (by show k.st≠0;omega)
 | jT r b f n h1 h2 h3 h4 h5=>
  have hj:=h.bq _ h2;have a:=hj.2.look.step s.ws;rw[h4]at a;exact h.fE ⟨hj.1,au,a,fun _=>h5,hj.2.rt,au⟩
 | lU r f n h1 h2 h3 h4 h5=>
  have hj:=h.bq _ h2;have a:=hj.2.look.step s.ws;rw[h4]at a;exact fin _ _ (h.fE (j:=.bO {r with look:=f}) ⟨hj.1,hj.2.st,a,fun e=>absurd (show r.st=1\/r.st=2\/r.st=3 from e) ag,hj.2.rt,fun e=>absurd (show r.st=3 from e) ag⟩) (vX ag ag) (by show k.st≠0;omega)
 | lV r f n h1 h2 h3 h4 h5=>
  have hj:=h.bq _ h2;have a:=hj.2.look.step s.ws;rw[h4]at a;exact h.fE ⟨hj.1,hj.2.st,a,fun e=>absurd (show r.st=1\/r.st=2\/r.st=3 from e) ag,hj.2.rt,fun e=>absurd (show r.st=3 from e) ag⟩
 | sP r h1 h2 h3=>
  have hj:=h.bq _ h2;exact h.fE ⟨hj.1,au,hj.2.look,fun _=>hj.2.found (.inl h3),hj.2.rt,au⟩
 | oQ r h1 h2 h3=>
  have hj:=h.bq _ h2;have hfo:=hj.2.found (.inl h3);exact h.fE ⟨hj.1,au,hj.2.look,fun _=>hfo,fun x e=>by cases e;exact OM.new (hj.2.look.2.2 hfo) _,fun _=>⟨_,rfl⟩⟩
 | lW r s1 h1 h2 h3 h4=>
  have hj:=h.bq _ h2;exact h.fE ⟨hj.1,hj.2.kC⟩
 | oU r x x' b aC n many h1 h2 h3 h4 h5 h6 h7=>
  have hj:=h.bq _ h2;have a:=(hj.2.rt x h4).step s.ws;rw[h5]at a;exact h.fE ⟨hj.1,au,hj.2.look.go,au,fun z e=>by cases e;exact a,au⟩
 | jU r x x' b aC n h1 h2 h3 h4 h5 h6=>
  have hj:=h.bq _ h2;have a:=(hj.2.rt x h4).step s.ws;rw[h5]at a;exact h.fE ⟨hj.1,hj.2.st,hj.2.look,hj.2.found,fun z e=>by cases e;exact a,fun _=>⟨_,rfl⟩⟩
 | oV t t' n h1 h2 h3 h4=>
  have a:=VW t t' n (h.two t h2) h3;exact⟨h.st,h.bq,h.xL,fun x e=>by cases e;exact a,fun _=>⟨_,rfl⟩,h.queue,h.xM,h.tidy,h.xN,h.half,h.grant,h.word,h.op,h.get⟩
 | jV t t' n h1 h2 h3 h4 h5=>
  have a:=VW t t' n (h.two t h2) h3;have h0:=h.get ag;exact h.turn (vX ag ag) ag 2 _ _ k.queue k.tidy k.dA k.grant ag ag (fun j e=>by cases e;exact⟨h0,BL.new hc hw⟩) (fun _=>⟨_,rfl⟩) (fun x e=>by cases e;exact a) ag h.queue ag h.tidy ag h.grant (fun _=>h0)
 | lX t t' n h1 h2 h3 h4 h5=>
  have a:=VW t t' n (h.two t h2) h3;exact fin {k with two:=some t'} _ ⟨h.st,h.bq,h.xL,fun x e=>by cases e;exact a,fun _=>⟨_,rfl⟩,h.queue,h.xM,h.tidy,h.xN,h.half,h.grant,h.word,h.op,h.get⟩ (vX ag ag) (by show k.st≠0;omega)
 | oW q q' aC n h1 h2 h3 h4=>exact Ls q' (QW q q' aC n (h.queue q h2) h3)
 | lY q q' aC n h1 h2 h3 h4 h5 h6=>exact fin _ _ (Ls q' (QW q q' aC n (h.queue q h2) h3)) (vX ag ag) (by show k.st≠0;omega)
 | oZ q q' aC n h1 h2 h3 h4 h5=>
  have a:=Ls q' (QW q q' aC n (h.queue q h2) h3);have h0:=h.get ag;have b:dY c who {k with queue:=some q',dA:=decide (q'.e=0)}:=⟨a.st,a.bq,a.xL,a.two,a.zf,a.queue,a.xM,a.tidy,a.xN,a.half,a.grant,a.word,a.op,a.get⟩
  exact b.aR hc hw (vX ag ag) (by show k.st≠0;omega) true (fun _=>h0)
 | sQ t t' aC n h1 h2 h3 h4=>
  have a:=Y4 t t' aC n (h.tidy t h2) h3;exact⟨h.st,h.bq,h.xL,h.two,h.zf,h.queue,h.xM,fun x e=>by cases e;exact a,fun _=>⟨_,rfl⟩,h.half,h.grant,h.word,h.op,h.get⟩
 | lZ t t' aC n h1 h2 h3 h4 h5=>
  have a:=Y4 t t' aC n (h.tidy t h2) h3;have h0:=h.get (.inr (.inr (.inr (.inr (.inr ⟨h1,h5⟩)))));exact h.turn (vX ag ag) ag 6 k.bq k.two k.queue _ k.dA k.grant ag ag h.bq ag h.two ag h.queue ag (fun x e=>by cases e;exact a) ag h.grant (fun _=>h0)
 | mg t t' aC n h1 h2 h3 h4 h5=>
  have a:=Y4 t t' aC n (h.tidy t h2) h3;have hh:=vX ag ag;exact⟨au,h.bq,au,h.two,au,h.queue,au,fun x e=>by cases e;exact a,au,fun e=>absurd (show k.half=true from e) (by simp[hh]),h.grant,au,au,au⟩
 | mh h1 h2 h3=>
  have h0:=h.get ag;exact⟨au,h.bq,au,h.two,au,h.queue,au,h.tidy,au,fun _=>.inr rfl,h.grant,fun _ _=>(hm.grant who hw).2,fun _=>h.op ag,fun _=>h0⟩
 | mo q' aC n h1 h2 h3 h4=>
  have h0:=h.get ag;have a:=QW _ q' aC n ⟨fH.leave hwi,rfl⟩ h3;exact h.turn (vX ag ag) ag 8 k.bq k.two _ k.tidy k.dA k.grant ag ag h.bq ag h.two ag (fun q e=>by cases e;exact a) (fun _=>⟨_,rfl⟩) h.tidy ag h.grant (fun _=>h0)
 | mq q' aC n h1 h2 h3 h4 h5=>
  have h0:=h.get ag;have a:=QW _ q' aC n ⟨fH.leave hwi,rfl⟩ h3;exact h.turn (vX ag ag) ag 6 k.bq k.two _ k.tidy false k.grant ag ag h.bq ag h.two ag (fun q e=>by cases e;exact a) ag h.tidy ag h.grant (fun _=>h0)
 | mD h1 h2=>exact⟨h.st,h.bq,h.xL,h.two,h.zf,h.queue,h.xM,h.tidy,h.xN,fun _=>.inr h1,h.grant,fun _ _=>(hm.grant who hw).2,h.op,h.get⟩
 | mE h1 h2 h3=>
  exact fin {k with half:=false} _ ⟨h.st,h.bq,h.xL,h.two,h.zf,h.queue,h.xM,h.tidy,h.xN,au,h.grant,au,h.op,h.get⟩ rfl (by show k.st≠0;omega)
 | o5 h1 h2 h3=>exact⟨au,h.bq,au,h.two,au,h.queue,au,h.tidy,au,au,h.word h1 h2,au,fun _=>h.op ag,au⟩
 | o6 q q' aC n h1 h2 h3 h4=>exact Ls q' (QW q q' aC n (h.queue q h2) h3)
 | jW q q' aC n h1 h2 h3 h4 h5=>
  have h0:=h.get ag;have a:=QW q q' aC n (h.queue q h2) h3;exact h.turn (vX ag ag) ag 6 k.bq k.two _ k.tidy false k.grant ag ag h.bq ag h.two ag (fun q e=>by cases e;exact a) ag h.tidy ag h.grant (fun _=>h0)
 | mF q q' aC n h1 h2 h3 h4 h5=>exact fin _ _ (Ls q' (QW q q' aC n (h.queue q h2) h3)) (vX ag ag) (by show k.st≠0;omega)
theorem dY.step (h:dY c who k) (hc:aA c) (hw:who < c.workers.toNat) (hm:Ia c s.ws) (at':Nat):dY c who (k.step c who at' s).1:=by
 by_cases h0:k.st=0
 ·have e:(k.step c who at' s).1=k:=by unfold Wk.step;simp only[h0]
  rw[e];exact h
 ·exact h.Y2 hc hw hm (vW h h0)
end
section
variable {c:aj.Cf} {ws:List Int} {who:Nat} {k:Wk} {s:Sh}
theorem iK {j:Az} (hk:k.st=2) (hj:k.bq=some j):oL c who k s=xV c who j s:=by
 unfold oL;simp only[hk,hj]
theorem Ic {q:Qu} (hk:k.st=4\/k.st=8) (hq:k.queue=some q):oL c who k s=Hw q s.ws:=by
 unfold oL
 rcases hk with hk | hk<;>simp only[hk,hq]
theorem Ld {t:Ty.Ty} (hk:k.st=5) (ht:k.tidy=some t):oL c who k s=OA t s.ws:=by
 unfold oL;simp only[hk,ht]
theorem mI (hk:k.st=0\/k.st=3\/k.st=6):oL c who k s=.none:=by
 unfold oL
 rcases hk with hk | hk | hk<;>simp only[hk]
theorem FH (hk:k.st=1):oL c who k s=if k.half then .pin (wrap64 (k.word+1)) else .none:=by
 unfold oL;simp only[hk]
theorem wP (hk:k.st=7):oL c who k s=if k.half then .grant who 0 else .none:=by
 unfold oL;simp only[hk]
theorem Le {r:Rp} {ws:List Int} (h:r.st=0\/r.st=1):D9 c who r ws=.none:=by
 unfold D9
 rcases h with h | h<;>simp only[h]
theorem Lf {r:Rp} {ws:List Int} (h:r.st=2):D9 c who r ws=eU ws (sc c r.look.at') r.look.word (.slot r.look.at' 10 who 0):=by
 unfold D9;simp only[h]
theorem OG {r:Rp} {x:Rt} {ws:List Int} (h:r.st=3) (hx:r.rt=some x):D9 c who r ws=Hu c x ws:=by
 unfold D9;simp only[h];have hret:r.ret=x:=by unfold Rp.ret;rw[hx];rfl
 rw[hret]
theorem OH {k':Wk} {s':Sh} {o:Option Mod.Ev} {at':Nat} (h:dY c who k) (hw:who < c.workers.toNat) (hc:aA c) (hs:Stp c who at' s k k' s' o):s'.ws=(oL c who k s).run c who s.ws:=by
 have hget:∀ (t t':Tk) (aC:List Int) (n:Nat) (s1:Sh),k.st=2->k.bq=some (.get t)->t.step s.ws (decide (t.st=9) && s.outcome)=(t',aC,n)->(s1.cells (aC,n)).ws=(oL c who k s).run c who s.ws:=by
  intro t t' aC n s1 h1 h2 h3;have hjo:=h.bq _ h2;have hr:=Lc (who:=who) (ws:=s.ws) (good:=decide (t.st=9) && s.outcome) (fun hk=>hjo.2.ret hk) hjo.2.ok.st;rw[hjo.2.cf,h3]at hr;rw[iK h1 h2];exact hr
 have Ca:∀ (g g':Gi) (aC:List Int) (n:Nat),k.st=2->k.bq=some (.give g)->g.step s.ws=(g',aC,n)->(s.cells (aC,n)).ws=(oL c who k s).run c who s.ws:=by
  intro g g' aC n h1 h2 h3;have hjo:=h.bq _ h2
  have hr:=Te (g:=g) (who:=who) (ws:=s.ws) (fun hk=>by
   obtain⟨r,e⟩:=hjo.2.1.kz hk;have hret:g.ret=r:=by unfold Gi.ret;rw[e];rfl
   rw[hret,hjo.2.1.cf];exact(hjo.2.1.rt r e).2) hjo.2.1.st
  rw[hjo.2.1.cf,h3]at hr;rw[iK h1 h2];exact hr
 have hstr:∀ (x x':Sm) (aC:List Int) (n:Nat),k.st=2->k.bq=some (.stream x)->x.step s.ws=(x',aC,n)->(s.cells (aC,n)).ws=(oL c who k s).run c who s.ws:=by
  intro x x' aC n h1 h2 h3;have hjo:=h.bq _ h2;have hr:=Ti (x:=x) (who:=who) (ws:=s.ws) (fun hk=>hjo.2.1.bn hk) hjo.2.1.st;rw[hjo.2.1.cf,h3]at hr;rw[iK h1 h2];exact hr
 have zD:∀ (q q':Qu) (aC:List Int) (n:Nat),fH c q->q.step s.ws=(q',aC,n)->(s.cells (aC,n)).ws=(Hw q s.ws).run c who s.ws:=by
  intro q q' aC n hq h3;have hr:=Td q who s.ws hq.st;rw[hq.cf,h3]at hr;exact hr
 have Ie:∀ (q q':Qu) (aC:List Int) (n:Nat),k.st=4\/k.st=8->k.queue=some q->q.step s.ws=(q',aC,n)->(s.cells (aC,n)).ws=(oL c who k s).run c who s.ws:=by
  intro q q' aC n h1 h2 h3;rw[Ic h1 h2];exact zD q q' aC n (h.queue q h2).1 h3
 have hty:∀ (t t':Ty.Ty) (aC:List Int) (n:Nat),k.st=5->k.tidy=some t->t.step s.ws=(t',aC,n)->(s.cells (aC,n)).ws=(oL c who k s).run c who s.ws:=by
  intro t t' aC n h1 h2 h3;have hto:=h.tidy t h2;have hr:=Tc (t:=t) (ws:=s.ws) (fun hk=>hto.ret hk) hto.ok.st;rw[hto.cf,hto.w,h3]at hr;rw[Ld h1 h2];exact hr
 have hleave:∀ (q':Qu) (aC:List Int) (n:Nat),k.st=6->(Qu.leave c who).step s.ws=(q',aC,n)->(s.cells (aC,n)).ws=(oL c who k s).run c who s.ws:=by
  intro q' aC n h1 h3;rw[mI (.inr (.inr h1))];exact zD _ q' aC n (fH.leave (by have:=hc.nw;omega)) h3
 have hret:∀ (r:Rp) (x x':Rt) (b:Bool) (aC:List Int) (n:Nat),k.st=2->k.bq=some (.bO r)->r.st=3->r.rt=some x->x.step s.ws=(b,x',aC,n)->(s.cells (aC,n)).ws=(oL c who k s).run c who s.ws:=by
  intro r x x' b aC n h1 h2 h3 h4 h5;have hr:=zA ((h.bq _ h2).2.rt x h4).2 who s.ws;rw[h5]at hr;rw[iK h1 h2]
  show aC=(D9 c who r s.ws).run c who s.ws
  rw[OG h3 h4];exact hr
 have rJ:∀ (r:Rp) (s1:Sh),k.st=2->k.bq=some (.bO r)->(r.st=0\/r.st=1)->s1.ws=s.ws->s1.ws=(oL c who k s).run c who s.ws:=by
  intro r s1 h1 h2 h3 h4;rw[iK h1 h2]
  show s1.ws=(D9 c who r s.ws).run c who s.ws
  rw[Le h3];exact h4
 cases hs with
 | aJ h1 h2=>rw[FH h1,h2];rfl
 | pin h1 h2=>rw[FH h1,h2];rfl
 | yw t t' aC n s1 h1 h2 h3 h4 h5=>exact hget t t' aC n s1 h1 h2 h3
 | oM t t' aC n s1 h1 h2 h3 h4 h5 h6 h7=>exact hget t t' aC n s1 h1 h2 h3
 | lN t t' aC n s1 h1 h2 h3 h4 h5 h6 h7=>exact hget t t' aC n s1 h1 h2 h3
 | sM t t' aC n s1 h1 h2 h3 h4 h5 h6=>exact hget t t' aC n s1 h1 h2 h3
 | sN g g' aC n h1 h2 h3 h4=>exact Ca g g' aC n h1 h2 h3
 | oN g g' aC n h1 h2 h3 h4=>exact Ca g g' aC n h1 h2 h3
 | yx x x' aC n h1 h2 h3 h4=>exact hstr x x' aC n h1 h2 h3
 | sO x x' aC n h1 h2 h3 h4=>exact hstr x x' aC n h1 h2 h3
 | lQ f h1 h2=>
  rw[iK h1 h2]
  show _=(if f then Eff.closed 2 else eU s.ws 0 0 (.closed 1)).run c who s.ws
  cases f
  ·simp only[Sh.cells,Bool.false_eq_true,if_false];unfold dF eU
   split<;>rfl
  ·rfl
 | oO f q q' aC n h1 h2 h3 h4=>rw[iK h1 h2];exact zD q q' aC n ((h.bq _ h2).2.2 q rfl) h3
 | lS f q q' aC n h1 h2 h3 h4=>rw[iK h1 h2];exact zD q q' aC n ((h.bq _ h2).2.2 q rfl) h3
 | oP t t' n h1 h2 h3 h4=>rw[iK h1 h2];rfl
 | lT t t' n h1 h2 h3 h4=>rw[iK h1 h2];rfl
 | jT r b f n h1 h2 h3 h4 h5=>exact rJ r (s.cells (s.ws,n)) h1 h2 (.inl h3) rfl
 | lU r f n h1 h2 h3 h4 h5=>exact rJ r (s.cells (s.ws,n)) h1 h2 (.inl h3) rfl
 | lV r f n h1 h2 h3 h4 h5=>exact rJ r (s.cells (s.ws,n)) h1 h2 (.inl h3) rfl
 | sP r h1 h2 h3=>exact rJ r s.next h1 h2 (.inr h3) rfl
 | oQ r h1 h2 h3=>exact rJ r s.next h1 h2 (.inr h3) rfl
 | lW r s1 h1 h2 h3 h4=>
  rw[iK h1 h2]
  show s'.ws=(D9 c who r s.ws).run c who s.ws
  rw[Lf h3,h4]
  cases hn:bn r.look.word 10 who 0 with
  | none=>exact qC _ _ _ _ _ _ _ _ hn
  | some nw=>exact nC _ _ _ _ _ _ _ _ hn
 | oU r x x' b aC n many h1 h2 h3 h4 h5 h6 h7=>exact hret r x x' b aC n h1 h2 h3 h4 h5
 | jU r x x' b aC n h1 h2 h3 h4 h5 h6=>exact hret r x x' b aC n h1 h2 h3 h4 h5
 | oV t t' n h1 h2 h3 h4=>rw[mI (.inr (.inl h1))];rfl
 | jV t t' n h1 h2 h3 h4 h5=>rw[mI (.inr (.inl h1))];rfl
 | lX t t' n h1 h2 h3 h4 h5=>rw[mI (.inr (.inl h1))];rfl
 | oW q q' aC n h1 h2 h3 h4=>exact Ie q q' aC n (.inl h1) h2 h3
 | lY q q' aC n h1 h2 h3 h4 h5 h6=>exact Ie q q' aC n (.inl h1) h2 h3
 | oZ q q' aC n h1 h2 h3 h4 h5=>exact Ie q q' aC n (.inl h1) h2 h3
 | sQ t t' aC n h1 h2 h3 h4=>exact hty t t' aC n h1 h2 h3
 | lZ t t' aC n h1 h2 h3 h4 h5=>exact hty t t' aC n h1 h2 h3
 | mg t t' aC n h1 h2 h3 h4 h5=>exact hty t t' aC n h1 h2 h3
 | mh h1 h2 h3=>rw[mI (.inr (.inr h1))];rfl
 | mo q' aC n h1 h2 h3 h4=>exact hleave q' aC n h1 h3
 | mq q' aC n h1 h2 h3 h4 h5=>exact hleave q' aC n h1 h3
 | mD h1 h2=>rw[wP h1,h2];rfl
 | mE h1 h2 h3=>rw[wP h1,h2];rfl
 | o5 h1 h2 h3=>rw[wP h1,h2];rfl
 | o6 q q' aC n h1 h2 h3 h4=>exact Ie q q' aC n (.inr h1) h2 h3
 | jW q q' aC n h1 h2 h3 h4 h5=>exact Ie q q' aC n (.inr h1) h2 h3
 | mF q q' aC n h1 h2 h3 h4 h5=>exact Ie q q' aC n (.inr h1) h2 h3
theorem Kg (h:dY c who k) (hw:who < c.workers.toNat) (hc:aA c) (at':Nat):(k.step c who at' s).2.1.ws=(oL c who k s).run c who s.ws:=by
 by_cases h0:k.st=0
 ·have e:(k.step c who at' s).2.1=s:=by unfold Wk.step;simp only[h0]
  rw[e,mI (.inl h0)];rfl
 ·exact OH h hw hc (vW h h0)
theorem Tt {r:Rp} (h:nL c r) (ws:List Int):dB c (D9 c who r ws):=by
 unfold D9
 split
 ·rename_i hk
  exact dB.dF fun _=>h.look.2.2 (h.found ag)
 ·rename_i hk
  obtain⟨x,hx⟩:=h.kz hk;have hret:r.ret=x:=by unfold Rp.ret;rw[hx];rfl
  rw[hret];exact zC (h.rt x hx).2 ws
 ·trivial
theorem OI (hc:aA c) {a:Mod.Ask} {j:Az} (h:wO c who a j):dB c (xV c who j s):=by
 cases j with
 | get t=>exact Tj h.2 _ _
 | give g=>exact Tp h.2.1 _
 | stream x=>exact Tq h.2.1 _
 | close force q=>
  cases q with
  | none=>
   dsimp only[xV]
   split
   ·exact⟨ag,ag⟩
   ·exact dB.dF fun _=>⟨ag,ag⟩
  | some q=>exact D8 (h.2.2 q rfl) hc _
 | stats t=>trivial
 | bO r=>exact Tt h.2 _
theorem Lg (h:dY c who k) (hc:aA c) (hw:who < c.workers.toNat) (hm:vC c s.ws):dB c (oL c who k s):=by
 have hs:=hc.s;unfold oL
 split
 ·split
  ·exact Ty.FE _
  ·trivial
 ·split
  ·exact OI hc (h.bq _ ‹_›)
  ·trivial
 ·split
  ·exact D8 (h.queue _ ‹_›).1 hc _
  ·trivial
 ·split
  ·exact Tm (h.tidy _ ‹_›) hc hm
  ·trivial
 ·split
  ·exact⟨hw,ag,ag⟩
  ·trivial
 ·split
  ·exact D8 (h.queue _ ‹_›).1 hc _
  ·trivial
 ·trivial
end
theorem Cb (c:aj.Cf) (f:Tk.Fd) (ws:List Int):(f.step c ws).2.2<=1:=by
 unfold Tk.Fd.step
 split
 ·exact Nat.zero_le _
 ·split<;>exact Nat.le_refl _
theorem wQ (r:Rt) (ws:List Int):(r.step ws).2.2.2<=1:=by
 unfold Rt.step
 split<;>(repeat' split)<;>first | exact Nat.le_refl _ | exact Nat.zero_le _
theorem uE (t:Tk) (i:Nat) (word:Int) (d:Nat) (ws:List Int):(t.swap i word d ws).2.2.2<=1:=by
 unfold Tk.swap
 split
 ·split<;>exact Nat.le_refl _
 ·exact Nat.zero_le _
theorem zF (t:Tk) (d:Nat) (ws:List Int):(t.di d ws).2.2.2<=1:=by
 have h:=uE t t.fd.at' t.fd.word d ws;unfold Tk.di;dsimp only
 split<;>exact h
theorem Lh (t:Tk) (ws:List Int) (good:Bool):(t.step ws good).2.2<=1:=by
 have hs:(t.dz ws).2.2.2<=1:=Cb _ _ _;have hz:=fun(k d:Nat)=>zF {t with st:=k} d ws
 have hw:=fun i w d=>uE t i w d ws
 have hr:=wQ t.ret ws;unfold Tk.step
 split
 ·split<;>exact Nat.le_refl _
 ·dsimp only;split;exact hs;split<;>exact hs
 ·dsimp only;split<;>exact hz 1 3
 ·dsimp only;split;exact hs;split<;>exact hs
 ·dsimp only
  split
  ·split
   ·split<;>exact hz 3 3
   ·exact hz 3 3
  ·exact hz 3 3
 ·dsimp only
  split
  ·exact hs
  ·split
   ·exact hs
   ·split<;>exact hs
 ·split
  ·exact Nat.le_refl _
  ·exact Nat.zero_le _
 ·dsimp only;split;exact hs;split<;>exact hs
 ·dsimp only;split<;>exact hz 7 0
 ·dsimp only;generalize (if good then 1 else 2)=d
  split<;>exact hw _ _ d
 ·split<;>exact Nat.le_refl _
 ·dsimp only
  split
  ·split<;>exact Nat.le_refl _
  ·exact Nat.le_refl _
 ·dsimp only
  split
  ·split<;>exact hr
  ·exact hr
 ·exact Nat.le_refl _
 ·split
  ·exact Nat.zero_le _
  ·dsimp only
   split
   ·split<;>exact hw _ _ _
   ·exact hw _ _ _
 ·exact Nat.zero_le _
theorem Li (q:Qu) (ws:List Int):(q.step ws).2.2<=1:=by
 unfold Qu.step
 split<;>(try dsimp only)<;>(repeat' split)<;>first | exact Nat.le_refl _ | exact Nat.zero_le _
theorem Lj (g:Gi) (ws:List Int):(g.step ws).2.2<=1:=by
 have hr:=wQ g.ret ws;unfold Gi.step
 split<;>(try dsimp only)<;>(repeat' split)<;>first | exact Nat.le_refl _ | exact Nat.zero_le _ | exact hr
theorem Ll (x:Sm) (ws:List Int):(x.step ws).2.2<=1:=by
 unfold Sm.step
 split<;>(try dsimp only)<;>(repeat' split)<;>first | exact Nat.le_refl _ | exact Nat.zero_le _
theorem Lm (t:Tw) (ws:List Int):(t.step ws).2<=1:=by
 unfold Tw.step;dsimp only
 split
 ·exact Nat.zero_le _
 ·split<;>exact Nat.le_refl _
structure ShN (s s':Sh):Prop where
 tc:s'.tc<=s.tc+1
 now:s'.now=s.now
 ahead:s'.ahead.length<=s.ahead.length
 asked:s'.good+s'.bad<=s.good+s.bad+1
theorem ShN.cells {s:Sh} {r:List Int×Nat} (h:r.2<=1):ShN s (s.cells r):=⟨by simp only[Sh.cells];omega,rfl,Nat.le_refl _,by simp only[Sh.cells];omega⟩
theorem ShN.refl (s:Sh):ShN s s:=⟨ag,rfl,Nat.le_refl _,ag⟩
theorem wR (s:Sh):s.next.good+s.next.bad=s.good+s.bad+1/\s.next.ahead.length<=s.ahead.length/\s.next.now=s.now/\s.next.tc=s.tc/\s.next.ws=s.ws:=by
 refine⟨?_,by simp[Sh.next],rfl,rfl,rfl⟩;unfold Sh.next;dsimp only
 split<;>omega
theorem ShN.next (s:Sh) {r:List Int×Nat} (h:r.2<=1):ShN s (s.next.cells r):=by
 obtain⟨h1,h2,h3,h4,-⟩:=wR s;exact⟨by simp only[Sh.cells];omega,h3,h2,by simp only[Sh.cells];omega⟩
theorem ShN.QU (s:Sh):ShN s s.next:=by
 obtain⟨h1,h2,h3,h4,-⟩:=wR s;exact⟨ag,h3,h2,ag⟩
theorem Lp {c:aj.Cf} {who at':Nat} {s s':Sh} {k k':Wk} {o:Option Mod.Ev} (hs:Stp c who at' s k k' s' o):ShN s s':=by
 have le:∀ {α:Type} {aC:α} {n:Nat} {x:α×Nat},x.2<=1->x=(aC,n)->n<=1:=fun h e=>by rw[e]at h;exact h
 have hget:∀ (t t':Tk) (aC:List Int) (n:Nat) (s1:Sh),t.step s.ws (decide (t.st=9) && s.outcome)=(t',aC,n)->s1=(if t.st=9 then s.next else s)->ShN s (s1.cells (aC,n)):=by
  intro t t' aC n s1 h3 h4;have hr:=Lh t s.ws (decide (t.st=9) && s.outcome);rw[h3]at hr;rw[h4]
  split
  ·exact ShN.next s hr
  ·exact ShN.cells hr
 have Ca:∀ (g g':Gi) (aC:List Int) (n:Nat),g.step s.ws=(g',aC,n)->ShN s (s.cells (aC,n)):=by
  intro g g' aC n h3;have hr:=Lj g s.ws;rw[h3]at hr;exact ShN.cells hr
 have hstr:∀ (x x':Sm) (aC:List Int) (n:Nat),x.step s.ws=(x',aC,n)->ShN s (s.cells (aC,n)):=by
  intro x x' aC n h3;have hr:=Ll x s.ws;rw[h3]at hr;exact ShN.cells hr
 have zD:∀ (q q':Qu) (aC:List Int) (n:Nat),q.step s.ws=(q',aC,n)->ShN s (s.cells (aC,n)):=by
  intro q q' aC n h3;have hr:=Li q s.ws;rw[h3]at hr;exact ShN.cells hr
 have FF:∀ (t t':Tw) (n:Nat),t.step s.ws=(t',n)->ShN s (s.cells (s.ws,n)):=by
  intro t t' n h3;have hr:=Lm t s.ws;rw[h3]at hr;exact ShN.cells hr
 have iV:∀ (f:Tk.Fd) (b:Bool) (f':Tk.Fd) (n:Nat),f.step c s.ws=(b,f',n)->ShN s (s.cells (s.ws,n)):=by
  intro f b f' n h3;have hr:=Cb c f s.ws;rw[h3]at hr;exact ShN.cells hr
 have hrt:∀ (x x':Rt) (b:Bool) (aC:List Int) (n:Nat),x.step s.ws=(b,x',aC,n)->ShN s (s.cells (aC,n)):=by
  intro x x' b aC n h3;have hr:=wQ x s.ws;rw[h3]at hr;exact ShN.cells hr
 have hty:∀ (t t':Ty.Ty) (aC:List Int) (n:Nat),t.step s.ws=(t',aC,n)->ShN s (s.cells (aC,n)):=by
  intro t t' aC n h3;have hr:=Ty.Ea t s.ws;rw[h3]at hr;exact ShN.cells hr
 cases hs with
 | aJ h1 h2=>exact ShN.cells aQ
 | pin h1 h2=>exact ShN.cells aQ
 | yw t t' aC n s1 h1 h2 h3 h4 h5=>exact hget t t' aC n s1 h3 h4
 | oM t t' aC n s1 h1 h2 h3 h4 h5 h6 h7=>exact hget t t' aC n s1 h3 h4
 | lN t t' aC n s1 h1 h2 h3 h4 h5 h6 h7=>exact hget t t' aC n s1 h3 h4
 | sM t t' aC n s1 h1 h2 h3 h4 h5 h6=>exact hget t t' aC n s1 h3 h4
 | sN g g' aC n h1 h2 h3 h4=>exact Ca g g' aC n h3
 | oN g g' aC n h1 h2 h3 h4=>exact Ca g g' aC n h3
 | yx x x' aC n h1 h2 h3 h4=>exact hstr x x' aC n h3
 | sO x x' aC n h1 h2 h3 h4=>exact hstr x x' aC n h3
 | lQ f h1 h2=>exact ShN.cells aQ
 | oO f q q' aC n h1 h2 h3 h4=>exact zD q q' aC n h3
 | lS f q q' aC n h1 h2 h3 h4=>exact zD q q' aC n h3
 | oP t t' n h1 h2 h3 h4=>exact FF t t' n h3
 | lT t t' n h1 h2 h3 h4=>exact FF t t' n h3
 | jT r b f n h1 h2 h3 h4 h5=>exact iV _ _ _ _ h4
 | lU r f n h1 h2 h3 h4 h5=>exact iV _ _ _ _ h4
 | lV r f n h1 h2 h3 h4 h5=>exact iV _ _ _ _ h4
 | sP r h1 h2 h3=>exact ShN.QU s
 | oQ r h1 h2 h3=>exact ShN.QU s
 | lW r s1 h1 h2 h3 h4=>
  rw[h4]
  split
  ·exact ShN.cells aQ
  ·exact ShN.refl s
 | oU r x x' b aC n many h1 h2 h3 h4 h5 h6 h7=>exact hrt _ _ _ _ _ h5
 | jU r x x' b aC n h1 h2 h3 h4 h5 h6=>exact hrt _ _ _ _ _ h5
 | oV t t' n h1 h2 h3 h4=>exact FF t t' n h3
 | jV t t' n h1 h2 h3 h4 h5=>exact FF t t' n h3
 | lX t t' n h1 h2 h3 h4 h5=>exact FF t t' n h3
 | oW q q' aC n h1 h2 h3 h4=>exact zD q q' aC n h3
 | lY q q' aC n h1 h2 h3 h4 h5 h6=>exact zD q q' aC n h3
 | oZ q q' aC n h1 h2 h3 h4 h5=>exact zD q q' aC n h3
 | sQ t t' aC n h1 h2 h3 h4=>exact hty t t' aC n h3
 | lZ t t' aC n h1 h2 h3 h4 h5=>exact hty t t' aC n h3
 | mg t t' aC n h1 h2 h3 h4 h5=>exact hty t t' aC n h3
 | mh h1 h2 h3=>exact ShN.cells aQ
 | mo q' aC n h1 h2 h3 h4=>exact zD _ q' aC n h3
 | mq q' aC n h1 h2 h3 h4 h5=>exact zD _ q' aC n h3
 | mD h1 h2=>exact ShN.cells aQ
 | mE h1 h2 h3=>exact ShN.cells aQ
 | o5 h1 h2 h3=>exact ShN.cells aQ
 | o6 q q' aC n h1 h2 h3 h4=>exact zD q q' aC n h3
 | jW q q' aC n h1 h2 h3 h4 h5=>exact zD q q' aC n h3
 | mF q q' aC n h1 h2 h3 h4 h5=>exact zD q q' aC n h3
theorem OJ {c:aj.Cf} {who:Nat} {k:Wk} (h:dY c who k) (at':Nat) (s:Sh):ShN s (k.step c who at' s).2.1:=by
 by_cases h0:k.st=0
 ·have e:(k.step c who at' s).2.1=s:=by unfold Wk.step;simp only[h0]
  rw[e];exact ShN.refl s
 ·exact Lp (vW h h0)
structure Fj (n:Nat) (m:Mc):Prop where
 c:aA m.cf
 ws:Ia m.cf m.sh.ws
 len:m.ks.length=m.cf.workers.toNat
 ks:∀ (i:Nat) k,m.ks[i]? =some k->dY m.cf i k
 tc:m.sh.tc<=2 * n
 now:0<=m.sh.now/\m.sh.now<=1099511627776
 ahead:m.sh.ahead.length<=1000
 asked:m.sh.good+m.sh.bad<=n
 evs:m.evs.length<=n
 entries:m.entries=n
 at':m.at'<=n
theorem Fj.new {c:aj.Cf} (hc:aA c):Fj 0 (Mc.new c):=by
 have hn:=hc.ns;have hw:=hc.nw
 have hz:∀ i,rd (List.replicate (sc c (ns c)) (0:Int)) i=0:=by
  intro i;unfold rd;rw[List.getD_eq_getElem?_getD,List.getElem?_replicate]
  split<;>rfl
 refine⟨hc,⟨⟨by simp[Mc.new],[],?_⟩,fun o ho=>?_,fun o ho=>?_⟩,by simp[Mc.new],fun i k hk=>?_,by simp[Mc.new],by simp[Mc.new],by simp[Mc.new],by simp[Mc.new],by simp[Mc.new],rfl,by simp[Mc.new]⟩
 ·show bA c (rd (List.replicate (sc c (ns c)) (0:Int)) 1) []
  rw[hz];exact bA.nil hc
 ·show rd (List.replicate (sc c (ns c)) (0:Int)) _<=_
  rw[hz];omega
 ·show -1<=rd (List.replicate (sc c (ns c)) (0:Int)) _/\rd (List.replicate (sc c (ns c)) (0:Int)) _<=c.slots
  rw[hz];have:=hc.s;omega
 ·simp only[Mc.new,List.getElem?_replicate]at hk
  split at hk
  ·cases hk;exact dY.zero hc
  ·cases hk
theorem Fj.worker {n:Nat} {m:Mc} (h:Fj n m) {who:Int} (hh:m.has who=true):who.toNat < m.cf.workers.toNat/\m.ks[who.toNat]? =some (m.worker who)/\0<=who/\dY m.cf who.toNat (m.worker who):=by
 have h1:0<=who/\who < m.ks.length:=of_decide_eq_true hh;have hl:=h.len;have hi:who.toNat < m.ks.length:=ag
 have e:m.ks[who.toNat]? =some (m.worker who):=by
  unfold Mc.worker;rw[List.getElem?_eq_getElem hi];rfl
 exact⟨ag,e,h1.1,h.ks _ _ e⟩
theorem OL {a n:Int} (h:0<=a/\a<=1099511627776):0<=tick a n/\tick a n<=1099511627776:=by unfold tick;omega
theorem Fj.lG {n:Nat} {m:Mc} (h:Fj n m) (x:En):Fj (n+1) (m.lG x).2:=by
 have he:=h.entries;have hat:=h.at';have htc:=h.tc;have has:=h.asked;have hev:=h.evs;have h0:Fj (n+1) {m with at':=m.entries,entries:=m.entries+1}:=⟨h.c,h.ws,h.len,h.ks,by show m.sh.tc<=_;omega,h.now,h.ahead,by show m.sh.good+m.sh.bad<=_;omega,by show m.evs.length<=_;omega,by show m.entries+1=_;omega,by show m.entries<=_;omega⟩
 unfold Mc.lG
 have hm1:({m with at':=m.entries,entries:=m.entries+1}:Mc).evs.length<=n:=hev;have hm2:({m with at':=m.entries,entries:=m.entries+1}:Mc).sh.tc<=2 * n:=htc;have UU:({m with at':=m.entries,entries:=m.entries+1}:Mc).sh.good+({m with at':=m.entries,entries:=m.entries+1}:Mc).sh.bad<=n:=has;generalize ({m with at':=m.entries,entries:=m.entries+1}:Mc)=m1 at *;unfold Mc.does
 split
 ·unfold Mc.invoke
  split
  ·rename_i hcd
   simp only[Bool.and_eq_true,decide_eq_true_eq]at hcd;obtain⟨⟨⟨hh,-⟩,-⟩,hop⟩:=hcd;obtain⟨w1,w2,w3,w4⟩:=h0.worker hh;refine⟨h0.c,h0.ws,by simp[h0.len],fun i k hk=>?_,h0.tc,h0.now,h0.ahead,h0.asked,by simp;omega,h0.entries,h0.at'⟩;rw[List.getElem?_set]at hk
   split at hk
   ·split at hk
    ·cases hk;exact⟨au,by simp[Wk.zero],au,by simp[Wk.zero],au,by simp[Wk.zero],au,by simp[Wk.zero],au,by simp[Wk.zero],by have:=h0.c.s;simp[Wk.zero];omega,au,fun _=>hop,au⟩
    ·cases hk
   ·exact h0.ks i k hk
  ·exact h0
 split
 ·unfold Mc.pick
  split
  ·rename_i hcd
   simp only[Bool.and_eq_true]at hcd;obtain⟨w1,w2,w3,w4⟩:=h0.worker hcd.1;have hs:=w4.step h0.c w1 h0.ws m1.at';have hr:=Kg (s:=m1.sh) w4 w1 h0.c m1.at';have he:=Lg (s:=m1.sh) w4 h0.c w1 h0.ws.l;have hn:=OJ w4 m1.at' m1.sh;have hone:∀ o:Option Mod.Ev,o.toList.length<=1:=by intro o;cases o<;>simp
   have ho:=hone ((m1.worker x.who).step m1.cf x.who.toNat m1.at' m1.sh).2.2;dsimp only;generalize (m1.worker x.who).step m1.cf x.who.toNat m1.at' m1.sh=r at *;refine⟨h0.c,?_,by simp[h0.len],fun i k hk=>?_,by have:=hn.tc;show r.2.1.tc<=_;omega,by show 0<=r.2.1.now/\_;rw[hn.now];exact h0.now,Nat.le_trans hn.ahead h0.ahead,by have:=hn.asked;show r.2.1.good+r.2.1.bad<=_;omega,by simp only[List.length_append];omega,h0.entries,h0.at'⟩
   ·show Ia m1.cf r.2.1.ws
    rw[hr];exact h0.ws.run h0.c w1 he
   ·simp only at hk;rw[List.getElem?_set]at hk
    split at hk
    ·rename_i e
     subst e
     split at hk
     ·cases hk;exact hs
     ·cases hk
    ·exact h0.ks i k hk
  ·exact h0
 split
 ·exact⟨h0.c,h0.ws,h0.len,h0.ks,h0.tc,OL h0.now,h0.ahead,h0.asked,h0.evs,h0.entries,h0.at'⟩
 split
 ·split
  ·rename_i hl
   exact⟨h0.c,h0.ws,h0.len,h0.ks,h0.tc,h0.now,by simp;omega,h0.asked,h0.evs,h0.entries,h0.at'⟩
  ·exact h0
 split
 ·unfold Mc.break'
  split
  ·rename_i hh
   have hi:0<=x.ask.slot/\x.ask.slot < m1.cf.slots:=of_decide_eq_true hh;have hns:=h0.c.ns;have hin:x.ask.slot.toNat < ns m1.cf:=ag
   split
   ·rename_i nw hn
    have hw:=h0.c.nw;have hr:=h0.ws.run (who:=0) h0.c ag (e:=.slot x.ask.slot.toNat 13 0 0) hin;simp only[Eff.run,hn]at hr;exact⟨h0.c,hr,h0.len,h0.ks,by simp only[Sh.cells];omega,h0.now,h0.ahead,h0.asked,h0.evs,h0.entries,h0.at'⟩
   ·exact⟨h0.c,h0.ws,h0.len,h0.ks,by simp only[Sh.cells];omega,h0.now,h0.ahead,h0.asked,h0.evs,h0.entries,h0.at'⟩
  ·exact h0
 ·exact h0
theorem QV (m:Mc) (x:En):(m.lG x).2.cf=m.cf:=by
 unfold Mc.lG Mc.does Mc.invoke Mc.pick Mc.break'
 dsimp only
 repeat' split
 all_goals rfl
inductive Kc (m:Mc) (x:En):Bool->Mc->Prop
 | no (tc:Nat):Kc m x false {m with at':=m.entries,entries:=m.entries+1,sh:={m.sh with tc:=tc}}
 | ask (i:Nat) (k:Wk):x.kind=0->x.who=i->m.ks[i]? =some k->k.st=0->m.evs.length < 1999->0<=x.ask.op/\x.ask.op < 8->
   Kc m x true {m with at':=m.entries,entries:=m.entries+1,evs:=m.evs ++ [{Mod.Ev.zero with who:=i,at':=m.entries,ask:=x.ask}],ks:=m.ks.set i {Wk.zero with st:=1,ask:=x.ask}}
 | pick (i:Nat) (k k':Wk) (s':Sh) (o:Option Mod.Ev):x.kind=1->x.who=i->m.ks[i]? =some k->k.may m.cf i m.sh=true->Stp m.cf i m.entries m.sh k k' s' o->s'.ws=(oL m.cf i k m.sh).run m.cf i m.sh.ws->
   Kc m x true {m with at':=m.entries,entries:=m.entries+1,ks:=m.ks.set i k',sh:=s',evs:=m.evs ++ o.toList}
 | tick:x.kind=2->Kc m x true {m with at':=m.entries,entries:=m.entries+1,sh:={m.sh with now:=tick m.sh.now x.n}}
 | feed:x.kind=3->Kc m x true {m with at':=m.entries,entries:=m.entries+1,sh:={m.sh with ahead:=m.sh.ahead ++ [x.good]}}
 | brk (i:Nat) (nw:Int):x.kind=4->i < ns m.cf->bn (rd m.sh.ws (sc m.cf i)) 13 0 0=some nw->
   Kc m x true {m with at':=m.entries,entries:=m.entries+1,sh:=m.sh.cells (m.sh.ws.set (sc m.cf i) nw,2)}
theorem R7 {k:Wk} {c:aj.Cf} {who:Nat} {s:Sh} (h:k.may c who s=true):k.st≠0:=by
 unfold Wk.may at h
 split at h
 ·cases h
 ·assumption
theorem Ke {n:Nat} {m:Mc} (h:Fj n m) (x:En):Kc m x (m.lG x).1 (m.lG x).2:=by
 have hno:Kc m x false {m with at':=m.entries,entries:=m.entries+1}:=.no m.sh.tc;unfold Mc.lG Mc.does
 by_cases h0:x.kind=0
 ·rw[if_pos h0];unfold Mc.invoke
  split
  ·rename_i hcd
   simp only[Bool.and_eq_true,decide_eq_true_eq]at hcd;obtain⟨⟨⟨hh,hst⟩,hev⟩,hop⟩:=hcd;obtain⟨w1,w2,w3,w4⟩:=h.worker hh;have hi:x.who=(x.who.toNat:Int):=ag
   have:=Kc.ask (m:=m) (x:=x) x.who.toNat (m.worker x.who) h0 hi w2 hst hev hop;rw[<- hi]at this;exact this
  ·exact hno
 rw[if_neg h0]
 by_cases h1:x.kind=1
 ·rw[if_pos h1];unfold Mc.pick
  split
  ·rename_i hcd
   simp only[Bool.and_eq_true]at hcd;obtain⟨w1,w2,w3,w4⟩:=h.worker hcd.1;have hi:x.who=(x.who.toNat:Int):=ag
   exact Kc.pick x.who.toNat (m.worker x.who) _ _ _ h1 hi w2 hcd.2 (vW w4 (R7 hcd.2)) (Kg w4 w1 h.c m.entries)
  ·exact hno
 rw[if_neg h1]
 by_cases h2:x.kind=2
 ·rw[if_pos h2];exact .tick h2
 rw[if_neg h2]
 by_cases h3:x.kind=3
 ·rw[if_pos h3]
  by_cases hl:m.sh.ahead.length < 1000
  ·have:=Kc.feed (m:=m) (x:=x) h3
   simpa [hl] using this
  ·simpa [hl] using hno
 rw[if_neg h3]
 by_cases h4:x.kind=4
 ·rw[if_pos h4];unfold Mc.break'
  split
  ·rename_i hh
   have hi:0<=x.ask.slot/\x.ask.slot < m.cf.slots:=of_decide_eq_true hh;have hns:=h.c.ns;have hin:x.ask.slot.toNat < ns m.cf:=ag
   dsimp only
   split
   ·rename_i nw hn
    exact .brk x.ask.slot.toNat nw h4 hin hn
   ·exact .no (m.sh.tc+1)
  ·exact hno
 ·rw[if_neg h4];exact hno
end Mc
namespace Mc
open Go.RowKit Hp ah aj Slot ai Tk
theorem Py (n:Int) (k:Nat) (h0:0<=n/\n<=255) (hk:k < 8) (hb:Mod.bT n k=false):bits .xor .i64 n (Mod.kg n k)=2 ^ k:=by
 have h:∀ (m:Fin 256) (j:Fin 8),m.val.testBit j.val=false->bits .xor .i64 (m.val:Int) ((m.val ||| 2 ^ j.val:Nat):Int)=2 ^ j.val:=by decide+kernel
 obtain⟨m,rfl⟩:=Int.eq_ofNat_of_zero_le h0.1;exact h ⟨m,ag⟩ ⟨k,hk⟩ hb
theorem Mh (n:Int) (k:Nat) (h0:0<=n/\n<=255) (hk:k < 8) (hb:Mod.bT n k=true):bits .xor .i64 n (Mod.gP n k)=2 ^ k:=by
 have h:∀ (m:Fin 256) (j:Fin 8),m.val.testBit j.val=true->bits .xor .i64 (m.val:Int) ((m.val:Int) - 2 ^ j.val)=2 ^ j.val:=by decide+kernel
 obtain⟨m,rfl⟩:=Int.eq_ofNat_of_zero_le h0.1;exact h ⟨m,ag⟩ ⟨k,hk⟩ hb
theorem CG {n most:Int} {k:Nat} (h:Mod.dQ n most=some k):Mod.bT n k=false:=by
 unfold Mod.dQ at h;have:=List.find?_some h
 simpa using this
theorem yN {s t u:S} {own:Int} {b:Bool} (h:lC s own u b=some t):b=true/\t.streams=u.streams:=by
 unfold lC at h
 split at h
 ·rename_i hc
  cases h;exact⟨hc.2.2.2,rfl⟩
 ·cases h
theorem Mi {s t:S} {own most:Int} (hs:0<=s.streams/\s.streams<=255) (h:bC s 14 own most=some t):∃ k,k < 8/\Mod.dQ s.streams most=some k/\bits .xor .i64 s.streams t.streams=2 ^ k:=by
 obtain⟨hb,he⟩:=yN h;rw[he];clear he h;have ea:gG 14 s own most=if ((s.state == 3 && s.own == own) && !s.broken)=true then (match Mod.dQ s.streams most with | some i=>({s with streams:=Mod.kg s.streams i},true) | none=>(s,false)) else (s,false):=rfl
 rw[ea]at hb ⊢
 split at hb
 ·rename_i hc
  rw[if_pos hc]
  cases hf:Mod.dQ s.streams most with
  | none=>rw[hf]at hb;cases hb
  | some k=>
   have hk:=Mod.vJ hf;exact⟨k,hk,rfl,Py _ k hs hk (CG hf)⟩
 ·cases hb
theorem Mj {s t:S} {own num:Int} (hs:0<=s.streams/\s.streams<=255) (h:bC s 15 own num=some t):∃ k:Nat,k < 8/\num=k/\bits .xor .i64 s.streams t.streams=2 ^ k:=by
 obtain⟨hb,he⟩:=yN h;rw[he];clear he h;have ea:gG 15 s own num=if ((s.state == 3 && s.own == own) && decide (0<=num/\num < 8) && Mod.bT s.streams num.toNat)=true then ({s with streams:=Mod.gP s.streams num.toNat},true) else (s,false):=rfl
 rw[ea]at hb ⊢
 split at hb
 ·rename_i hc
  rw[if_pos hc];simp only[Bool.and_eq_true,decide_eq_true_eq]at hc;refine⟨num.toNat,ag,ag,Mh _ num.toNat hs ag hc.2⟩
 ·cases hb
theorem CF {x:Sm} {s t:S} (hs:0<=s.streams/\s.streams<=255) (h:x.becomes s=.inl t):∃ k:Nat,k < 8/\x.which s=k/\bits .xor .i64 s.streams t.streams=2 ^ k:=by
 unfold Sm.becomes at h;unfold Sm.which;cases ho:x.opens
 ·rw[ho]at h;simp only[Bool.false_eq_true,if_false]at h ⊢
  cases hn:bC s 15 x.w x.num with
  | none=>rw[hn]at h;cases h
  | some u=>
   rw[hn]at h;cases h;obtain⟨k,h1,h2,h3⟩:=Mj hs hn;exact⟨k,h1,h2,h3⟩
 ·rw[ho]at h;simp only[if_true]at h ⊢
  split at h
  ·cases h
  ·cases hn:bC s 14 x.w x.cf.streams with
   | none=>rw[hn]at h;cases h
   | some u=>
    rw[hn]at h;cases h;obtain⟨k,h1,h2,h3⟩:=Mi hs hn;exact⟨k,h1,by rw[h2],h3⟩
end Mc
namespace Mc
open Go.RowKit Hp Slot ah ai Tk
structure dw (n:Nat) (k:Wk):Prop where
 give:∀ g,k.st=2->k.bq=some (.give g)->g.st≠4
 close:∀ f q,k.st=2->k.bq=some (.close f (some q))->q.st≠8
 queue:∀ q,k.st=4\/k.st=8->k.queue=some q->q.st≠8
 two:∀ t,k.two=some t->t.rounds<=n
 stats:∀ t,k.bq=some (.stats t)->t.rounds<=n
section
variable {c:aj.Cf} {who at' n:Nat} {s s':Sh} {k k':Wk} {o:Option Mod.Ev}
theorem Ib (t:Tw) (ws:List Int):(t.step ws).1.rounds<=t.rounds+1:=by
 unfold Tw.step
 split
 ·exact Nat.le_succ _
 ·dsimp only
  split
  ·exact Nat.le_succ _
  ·exact Nat.le_refl _
theorem dw.off (h2:k.st≠2) (h4:k.st≠4) (h8:k.st≠8) (ht:∀ t,k.two=some t->t.rounds<=n) (hs:∀ t,k.bq=some (.stats t)->t.rounds<=n):dw n k:=
 ⟨fun _ e=>absurd e h2,fun _ _ e=>absurd e h2,fun _ e=>e.elim (fun e=>absurd e h4) fun e=>absurd e h8,ht,hs⟩
theorem dw.at2 (h2:k.st=2) {j:Az} (hj:k.bq=some j) (hg:∀ g,j=.give g->g.st≠4) (hc:∀ f q,j=.close f (some q)->q.st≠8) (hs:∀ t,j=.stats t->t.rounds<=n) (ht:∀ t,k.two=some t->t.rounds<=n):dw n k:=by
 refine⟨fun g _ e=>hg g ?_,fun f q _ e=>hc f q ?_,fun _ e=>ag,ht,fun t e=>hs t ?_⟩
 ·rw[hj]at e;exact Option.some.inj e
 ·rw[hj]at e;exact Option.some.inj e
 ·rw[hj]at e;exact Option.some.inj e
theorem dw.Ya (h2:k.st≠2) {q:Qu} (hq:k.queue=some q) (h8:q.st≠8) (ht:∀ t,k.two=some t->t.rounds<=n) (hs:∀ t,k.bq=some (.stats t)->t.rounds<=n):dw n k:=
 ⟨fun _ e=>absurd e h2,fun _ _ e=>absurd e h2,fun x _ e=>by rw[hq]at e;cases e;exact h8,ht,hs⟩
def OE (n:Nat):Az->Prop
 | .give g=>g.st≠4
 | .close _ (some q)=>q.st≠8
 | .stats t=>t.rounds<=n
 | _=>True
theorem dw.rH {j:Az} (h2:k.st=2) (hj:OE n j) (ht:∀ t,k.two=some t->t.rounds<=n):dw n {k with bq:=some j}:=by
 refine⟨fun g _ e=>?_,fun f q _ e=>?_,fun q e _=>?_,ht,fun t e=>?_⟩
 ·cases e;exact hj
 ·cases e;exact hj
 ·have:k.st=4\/k.st=8:=e;omega
 ·cases e;exact hj
theorem dw.mono {n':Nat} (h:dw n k) (hn:n<=n'):dw n' k:=⟨h.give,h.close,h.queue,fun t e=>Nat.le_trans (h.two t e) hn,fun t e=>Nat.le_trans (h.stats t e) hn⟩
theorem dw.Y2 (h:dw n k) (hs:Stp c who at' s k k' s' o):dw (n+1) k':=by
 have h1:∀ t,k.two=some t->t.rounds<=n+1:=fun t e=>Nat.le_succ_of_le (h.two t e)
 have h2:∀ t,k.bq=some (.stats t)->t.rounds<=n+1:=fun t e=>Nat.le_succ_of_le (h.stats t e)
 have FF:∀ (t t':Tw) (m:Nat),t.rounds<=n->t.step s.ws=(t',m)->t'.rounds<=n+1:=fun t t' m ht he=>by
  have:=Ib t s.ws;rw[he]at this;dsimp only at this;omega
 cases hs with
 | aJ hk hh=>exact .off (by show k.st≠2;omega) (by show k.st≠4;omega) (by show k.st≠8;omega) h1 h2
 | pin hk hh=>
  refine .at2 rfl rfl ?_ ?_ ?_ h1
  ·intro g e;unfold Wk.begin at e
   repeat' split at e
   all_goals first | (cases e;done) | (cases e;simp[Gi.new])
  ·intro f q e;unfold Wk.begin at e
   repeat' split at e
   all_goals (cases e;done)
  ·intro t e;unfold Wk.begin at e
   repeat' split at e
   all_goals first | (cases e;done) | (cases e;simp[Tw.new])
 | yw t t' aC m s1 hk hj he hs1 xE=>exact dw.rH (n:=n+1) hk trivial h1
 | oM t t' aC m s1 hk hj he hs1 xE h3 hw=>exact .Ya au rfl (by simp[Qu.enter]) h1 au
 | lN t t' aC m s1 hk hj he hs1 xE h3 hw=>exact .off au au au (fun t e=>by cases e;simp[Tw.new]) au
 | sM t t' aC m s1 hk hj he hs1 xE h3=>exact .off (by simp[Wk.finish,Wk.aR]) (by simp[Wk.finish,Wk.aR]) (by simp[Wk.finish,Wk.aR]) h1 (by simp[Wk.finish,Wk.aR])
 | sN g g' aC m hk hj he h4=>exact dw.rH (n:=n+1) hk h4 h1
 | oN g g' aC m hk hj he h4=>exact .off (by simp[Wk.finish,Wk.aR]) (by simp[Wk.finish,Wk.aR]) (by simp[Wk.finish,Wk.aR]) h1 (by simp[Wk.finish,Wk.aR])
 | yx x x' aC m hk hj he h3=>exact dw.rH (n:=n+1) hk trivial h1
 | sO x x' aC m hk hj he h3=>exact .off (by simp[Wk.finish,Wk.aR]) (by simp[Wk.finish,Wk.aR]) (by simp[Wk.finish,Wk.aR]) h1 (by simp[Wk.finish,Wk.aR])
 | lQ f hk hj=>exact dw.rH (n:=n+1) hk (show(Qu.drain c).st≠8 by simp[Qu.drain]) h1
 | oO f q q' aC m hk hj he h8=>exact dw.rH (n:=n+1) hk h8 h1
 | lS f q q' aC m hk hj he h8=>exact .off (by simp[Wk.finish,Wk.aR]) (by simp[Wk.finish,Wk.aR]) (by simp[Wk.finish,Wk.aR]) h1 (by simp[Wk.finish,Wk.aR])
 | oP t t' m hk hj he hd=>exact dw.rH (n:=n+1) hk (FF t t' m (h.stats t hj) he) h1
 | lT t t' m hk hj he hd=>exact .off (by simp[Wk.finish,Wk.aR]) (by simp[Wk.finish,Wk.aR]) (by simp[Wk.finish,Wk.aR]) h1 (fun t2 e=>by cases e;exact FF t t' m (h.stats t hj) he)
 | jT r b f m hk hj h0 he hf=>exact dw.rH (n:=n+1) hk trivial h1
 | lU r f m hk hj h0 he hf=>exact .off (by simp[Wk.finish,Wk.aR]) (by simp[Wk.finish,Wk.aR]) (by simp[Wk.finish,Wk.aR]) h1 (by simp[Wk.finish,Wk.aR])
 | lV r f m hk hj h0 he hf=>exact dw.rH (n:=n+1) hk trivial h1
 | sP r hk hj h0=>exact dw.rH (n:=n+1) hk trivial h1
 | oQ r hk hj h0=>exact dw.rH (n:=n+1) hk trivial h1
 | lW r s1 hk hj h0 he=>exact dw.rH (n:=n+1) hk trivial h1
 | oU r x x' b aC m many hk hj h0 hx he hb hm=>exact dw.rH (n:=n+1) hk trivial h1
 | jU r x x' b aC m hk hj h0 hx he hb=>exact dw.rH (n:=n+1) hk trivial h1
 | oV t t' m hk ht he hd=>exact .off (by show k.st≠2;omega) (by show k.st≠4;omega) (by show k.st≠8;omega) (fun t2 e=>by cases e;exact FF t t' m (h.two t ht) he) h2
 | jV t t' m hk ht he hd ha=>exact dw.rH (n:=n+1) (k:={k with two:=some t',st:=2}) (j:=.get (Tk.new c who)) rfl trivial (fun t2 e=>by cases e;exact FF t t' m (h.two t ht) he)
 | lX t t' m hk ht he hd ha=>exact .off (by simp[Wk.finish,Wk.aR]) (by simp[Wk.finish,Wk.aR]) (by simp[Wk.finish,Wk.aR]) (fun t2 e=>by cases e;exact FF t t' m (h.two t ht) he) h2
 | oW q q' aC m hk hq he h8=>exact .Ya (by show k.st≠2;omega) rfl h8 h1 h2
 | lY q q' aC m hk hq he h8=>exact .off (by simp[Wk.finish,Wk.aR]) (by simp[Wk.finish,Wk.aR]) (by simp[Wk.finish,Wk.aR]) h1 h2
 | oZ q q' aC m hk hq he h8=>exact .off (by simp[Wk.finish,Wk.aR]) (by simp[Wk.finish,Wk.aR]) (by simp[Wk.finish,Wk.aR]) h1 h2
 | sQ t t' aC m hk ht he Fs=>exact .off (by show k.st≠2;omega) (by show k.st≠4;omega) (by show k.st≠8;omega) h1 h2
 | lZ t t' aC m hk ht he Fs hp=>exact .off au au au h1 h2
 | mg t t' aC m hk ht he Fs hp=>exact .off au au au h1 h2
 | mh hk hh hg=>exact .off au au au h1 h2
 | mo q' aC m hk hg he h8=>exact .Ya au rfl h8 h1 h2
 | mq q' aC m hk hg he h8 h9=>exact .off au au au h1 h2
 | mD hk hh=>exact .off (by show k.st≠2;omega) (by show k.st≠4;omega) (by show k.st≠8;omega) h1 h2
 | mE hk hh hw=>exact .off (by simp[Wk.finish,Wk.aR]) (by simp[Wk.finish,Wk.aR]) (by simp[Wk.finish,Wk.aR]) h1 h2
 | o5 hk hh hw=>exact .off au au au h1 h2
 | o6 q q' aC m hk hq he h8=>exact .Ya (by show k.st≠2;omega) rfl h8 h1 h2
 | jW q q' aC m hk hq he h8 h9=>exact .off au au au h1 h2
 | mF q q' aC m hk hq he h8 h9=>exact .off (by simp[Wk.finish,Wk.aR]) (by simp[Wk.finish,Wk.aR]) (by simp[Wk.finish,Wk.aR]) h1 h2
end
def nA (n:Nat) (m:Mc):Prop:=∀ (i:Nat) (k:Wk),m.ks[i]? =some k->dw n k
theorem dw.zero (n:Nat):dw n Wk.zero:=.off (by simp[Wk.zero]) (by simp[Wk.zero]) (by simp[Wk.zero]) (by simp[Wk.zero]) (by simp[Wk.zero])
theorem nA.new (c:aj.Cf):nA 0 (Mc.new c):=by
 intro i k hk;simp only[Mc.new,List.getElem?_replicate]at hk
 split at hk
 ·cases hk;exact .zero 0
 ·cases hk
theorem nA.lG {n:Nat} {m:Mc} (h:nA n m) (hok:Fj n m) (x:En):nA (n+1) (m.lG x).2:=by
 have hset:∀ (ks:List Wk) (j:Nat) (k1:Wk),(∀ (i:Nat) (k:Wk),ks[i]? =some k->dw (n+1) k)->dw (n+1) k1->∀ (i:Nat) (k:Wk),(ks.set j k1)[i]? =some k->dw (n+1) k:=by
  intro ks j k1 h0 h1 i k hk;rw[List.getElem?_set]at hk
  split at hk
  ·split at hk
   ·cases hk;exact h1
   ·cases hk
  ·exact h0 i k hk
 have h0:∀ (i:Nat) (k:Wk),m.ks[i]? =some k->dw (n+1) k:=fun i k hk=>(h i k hk).mono (Nat.le_succ n)
 show nA (n+1) (Mc.does {m with at':=m.entries,entries:=m.entries+1} x).2
 unfold Mc.does
 by_cases k0:x.kind=0
 ·rw[if_pos k0];unfold Mc.invoke;dsimp only
  split
  ·exact hset _ _ _ h0 (.off au au au (by simp[Wk.zero]) (by simp[Wk.zero]))
  ·exact h0
 rw[if_neg k0]
 by_cases k1:x.kind=1
 ·rw[if_pos k1];unfold Mc.pick;dsimp only
  split
  ·rename_i hh
   rw[Bool.and_eq_true]at hh;have hw:=hok.worker (who:=x.who) hh.1;refine hset _ _ _ h0 ?_
   have hst:(m.worker x.who).st≠0:=by
    intro e;have h2:=hh.2;unfold Wk.may at h2;rw[if_pos (show(Mc.worker {m with at':=m.entries,entries:=m.entries+1} x.who).st=0 from e)]at h2;cases h2
   exact(h _ _ hw.2.1).Y2 (vW hw.2.2.2 hst)
  ·exact h0
 rw[if_neg k1]
 repeat' split
 all_goals first | exact h0 | (unfold Mc.break';dsimp only;repeat' split)
 all_goals exact h0
end Mc
end Go.Proofs.YtbklamnimfmjkaaGreatDoor
