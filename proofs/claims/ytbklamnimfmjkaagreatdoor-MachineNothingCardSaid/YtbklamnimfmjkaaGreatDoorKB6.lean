/- Part 6 of the walks and plain laws that the last text joins. -/
import Derived.Test.YtbklamnimfmjkaaGreatDoorKB4
import Derived.Test.YtbklamnimfmjkaaGreatDoorKB5
import Derived.IntWalk
import Derived.Great.BuildSlice
import Derived.RegionTactic
set_option maxRecDepth 100000
set_option maxHeartbeats 16000000
set_option linter.all false
open Go.Proofs.Tryz
namespace Go.Proofs.YtbklamnimfmjkaaGreatDoor
namespace Slot
open Go.RowKit Hp ai
theorem bN (s:S):s.right=true↔((0<=s.state/\s.state<=6)/\(0<=s.own/\s.own<=15)/\(0<=s.streams/\s.streams<=255)/\(0<=s.uses/\s.uses<=63)/\(0<=s.gen/\s.gen<=4095)/\(0<=s.aJ/\s.aJ<=4095)/\(0<=s.version/\s.version<=32767))/\
  (s.state=3\/s.streams=0)/\(s.state=2\/s.marked=false)/\((s.state=2\/s.state=3\/s.state=4)\/(s.broken=false/\s.uses=0))/\(s.state=6\/s.aJ=0)/\((s.state≠0/\s.state≠6)\/s.own=0):=by
 have m3:(Field.mx 3:Int)=7:=rfl;have m4:(Field.mx 4:Int)=15:=rfl;have m8:(Field.mx 8:Int)=255:=rfl;have m1:(Field.mx 1:Int)=1:=rfl;have m6:(Field.mx 6:Int)=63:=rfl;have m12:(Field.mx 12:Int)=4095:=rfl;have m15:(Field.mx 15:Int)=32767:=rfl;have hb:∀ b,0<=bit b/\bit b<=1:=fun b=>by cases b<;>decide
 obtain⟨st,ow,sm,br,ma,us,ge,ep,ve⟩:=s;have hb1:=hb br;have hb2:=hb ma;simp only[S.right,S.bare,Field.gZ,bH,S.nums,Bool.and_eq_true,decide_eq_true_eq,m3,m4,m8,m6,m12,m15,m1,S.mk.injEq,true_and,and_true]
 constructor
 ·rintro⟨h6,⟨e1,e2,e3,e4,e5,e6⟩,h⟩;refine⟨ag,?_,?_,?_,?_,?_⟩
  ·by_cases h3:st=3
   ·exact .inl h3
   ·rw[if_neg h3]at e2;exact .inr e2
  ·by_cases h3:st=2
   ·exact .inl h3
   ·rw[if_neg h3]at e4;exact .inr e4
  ·by_cases h3:st=2\/st=3\/st=4
   ·exact .inl h3
   ·rw[if_neg h3]at e3 e5;exact .inr ⟨e3,e5⟩
  ·by_cases h3:st=6
   ·exact .inl h3
   ·rw[if_neg h3]at e6;exact .inr e6
  ·by_cases h3:st=0\/st=6
   ·rw[if_pos h3]at e1;exact .inr e1
   ·exact .inl ag
 ·rintro⟨h,a1,a2,a3,a4,a5⟩;refine⟨ag,⟨?_,?_,?_,?_,?_,?_⟩,ag⟩
  ·by_cases h3:st=0\/st=6
   ·rw[if_pos h3];omega
   ·rw[if_neg h3]
  ·by_cases h3:st=3
   ·rw[if_pos h3]
   ·rw[if_neg h3];omega
  ·by_cases h3:st=2\/st=3\/st=4
   ·rw[if_pos h3]
   ·rw[if_neg h3];rcases a3 with a3 | a3;exact absurd a3 h3;exact a3.1
  ·by_cases h3:st=2
   ·rw[if_pos h3]
   ·rw[if_neg h3];rcases a2 with a2 | a2;exact absurd a2 h3;exact a2
  ·by_cases h3:st=2\/st=3\/st=4
   ·rw[if_pos h3]
   ·rw[if_neg h3];rcases a3 with a3 | a3;exact absurd a3 h3;exact a3.2
  ·by_cases h3:st=6
   ·rw[if_pos h3]
   ·rw[if_neg h3];omega
def S.word (s:S):Int:=s.state+8 * s.own+128 * s.streams+32768 * bit s.broken+65536 * bit s.marked+131072 * s.uses+8388608 * s.gen+34359738368 * s.aJ+140737488355328 * s.version
def cut (w:Int):S:=⟨w % 8,w / 8 % 16,w / 128 % 256,w / 32768 % 2 == 1,w / 65536 % 2 == 1,w / 131072 % 64,w / 8388608 % 4096,w / 34359738368 % 4096,w / 140737488355328 % 32768⟩
def dec (w:Int):Option S:=if (0<=w/\w < 4611686018427387904)/\(cut w).right=true then some (cut w) else none
theorem kZ (b:Bool):0<=bit b/\bit b<=1:=by cases b<;>decide
theorem P7 (n:Int):bit (n % 2 == 1)=n % 2:=by
 unfold bit
 rcases Int.emod_two_eq n with h | h<;>simp[h]
theorem AR {w:Int} (h:0<=w) (h2:w < 4611686018427387904):(cut w).word=w:=by
 unfold S.word cut;simp only[P7];omega
theorem Fb {s:S} (h:s.right=true):0<=s.word/\s.word < 4611686018427387904:=by
 have hb:=(bN s).1 h;have h1:=kZ s.broken;have h2:=kZ s.marked;unfold S.word;omega
theorem gM {w:Int} {s:S} (h:dec w=some s):s.right=true/\s.word=w:=by
 unfold dec at h
 split at h
 ·rename_i hc
  simp only[Option.some.injEq]at h;subst h;exact⟨hc.2,AR hc.1.1 hc.1.2⟩
 ·cases h
end Slot
namespace Mod
open Go.RowKit Hp Slot ah ai
def bT (n:Int) (i:Nat):Bool:=n.toNat.testBit i
def dQ (n:Int) (most:Int):Option Nat:=(List.range (min most 8).toNat).find? fun i=>!bT n i
def kg (n:Int) (i:Nat):Int:=((n.toNat ||| 2 ^ i:Nat):Int)
def gP (n:Int) (i:Nat):Int:=n - 2 ^ i
def act (d:Nat) (s:S) (own more:Int):S×Bool:=
 match d with
 | 0=>(toK s own 1,s.state == 0)
 | 1=>(eu s own,s.state == 1 && s.own == own)
 | 2=>(toK s own 0,s.state == 1 && s.own == own)
 | 3=>(eu s own,s.state == 2 && !s.broken)
 | 4=>(toK s own 2,(s.state == 3 && s.own == own) && s.streams == 0)
 | 5=>(toK s own 4,s.state == 2 && !s.broken)
 | 7=>(toK s own 5,s.state == 0)
 | 9=>(toK s own 2,s.state == 2)
 | 10=>({s with marked:=true},s.state == 2 && !s.marked)
 | 13=>({s with broken:=true},!s.broken && (s.state == 2 || (s.state == 3 || s.state == 4)))
 | 14=>if (s.state == 3 && s.own == own) && !s.broken then (match dQ s.streams more with | some i=>({s with streams:=kg s.streams i},true) | none=>(s,false)) else (s,false)
 | 15=>if (s.state == 3 && s.own == own) && decide (0<=more/\more < 8) && bT s.streams more.toNat then ({s with streams:=gP s.streams more.toNat},true) else (s,false)
 | 16=>if s.state == 5 && s.own == own then (toK s own 1,true) else (eu s own,s.state == 4 && s.own == own)
 | _=>(s,false)
def Done (d:Nat):Prop:=d=0\/d=1\/d=2\/d=3\/d=4\/d=5\/d=7\/d=9\/d=10\/d=13\/d=14\/d=15\/d=16
theorem Gl {n:Int} {k:Nat} (h:0<=n/\n<=255) (hk:k < 8):0<=kg n k/\kg n k<=255:=by
 have h':∀ (m:Fin 256) (j:Fin 8),((m.val ||| 2 ^ j.val:Nat):Int)<=255:=by decide+kernel
 obtain⟨m,rfl⟩:=Int.eq_ofNat_of_zero_le h.1;exact⟨by unfold kg;omega,h' ⟨m,ag⟩ ⟨k,hk⟩⟩
theorem vI {n:Int} {k:Nat} (h:0<=n/\n<=255) (hk:k < 8) (hb:bT n k=true):0<=gP n k/\gP n k<=255:=by
 have h':∀ (m:Fin 256) (j:Fin 8),m.val.testBit j.val=true->0<=(m.val:Int) - 2 ^ j.val/\(m.val:Int) - 2 ^ j.val<=255:=by decide+kernel
 obtain⟨m,rfl⟩:=Int.eq_ofNat_of_zero_le h.1;exact h' ⟨m,ag⟩ ⟨k,hk⟩ hb
theorem vJ {n most:Int} {k:Nat} (h:dQ n most=some k):k < 8:=by
 unfold dQ at h;have:=List.mem_of_find?_eq_some h;simp at this;omega
theorem mQ {s:S} {own:Int} (h:s.right=true) (ho:0<=own/\own<=15):({eu s own with version:=0}:S).right=true:=by
 rw[bN]at h ⊢;obtain⟨⟨q1,q2,q3,q4,q5,q6,q7⟩,a1,a2,a3,a4,a5⟩:=h;simp only[eu,toK];simp;omega
theorem gK {s:S} {own k:Int} (h:s.right=true) (ho:0<=own/\own<=15) (hk:k=0\/k=1\/k=2\/k=4\/k=5):({toK s own k with version:=0}:S).right=true:=by
 rw[bN]at h ⊢;obtain⟨⟨q1,q2,q3,q4,q5,q6,q7⟩,a1,a2,a3,a4,a5⟩:=h
 rcases hk with rfl | rfl | rfl | rfl | rfl<;>simp[toK]<;>omega
theorem Gm {d:Nat} (hd:Done d) {s:S} {own more:Int} (h:s.right=true) (ho:0<=own/\own<=15) (hb:(act d s own more).2=true):({(act d s own more).1 with version:=0}:S).right=true:=by
 rcases hd with rfl | rfl | rfl | rfl | rfl | rfl | rfl | rfl | rfl | rfl | rfl | rfl | rfl
 ·exact gK h ho au
 ·exact mQ h ho
 ·exact gK h ho au
 ·exact mQ h ho
 ·exact gK h ho au
 ·exact gK h ho au
 ·exact gK h ho au
 ·exact gK h ho au
 ·simp only[act]at hb ⊢;simp at hb;rw[bN]at h ⊢;simp only;omega
 ·simp only[act]at hb ⊢;simp at hb;rw[bN]at h ⊢;obtain⟨⟨q1,q2,q3,q4,q5,q6,q7⟩,a1,a2,a3,a4,a5⟩:=h;exact⟨⟨q1,q2,q3,q4,q5,q6,au⟩,a1,a2,.inl hb.2,a4,a5⟩
 ·simp only[act]at hb ⊢
  split at hb
  ·rename_i hc
   rw[if_pos hc];simp at hc
   cases hf:dQ s.streams more with
   | none=>rw[hf]at hb;simp at hb
   | some k=>
    rw[bN]at h ⊢;obtain⟨⟨q1,q2,q3,q4,q5,q6,q7⟩,a1,a2,a3,a4,a5⟩:=h;exact⟨⟨q1,q2,Gl q3 (vJ hf),q4,q5,q6,au⟩,.inl hc.1.1,a2,a3,a4,a5⟩
  ·simp at hb
 ·simp only[act]at hb ⊢
  split at hb
  ·rename_i hc
   rw[if_pos hc];simp at hc;rw[bN]at h ⊢;obtain⟨⟨q1,q2,q3,q4,q5,q6,q7⟩,a1,a2,a3,a4,a5⟩:=h;exact⟨⟨q1,q2,vI q3 (show more.toNat < 8 by omega) hc.2,q4,q5,q6,au⟩,.inl hc.1.1.1,a2,a3,a4,a5⟩
  ·simp at hb
 ·simp only[act]at hb ⊢
  split
  ·exact gK h ho au
  ·exact mQ h ho
theorem vK {s:S} (h:s.right=true):s.wf:=by
 rw[bN]at h;obtain⟨⟨q1,q2,q3,q4,q5,q6,q7⟩,_⟩:=h;intro x hx;have hb:∀ b:Bool,bit b=0\/bit b=1:=aT
 have h1:=hb s.broken;have h2:=hb s.marked;simp only[S.nums,List.mem_cons,List.not_mem_nil,or_false]at hx;omega
end Mod
namespace Tk
open Go.RowKit Hp Slot ah ai
def gG (d:Nat) (s:S) (own more:Int):S×Bool:=
 match d with
 | 6=>(toK s own 2,s.state == 4)
 | 8=>(toK s own 0,s.state == 5)
 | 11=>({toK s own 6 with aJ:=more},decide (0<=more/\more<=4095) && (s.state == 2 || s.state == 3))
 | 12=>(toK s own 0,s.state == 6)
 | 17=>({toK s own 6 with aJ:=more},decide (0<=more/\more<=4095) && s.state == 6)
 | d=>Mod.act d s own more
def bC (s:S) (d:Nat) (own more:Int):Option S:=lC s own (gG d s own more).1 (gG d s own more).2
def bn (w:Int) (d:Nat) (own more:Int):Option Int:=(dec w).bind fun s=>(bC s d own more).map S.word
def sc (c:aj.Cf) (i:Nat):Nat:=3+2 * c.workers.toNat+i
def ns (c:aj.Cf):Nat:=c.slots.toNat
def rd (ws:List Int) (i:Nat):Int:=ws.getD i 0
def dF (ws:List Int) (i:Nat) (old new:Int):Bool×List Int:=if rd ws i=old then (true,ws.set i new) else (false,ws)
structure Fd where
 kind:Int
 own:Int
 at':Nat
 word:Int
 found:Bool
 deriving DecidableEq
def Fd.new (kind own:Int):Fd:=⟨kind,own,0,0,false⟩
def eF (w kind own:Int):Bool:=match dec w with | some s=>Find.fits s kind own | none=>false
def Fd.step (c:aj.Cf) (f:Fd) (ws:List Int):Bool×Fd×Nat:=
 if f.found\/ns c<=f.at' then (true,f,0)
 else if eF (rd ws (sc c f.at')) f.kind f.own then (true,{f with word:=rd ws (sc c f.at'),found:=true},1)
 else (decide (ns c<=f.at'+1),{f with at':=f.at'+1},1)
def Fd.again (f:Fd):Fd:={f with found:=false}
def Fd.go (f:Fd):Fd:=if f.found then {f with found:=false,at':=f.at'+1} else f
structure Rt where
 cell:Nat
 word:Int
 aJ:Int
 st:Nat
 swapped:Bool
 done:Bool
 deriving DecidableEq
def Rt.new (cell:Nat) (word:Int):Rt:=⟨cell,word,0,0,false,false⟩
def Rt.end' (r:Rt):Rt:={r with st:=4,done:=true}
def Rt.step (r:Rt) (ws:List Int):Bool×Rt×List Int×Nat:=
 match r.st with
 | 0=>match bn r.word 11 0 4095 with
  | some nw=>if rd ws r.cell=r.word then (false,{r with word:=nw,swapped:=true,st:=1},ws.set r.cell nw,1) else (true,r.end',ws,1)
  | none=>(true,r.end',ws,0)
 | 1=>(false,{r with aJ:=rd ws 2,st:=2},ws,1)
 | 2=>match bn r.word 17 0 r.aJ with
  | some nw=>(false,{r with st:=3},(dF ws r.cell r.word nw).2,1)
  | none=>(false,{r with st:=3},ws,0)
 | 3=>(true,r.end',ws.set 2 (wrap64 (rd ws 2+1)),1)
 | _=>(true,r.end',ws,0)
instance:DecidableEq aj.Cf:=fun a b=>decidable_of_iff (a.workers=b.workers/\a.slots=b.slots/\a.streams=b.streams/\a.waiters=b.waiters/\a.uses=b.uses) (by cases a;cases b;simp)
structure Tk where
 cf:aj.Cf
 w:Int
 st:Nat
 look:Option Fd
 i:Nat
 word:Int
 gen:Int
 passes:Bool
 rt:Option Rt
 e:Int
 deriving DecidableEq
def Tk.new (c:aj.Cf) (w:Int):Tk:=⟨c,w,0,none,0,0,0,false,none,0⟩
def Tk.granted (c:aj.Cf) (w:Int) (i:Nat):Tk:=⟨c,w,13,none,i,0,0,false,none,0⟩
def Tk.finish (t:Tk) (e:Int):Tk:={t with e:=e,st:=15}
def Tk.search (t:Tk) (st:Nat) (kind own:Int):Tk:={t with look:=some (Fd.new kind own),st:=st}
def Tk.fd (t:Tk):Fd:=t.look.getD (Fd.new 0 0)
def Tk.ret (t:Tk):Rt:=t.rt.getD (Rt.new 0 0)
def Tk.dz (t:Tk) (ws:List Int):Bool×Bool×Tk×Nat:=
 let r:=t.fd.step t.cf ws
 (r.2.1.found,r.1 && !r.2.1.found,{t with look:=some r.2.1},r.2.2)
def Tk.swap (t:Tk) (i:Nat) (word:Int) (d:Nat) (ws:List Int):Bool×Tk×List Int×Nat:=
 match (dec word).bind fun s=>bC s d t.w 0 with
 | some s=>if rd ws (sc t.cf i)=word then (true,{t with i:=i,word:=s.word,gen:=s.gen},ws.set (sc t.cf i) s.word,1) else (false,t,ws,1)
 | none=>(false,t,ws,0)
def Tk.di (t:Tk) (d:Nat) (ws:List Int):Bool×Tk×List Int×Nat:=
 let r:=t.swap t.fd.at' t.fd.word d ws
 if r.1 then r else (false,{r.2.1 with look:=some r.2.1.fd.again},r.2.2)
def Tk.step (t:Tk) (ws:List Int) (good:Bool):Tk×List Int×Nat:=
 match t.st with
 | 0=>if rd ws 0≠0 then (t.finish 5,ws,1) else (t.search 1 0 t.w,ws,1)
 | 1=>let r:=t.dz ws;if r.1 then ({r.2.2.1 with st:=2},ws,r.2.2.2) else if r.2.1 then (r.2.2.1.search 3 1 t.w,ws,r.2.2.2) else (r.2.2.1,ws,r.2.2.2)
 | 2=>let r:={t with st:=1}.di 3 ws;if r.1 then ({r.2.1 with st:=10},r.2.2) else r.2
 | 3=>let r:=t.dz ws;if r.1 then ({r.2.2.1 with st:=4},ws,r.2.2.2) else if r.2.1 then (r.2.2.1.search 7 2 t.w,ws,r.2.2.2) else (r.2.2.1,ws,r.2.2.2)
 | 4=>let r:={t with st:=3}.di 3 ws
  if r.1 then (match dec t.fd.word with
   | some s=>if s.own≠t.w then ({r.2.1 with passes:=false}.search 5 0 s.own,r.2.2) else ({r.2.1 with st:=10},r.2.2)
   | none=>({r.2.1 with st:=10},r.2.2)) else r.2
 | 5=>let r:=t.dz ws
  if r.1 && r.2.2.1.passes then ({r.2.2.1 with passes:=false,look:=some r.2.2.1.fd.go},ws,r.2.2.2)
  else if r.1 then ({r.2.2.1 with passes:=true,st:=6},ws,r.2.2.2)
  else if r.2.1 then ({r.2.2.1 with st:=10},ws,r.2.2.2) else (r.2.2.1,ws,r.2.2.2)
 | 6=>match bn t.fd.word 9 t.w 0 with
  | some nw=>({t with look:=some t.fd.go,st:=5},(dF ws (sc t.cf t.fd.at') t.fd.word nw).2,1)
  | none=>({t with look:=some t.fd.go,st:=5},ws,0)
 | 7=>let r:=t.dz ws;if r.1 then ({r.2.2.1 with st:=8},ws,r.2.2.2) else if r.2.1 then (r.2.2.1.finish 3,ws,r.2.2.2) else (r.2.2.1,ws,r.2.2.2)
 | 8=>let r:={t with st:=7}.di 0 ws;if r.1 then ({r.2.1 with st:=9},r.2.2) else r.2
 | 9=>let r:=t.swap t.i t.word (if good then 1 else 2) ws;if r.1 && good then ({r.2.1 with st:=10},r.2.2) else (r.2.1.finish 6,r.2.2)
 | 10=>if rd ws 0=0 then (t.finish 0,ws,1) else ({t with st:=11},ws,1)
 | 11=>let word:=rd ws (sc t.cf t.i)
  match dec word with
  | some s=>if s.state=3/\s.own=t.w/\s.gen=t.gen then ({t with rt:=some (Rt.new (sc t.cf t.i) word),st:=12},ws,1) else (t.finish 5,ws,1)
  | none=>(t.finish 5,ws,1)
 | 12=>let r:=t.ret.step ws
  if r.1 then (if r.2.1.swapped then ({t with rt:=some r.2.1}.finish 5,r.2.2) else ({t with rt:=some r.2.1,st:=11},r.2.2)) else ({t with rt:=some r.2.1},r.2.2)
 | 13=>({t with word:=rd ws (sc t.cf t.i),st:=14},ws,1)
 | 14=>match (dec t.word).bind fun s=>bC s 16 t.w 0 with
  | none=>(t.finish 5,ws,0)
  | some s=>let r:=t.swap t.i t.word 16 ws
   if r.1 then (if s.state=3 then ({r.2.1 with st:=10},r.2.2) else ({r.2.1 with st:=9},r.2.2)) else ({r.2.1 with st:=13},r.2.2)
 | _=>(t,ws,0)
def Tk.answer (t:Tk):Int×Int×Int:=if t.st≠15 then (8,0,0) else if t.e≠0 then (t.e,0,0) else (0,t.i,t.gen)
end Tk
namespace Slot
open Go.RowKit Hp
theorem EA {s:S} (h:s.right=true):s=s.bare:=by
 unfold S.right at h;simp only[Bool.and_eq_true,decide_eq_true_eq]at h;exact h.2.1
theorem Px (s:S):Field.pw bH s.nums 9=s.word:=by
 simp[Field.pw,S.nums,bH,S.word];omega
theorem Me {s:S} (h:s.right=true) (k:Nat) (x:Nat×Nat) (v:Int) (h1:bH[k]? =some x) (h2:s.nums[k]? =some v):0<=v/\v<=(Field.mx x.2:Int):=by
 have hb:=((bN s).1 h).1;have b1:=kZ s.broken;have b2:=kZ s.marked;have hk:k < 9:=(List.getElem?_eq_some_iff.1 h1).1;have:k=0\/k=1\/k=2\/k=3\/k=4\/k=5\/k=6\/k=7\/k=8:=ag
 rcases this with rfl | rfl | rfl | rfl | rfl | rfl | rfl | rfl | rfl<;>(simp[bH,S.nums]at h1 h2;subst h1;subst h2;simp[Field.mx];omega)
theorem I6 {s:S} (h:s.right=true) (k:Nat) (x:Nat×Nat) (h1:bH[k]? =some x):0<=Field.pw bH s.nums k/\Field.pw bH s.nums k < 2 ^ x.1:=by
 have hb:=((bN s).1 h).1;have b1:=kZ s.broken;have b2:=kZ s.marked;have hk:k < 9:=(List.getElem?_eq_some_iff.1 h1).1;have:k=0\/k=1\/k=2\/k=3\/k=4\/k=5\/k=6\/k=7\/k=8:=ag
 rcases this with rfl | rfl | rfl | rfl | rfl | rfl | rfl | rfl | rfl<;>(simp[bH]at h1;subst h1;simp[Field.pw,S.nums,bH];try omega)
theorem fP (w:World) (s:S) (hL:Laid w) (hr:s.right=true):Calls prog 73 #[s.val] w fun e w'=>e=.returned (.tuple #[.i s.word,.bool true])/\Below w.heap.size w w':=by
 have h6:¬ 6 < s.state:=by have:=((bN s).1 hr).1.1;omega
 have hn:s=s.bare:=EA hr;have hin:=Me hr;have hasc:=I6 hr;have hb:=fun w=>xx w s
 have HS:=uH (Px s);have HI:=uH hin;have HA:=uH hasc;rw[<- hn]at hb;clear hn hr hin hasc;obtain⟨st,ow,sm,br,ma,us,ge,ep,ve⟩:=s;have hq:=fun w=>zM w st ow sm br ma us ge ep ve st ow sm br ma us ge ep ve
 simp only[decide_true]at hq
 go_enter func73,ntmps73
 simp only[S.val,S.cells]at hb h6 ⊢
 ·skip
  have hg:decide (6 < st)=false:=by simpa using h6
  have hA:=(Below.refl w.heap.size w).alloc aQ (.cells (Aa st ow sm br ma us ge ep ve) 57);have hB:=hA.drew;have TN:Laid (w.alloc (.cells (Aa st ow sm br ma us ge ep ve) 57)):=hL.stable (hA.block 0 (hL.lt aT));have c0:(w.alloc (.cells (Aa st ow sm br ma us ge ep ve) 57)).cell? ⟨w.heap.size,0,none⟩=some (.i st):=au
  have c1:(w.alloc (.cells (Aa st ow sm br ma us ge ep ve) 57)).cell? ⟨w.heap.size,1,none⟩=some (.i ow):=au
  have c2:(w.alloc (.cells (Aa st ow sm br ma us ge ep ve) 57)).cell? ⟨w.heap.size,2,none⟩=some (.i sm):=au
  have c3:(w.alloc (.cells (Aa st ow sm br ma us ge ep ve) 57)).cell? ⟨w.heap.size,3,none⟩=some (.bool br):=au
  have c4:(w.alloc (.cells (Aa st ow sm br ma us ge ep ve) 57)).cell? ⟨w.heap.size,4,none⟩=some (.bool ma):=au
  have c5:(w.alloc (.cells (Aa st ow sm br ma us ge ep ve) 57)).cell? ⟨w.heap.size,5,none⟩=some (.i us):=au
  have c6:(w.alloc (.cells (Aa st ow sm br ma us ge ep ve) 57)).cell? ⟨w.heap.size,6,none⟩=some (.i ge):=au
  have c7:(w.alloc (.cells (Aa st ow sm br ma us ge ep ve) 57)).cell? ⟨w.heap.size,7,none⟩=some (.i ep):=au
  have c8:(w.alloc (.cells (Aa st ow sm br ma us ge ep ve) 57)).cell? ⟨w.heap.size,8,none⟩=some (.i ve):=au
  have hsz:w.heap.size < (w.alloc (.cells (Aa st ow sm br ma us ge ep ve) 57)).heap.size:=au
  go_wp2_with fail;generalize w.alloc (.cells (Aa st ow sm br ma us ge ep ve) 57)=wa at *
  go_region_held3 (fun w'=>w'.cell? ⟨w.heap.size,0,none⟩=some (.i st)/\w'.cell? ⟨w.heap.size,1,none⟩=some (.i ow)/\w'.cell? ⟨w.heap.size,2,none⟩=some (.i sm)/\w'.cell? ⟨w.heap.size,3,none⟩=some (.bool br)/\w'.cell? ⟨w.heap.size,4,none⟩=some (.bool ma)/\w'.cell? ⟨w.heap.size,5,none⟩=some (.i us)/\w'.cell? ⟨w.heap.size,6,none⟩=some (.i ge)/\w'.cell? ⟨w.heap.size,7,none⟩=some (.i ep)/\w'.cell? ⟨w.heap.size,8,none⟩=some (.i ve)) (first | go_keep | exact⟨aI,aI,aI,aI,aI,aI,aI,aI,aI⟩)
   ((first
   | (go_at_call 97;refine(hb _).mono ?_;rintro e w5 ⟨rfl,hb5⟩;have hL5:=TN.stable (hb5.block 0 (TN.lt aT));have kM:=hB.trans (hb5.mono (Nat.le_of_lt hsz));have d0:=Field.ak hb5 c0;have d1:=Field.ak hb5 c1;have d2:=Field.ak hb5 c2;have d3:=Field.ak hb5 c3;have d4:=Field.ak hb5 c4;have d5:=Field.ak hb5 c5;have d6:=Field.ak hb5 c6;have d7:=Field.ak hb5 c7;have d8:=Field.ak hb5 c8)))
  have ym:=Dm hL5;have hst:=Dn;clear c0 c1 c2 c3 c4 c5 c6 c7 c8 hb5 hq hb
  go_wp2_with (first
   | (refine wpList_load_mid rfl 137 (.global 0) rfl 0 0 rfl xI _ ym underlying137 rfl ax ?_))
  have hA2:Below w5.heap.size w5 (w5.alloc (.cells xI.toArray 137)):=bZ.alloc aQ _;have hF:Field.uQ (w5.alloc (.cells xI.toArray 137)) w5.heap.size bH:=Rx (sD _ _);have kS:=kM.trans (hA2.mono (kM.size));have Uc:w5.heap.size < (w5.alloc (.cells xI.toArray 137)).heap.size:=au
  have c0:=Field.ak hA2 d0;have c1:=Field.ak hA2 d1;have c2:=Field.ak hA2 d2;have c3:=Field.ak hA2 d3;have c4:=Field.ak hA2 d4;have c5:=Field.ak hA2 d5;have c6:=Field.ak hA2 d6;have c7:=Field.ak hA2 d7;have c8:=Field.ak hA2 d8;generalize w5.alloc (.cells xI.toArray 137)=wb at *;generalize w5.heap.size=gb at *;clear d0 d1 d2 d3 d4 d5 d6 d7 d8 hA2 ym hst;have hsw:=kS.size;have xy:Below wb.heap.size wb (wb.drew.alloc (.cells (Ad st ow sm (bit br) (bit ma) us ge ep ve) 3)):=bY.alloc au _;have k0:=Field.ak xy c0;have k1:=Field.ak xy c1;have k2:=Field.ak xy c2;have k3:=Field.ak xy c3;have k4:=Field.ak xy c4;have k5:=Field.ak xy c5;have k6:=Field.ak xy c6;have k7:=Field.ak xy c7;have k8:=Field.ak xy c8
  have hpk:=Field.J3 (wb.drew.alloc (.cells (Ad st ow sm (bit br) (bit ma) us ge ep ve) 3)) gb bH wb.heap.size 0 9 (S.nums ⟨st,ow,sm,br,ma,us,ge,ep,ve⟩) aT (hF.stable (Below.heap_alloc _ _ _ Uc)) (by simp;omega) sw yM (Cz wb.drew ⟨st,ow,sm,br,ma,us,ge,ep,ve⟩ _) rfl HI.out HA.out
  go_region_held3 (fun w'=>w'.cell? ⟨w.heap.size,0,none⟩=some (.i st)/\w'.cell? ⟨w.heap.size,1,none⟩=some (.i ow)/\w'.cell? ⟨w.heap.size,2,none⟩=some (.i sm)/\w'.cell? ⟨w.heap.size,3,none⟩=some (.bool br)/\w'.cell? ⟨w.heap.size,4,none⟩=some (.bool ma)/\w'.cell? ⟨w.heap.size,5,none⟩=some (.i us)/\w'.cell? ⟨w.heap.size,6,none⟩=some (.i ge)/\w'.cell? ⟨w.heap.size,7,none⟩=some (.i ep)/\w'.cell? ⟨w.heap.size,8,none⟩=some (.i ve)) (first | go_keep | exact⟨aI,aI,aI,aI,aI,aI,aI,aI,aI⟩)
   ((first
   | (go_at_call 99;refine(vF _ br).mono ?_;rintro e w6 ⟨rfl,rfl⟩)
   | (go_at_call 99;refine(vF _ ma).mono ?_;rintro e w6 ⟨rfl,rfl⟩)
   | (go_at_call 98;refine hpk.mono ?_;rintro e w7 ⟨rfl,cB⟩;have m0:=Field.ak cB k0;have m1:=Field.ak cB k1;have m2:=Field.ak cB k2;have m3:=Field.ak cB k3;have m4:=Field.ak cB k4;have m5:=Field.ak cB k5;have m6:=Field.ak cB k6;have m7:=Field.ak cB k7;have m8:=Field.ak cB k8)))
  have kN:=kS.trans ((xy.trans (cB.mono xy.size)).mono hsw);clear k0 m0 c0 k1 m1 c1 k2 m2 c2 k3 m3 c3 k4 m4 c4 k5 m5 c5 k6 m6 c6 k7 m7 c7 k8 m8 c8 cB hpk;go_wp2_with fail;go_ret2;exact⟨by rw[<- HS.out];rfl,kN⟩
end Slot
namespace Tk
open Go.RowKit Hp Slot ah ai
theorem xZ {s:S} {v:Int} (h:({s with version:=0}:S).right=true) (hv:0<=v/\v<=32767):({s with version:=v}:S).right=true:=by
 rw[bN]at h ⊢;simp only at h ⊢;obtain⟨⟨q1,q2,q3,q4,q5,q6,q7⟩,r⟩:=h;exact⟨⟨q1,q2,q3,q4,q5,q6,hv⟩,r⟩
def xm (d:Nat):Prop:=Mod.Done d\/d=6\/d=8\/d=11\/d=12\/d=17
theorem PK {d:Nat} (hd:Mod.Done d) (s:S) (own more:Int):gG d s own more=Mod.act d s own more:=by
 rcases hd with rfl | rfl | rfl | rfl | rfl | rfl | rfl | rfl | rfl | rfl | rfl | rfl | rfl<;>rfl
variable {own more:Int}
theorem ER {d:Nat} (hd:xm d) {s:S} (h:s.right=true) (ho:0<=own/\own<=15) (hb:(gG d s own more).2=true):({(gG d s own more).1 with version:=0}:S).right=true:=by
 rcases hd with hd | rfl | rfl | rfl | rfl | rfl
 ·rw[PK hd]at hb ⊢;exact Mod.Gm hd h ho hb
 ·exact Mod.gK h ho au
 ·exact Mod.gK h ho au
 ·simp only[gG]at hb ⊢;simp at hb;rw[bN]at h ⊢;simp[toK];omega
 ·exact Mod.gK h ho au
 ·simp only[gG]at hb ⊢;simp at hb;rw[bN]at h ⊢;simp[toK];omega
theorem zT {d:Nat} {s t:S} (h:bC s d own more=some t):s.right=true/\(0<=own/\own<=15)/\(gG d s own more).2=true/\t={(gG d s own more).1 with version:=(s.version+1) % 32768}:=by
 unfold bC lC at h
 split at h
 ·rename_i hc
  simp only[Option.some.injEq]at h;exact⟨hc.1,⟨hc.2.1,hc.2.2.1⟩,hc.2.2.2,h.symm⟩
 ·cases h
theorem NT {d:Nat} {s:S} (h:s.right=true) (ho:0<=own/\own<=15) (hb:(gG d s own more).2=true):bC s d own more=some {(gG d s own more).1 with version:=(s.version+1) % 32768}:=by
 unfold bC lC;rw[if_pos ⟨h,ho.1,ho.2,hb⟩]
theorem fC {d:Nat} (hd:xm d) {s t:S} (h:bC s d own more=some t):t.right=true:=by
 obtain⟨h1,h2,h3,rfl⟩:=zT h;exact xZ (ER hd h1 h2 h3) ag
end Tk
namespace Cl
open Go.RowKit Hp Slot ah ai
def gD (d:Nat):Prop:=d=0\/d=1\/d=2\/d=3\/d=9\/d=11\/d=16\/d=17
theorem gD.x {d:Nat} (h:gD d):Tk.xm d:=by
 rcases h with rfl | rfl | rfl | rfl | rfl | rfl | rfl | rfl
 ·exact .inl (by simp[Mod.Done])
 ·exact .inl (by simp[Mod.Done])
 ·exact .inl (by simp[Mod.Done])
 ·exact .inl (by simp[Mod.Done])
 ·exact .inl (by simp[Mod.Done])
 ·exact .inr (.inr (.inr (.inl rfl)))
 ·exact .inl (by simp[Mod.Done])
 ·exact .inr (.inr (.inr (.inr (.inr rfl))))
theorem LU (d:Nat) (hd:gD d) (s:S) (own more:Int):∃ F,(∀ args w,(callFunc F args).run prog w=.ok (.enter F args) w)/\acts[d]? =some (.func (.func F) #[] #[])/\
  (s.right=true->∀ W,Calls prog F #[cO s own more] W fun e W'=>e=.returned (.tuple #[(Tk.gG d s own more).1.val,.bool (Tk.gG d s own more).2])/\Below W.heap.size W W'):=by
 have hu:=fun h=>(jO (s:=s) h).2.1
 have hg:=fun h=>(jO (s:=s) h).2.2.1
 rcases hd with rfl | rfl | rfl | rfl | rfl | rfl | rfl | rfl
 ·exact⟨_,aH func132,rfl,fun h W=>Kl W s own more⟩
 ·exact⟨_,aH func133,rfl,fun h W=>Sc W s own more (hu h) (hg h)⟩
 ·exact⟨_,aH func134,rfl,fun h W=>Km W s own more⟩
 ·exact⟨_,aH func135,rfl,fun h W=>sU W s own more (hu h) (hg h)⟩
 ·exact⟨_,aH func141,rfl,fun h W=>Kq W s own more⟩
 ·exact⟨_,aH func143,rfl,fun h W=>DI W s own more⟩
 ·refine⟨_,aH func148,rfl,fun h W=>(Ku W s own more (hu h) (hg h)).mono ?_⟩;rintro e W' ⟨rfl,hb⟩;refine⟨?_,hb⟩;simp only[Tk.gG,Mod.act]
  split<;>rfl
 ·exact⟨_,aH func149,rfl,fun h W=>N8 W s own more⟩
theorem yL (W:World) (s:S) (d:Nat) (own more:Int) (hd:gD d) (hr:s.right=true) (hL:Laid W):Calls prog 72 #[s.val,.i d,.i own,.i more] W fun e W'=>
  e=.returned (.tuple #[((Tk.bC s d own more).getD S.zero).val,.bool (Tk.bC s d own more).isSome])/\Below W.heap.size W W':=by
 obtain⟨F,h1,h2,h3⟩:=LU d hd s own more;exact xk W s own more F d _ _ (by unfold gD at hd;omega) h1 h2 hL (Mod.vK hr) h3
end Cl
namespace Tk
open Go.RowKit Hp Slot ah ai
section
variable {t:Tk} {ws:List Int} {good:Bool}
theorem BM (hk:t.st=0):t.step ws good=
  (if rd ws 0≠0 then (t.finish 5,ws,1) else (t.search 1 0 t.w,ws,1)):=by
 unfold Tk.step;rw[hk]
 try rfl
theorem BN (hk:t.st=1):t.step ws good=
  (let r:=t.dz ws;if r.1 then ({r.2.2.1 with st:=2},ws,r.2.2.2) else if r.2.1 then (r.2.2.1.search 3 1 t.w,ws,r.2.2.2) else (r.2.2.1,ws,r.2.2.2)):=by
 unfold Tk.step;rw[hk]
 try rfl
theorem BO (hk:t.st=2):t.step ws good=
  (let r:={t with st:=1}.di 3 ws;if r.1 then ({r.2.1 with st:=10},r.2.2) else r.2):=by
 unfold Tk.step;rw[hk]
 try rfl
theorem BP (hk:t.st=3):t.step ws good=
  (let r:=t.dz ws;if r.1 then ({r.2.2.1 with st:=4},ws,r.2.2.2) else if r.2.1 then (r.2.2.1.search 7 2 t.w,ws,r.2.2.2) else (r.2.2.1,ws,r.2.2.2)):=by
 unfold Tk.step;rw[hk]
 try rfl
theorem BQ (hk:t.st=4):t.step ws good=
  (let r:={t with st:=3}.di 3 ws
  if r.1 then (match dec t.fd.word with
   | some s=>if s.own≠t.w then ({r.2.1 with passes:=false}.search 5 0 s.own,r.2.2) else ({r.2.1 with st:=10},r.2.2)
   | none=>({r.2.1 with st:=10},r.2.2)) else r.2):=by
 unfold Tk.step;rw[hk]
 try rfl
theorem BR (hk:t.st=5):t.step ws good=
  (let r:=t.dz ws
  if r.1 && r.2.2.1.passes then ({r.2.2.1 with passes:=false,look:=some r.2.2.1.fd.go},ws,r.2.2.2)
  else if r.1 then ({r.2.2.1 with passes:=true,st:=6},ws,r.2.2.2)
  else if r.2.1 then ({r.2.2.1 with st:=10},ws,r.2.2.2) else (r.2.2.1,ws,r.2.2.2)):=by
 unfold Tk.step;rw[hk]
 try rfl
theorem BS (hk:t.st=6):t.step ws good=
  (match bn t.fd.word 9 t.w 0 with
  | some nw=>({t with look:=some t.fd.go,st:=5},(dF ws (sc t.cf t.fd.at') t.fd.word nw).2,1)
  | none=>({t with look:=some t.fd.go,st:=5},ws,0)):=by
 unfold Tk.step;rw[hk]
 try rfl
theorem BU (hk:t.st=7):t.step ws good=
  (let r:=t.dz ws;if r.1 then ({r.2.2.1 with st:=8},ws,r.2.2.2) else if r.2.1 then (r.2.2.1.finish 3,ws,r.2.2.2) else (r.2.2.1,ws,r.2.2.2)):=by
 unfold Tk.step;rw[hk]
 try rfl
theorem BV (hk:t.st=8):t.step ws good=
  (let r:={t with st:=7}.di 0 ws;if r.1 then ({r.2.1 with st:=9},r.2.2) else r.2):=by
 unfold Tk.step;rw[hk]
 try rfl
theorem BX (hk:t.st=9):t.step ws good=
  (let r:=t.swap t.i t.word (if good then 1 else 2) ws;if r.1 && good then ({r.2.1 with st:=10},r.2.2) else (r.2.1.finish 6,r.2.2)):=by
 unfold Tk.step;rw[hk]
 try rfl
theorem uy (hk:t.st=10):t.step ws good=
  (if rd ws 0=0 then (t.finish 0,ws,1) else ({t with st:=11},ws,1)):=by
 unfold Tk.step;rw[hk]
 try rfl
theorem uz (hk:t.st=11):t.step ws good=
  (let word:=rd ws (sc t.cf t.i)
  match dec word with
  | some s=>if s.state=3/\s.own=t.w/\s.gen=t.gen then ({t with rt:=some (Rt.new (sc t.cf t.i) word),st:=12},ws,1) else (t.finish 5,ws,1)
  | none=>(t.finish 5,ws,1)):=by
 unfold Tk.step;rw[hk]
 try rfl
theorem uA (hk:t.st=12):t.step ws good=
  (let r:=t.ret.step ws
  if r.1 then (if r.2.1.swapped then ({t with rt:=some r.2.1}.finish 5,r.2.2) else ({t with rt:=some r.2.1,st:=11},r.2.2)) else ({t with rt:=some r.2.1},r.2.2)):=by
 unfold Tk.step;rw[hk]
 try rfl
theorem uB (hk:t.st=13):t.step ws good=
  (({t with word:=rd ws (sc t.cf t.i),st:=14},ws,1)):=by
 unfold Tk.step;rw[hk]
 try rfl
theorem uC (hk:t.st=14):t.step ws good=
  (match (dec t.word).bind fun s=>bC s 16 t.w 0 with
  | none=>(t.finish 5,ws,0)
  | some s=>let r:=t.swap t.i t.word 16 ws
   if r.1 then (if s.state=3 then ({r.2.1 with st:=10},r.2.2) else ({r.2.1 with st:=9},r.2.2)) else ({r.2.1 with st:=13},r.2.2)):=by
 unfold Tk.step;rw[hk]
 try rfl
theorem uD (hk:t.st=15):t.step ws good=
  ((t,ws,0)):=by
 unfold Tk.step;rw[hk]
 try rfl
end
structure zG (c:aj.Cf):Prop where
 w:0<=c.workers/\c.workers<=8
 s:0<=c.slots/\c.slots<=100
def lF (c:aj.Cf) (f:Tk.Fd):Prop:=(f.kind=0\/f.kind=1\/f.kind=2)/\f.at'<=ns c/\(f.found=true->f.at' < ns c)
def y5 (n:Nat) (r:Rt):Prop:=r.cell < n/\r.st<=4
theorem lF.new {c:aj.Cf} {kind own:Int} (hk:kind=0\/kind=1\/kind=2):lF c (Fd.new kind own):=⟨hk,Nat.zero_le _,fun h=>nomatch h⟩
variable {f:Tk.Fd}
theorem lF.step {c:aj.Cf} (h:lF c f) (ws:List Int):lF c (f.step c ws).2.1:=by
 unfold Fd.step
 split
 ·exact h
 ·rename_i hn
  simp only[not_or]at hn
  split
  ·exact⟨h.1,h.2.1,fun _=>by simp only;omega⟩
  ·exact⟨h.1,by simp only;omega,fun hf=>absurd hf hn.1⟩
theorem lF.again {c:aj.Cf} (h:lF c f):lF c f.again:=⟨h.1,h.2.1,fun h=>nomatch h⟩
theorem lF.go {c:aj.Cf} (h:lF c f):lF c f.go:=by
 unfold Fd.go
 split
 ·rename_i hf
  have:=h.2.2 hf;exact⟨h.1,by simp only;omega,fun h=>nomatch h⟩
 ·exact h
theorem y5.step {n:Nat} {r:Rt} (h:y5 n r) (ws:List Int):y5 n (r.step ws).2.1/\(r.step ws).2.2.1.length=ws.length:=by
 unfold Rt.step
 split
 ·split
  ·split
   ·exact⟨⟨h.1,au⟩,au⟩
   ·exact⟨⟨h.1,by simp[Rt.end']⟩,rfl⟩
  ·exact⟨⟨h.1,by simp[Rt.end']⟩,rfl⟩
 ·exact⟨⟨h.1,au⟩,rfl⟩
 ·split
  ·refine⟨⟨h.1,au⟩,?_⟩;simp only[dF]
   split<;>simp
  ·exact⟨⟨h.1,au⟩,rfl⟩
 ·exact⟨⟨h.1,by simp[Rt.end']⟩,au⟩
 ·exact⟨⟨h.1,by simp[Rt.end']⟩,rfl⟩
structure dR (t:Tk) (ws:List Int):Prop where
 c:zG t.cf
 ns:1<=ns t.cf
 w:0<=t.w/\t.w<=15
 len:ws.length=3+2 * t.cf.workers.toNat+Tk.ns t.cf
 i:t.i < Tk.ns t.cf
 look:∀ f,t.look=some f->lF t.cf f
 has:1<=t.st->t.st<=8->∃ f,t.look=some f/\(t.st=2\/t.st=4\/t.st=6\/t.st=8->f.found=true)
 rt:∀ r,t.rt=some r->y5 ws.length r
 kz:t.st=12->∃ r,t.rt=some r
 st:t.st<=15
variable {t:Tk} {ws:List Int}
theorem dR.toK {t':Tk} {aC:List Int} (h:dR t ws) (hcf:t'.cf=t.cf) (hw:t'.w=t.w) (hlen:aC.length=ws.length) (hi:t'.i < Tk.ns t.cf) (rJ:∀ f,t'.look=some f->lF t.cf f)
  (hhas:1<=t'.st->t'.st<=8->∃ f,t'.look=some f/\(t'.st=2\/t'.st=4\/t'.st=6\/t'.st=8->f.found=true)) (hrt:∀ r,t'.rt=some r->y5 ws.length r) (kz:t'.st=12->∃ r,t'.rt=some r) (hst:t'.st<=15):dR t' aC:=
 ⟨by rw[hcf];exact h.c,by rw[hcf];exact h.ns,by rw[hw];exact h.w,by rw[hcf,hlen];exact h.len,by rw[hcf];exact hi,by rw[hcf];exact rJ,hhas,by rw[hlen];exact hrt,kz,hst⟩
theorem dR.looks {aC:List Int} (h:dR t ws) (hlen:aC.length=ws.length) (hf:lF t.cf f) (k:Nat) (p:Bool) (hk:k<=15) (h12:k≠12) (hfound:k=2\/k=4\/k=6\/k=8->f.found=true):dR {t with look:=some f,st:=k,passes:=p} aC:=
 h.toK rfl rfl hlen h.i (fun f' e=>by cases e;exact hf) (fun _ _=>⟨f,rfl,hfound⟩) h.rt (fun e=>absurd e h12) hk
theorem dR.states {aC:List Int} (h:dR t ws) (hlen:aC.length=ws.length) (k:Nat) (e:Int) (hk:k<=15) (h12:9<=k) (hr:k=12->∃ r,t.rt=some r):dR {t with st:=k,e:=e} aC:=
 h.toK rfl rfl hlen h.i h.look (fun _ h8=>absurd h8 (by simp only;omega)) h.rt hr hk
theorem iM (t:Tk) (i:Nat) (word:Int) (d:Nat) (ws:List Int):(t.swap i word d ws).2.2.1.length=ws.length:=by
 unfold Tk.swap
 split
 ·split<;>simp
 ·rfl
theorem iY (t:Tk) (i:Nat) (word:Int) (d:Nat) (ws:List Int):(∃ x g,(t.swap i word d ws).2.1={t with i:=i,word:=x,gen:=g}/\(t.swap i word d ws).1=true)\/((t.swap i word d ws).2.1=t/\(t.swap i word d ws).1=false):=by
 unfold Tk.swap
 split
 ·split
  ·exact .inl ⟨_,_,rfl,rfl⟩
  ·exact .inr ⟨rfl,rfl⟩
 ·exact .inr ⟨rfl,rfl⟩
theorem dR.swapped (h:dR t ws) {i:Nat} (hi:i < Tk.ns t.cf) (word:Int) (d:Nat):dR (t.swap i word d ws).2.1 (t.swap i word d ws).2.2.1:=by
 rcases iY t i word d ws with⟨x,g,e,-⟩ | ⟨e,-⟩
 ·rw[e];exact h.toK rfl rfl (iM _ _ _ _ _) hi h.look h.has h.rt h.kz h.st
 ·rw[e];exact h.toK rfl rfl (iM _ _ _ _ _) h.i h.look h.has h.rt h.kz h.st
theorem jP (hl:t.look=some f) (ws:List Int):t.dz ws=((f.step t.cf ws).2.1.found,(f.step t.cf ws).1 && !(f.step t.cf ws).2.1.found,{t with look:=some (f.step t.cf ws).2.1},(f.step t.cf ws).2.2):=by
 unfold Tk.dz Tk.fd;rw[hl];rfl
theorem EO (hl:t.look=some f) (d:Nat) (ws:List Int):(((t.di d ws).1=true/\∃ x g,(t.di d ws).2.1={t with i:=f.at',word:=x,gen:=g})\/((t.di d ws).1=false/\(t.di d ws).2.1={t with look:=some f.again}))/\(t.di d ws).2.2.1.length=ws.length:=by
 have iV:t.fd=f:=by unfold Tk.fd;rw[hl];rfl
 have hlen:=iM t f.at' f.word d ws
 rcases iY t f.at' f.word d ws with⟨x,g,e,e1⟩ | ⟨e,e1⟩
 ·have:t.di d ws=t.swap f.at' f.word d ws:=by unfold Tk.di;rw[iV];simp only[e1,if_true]
  rw[this];exact⟨.inl ⟨e1,x,g,e⟩,hlen⟩
 ·have:t.di d ws=(false,{(t.swap f.at' f.word d ws).2.1 with look:=some (t.swap f.at' f.word d ws).2.1.fd.again},(t.swap f.at' f.word d ws).2.2):=by unfold Tk.di;rw[iV];simp only[e1,Bool.false_eq_true,if_false]
  rw[this,e,iV];exact⟨.inr ⟨rfl,rfl⟩,hlen⟩
theorem dR.EP (h:dR t ws) (hl:t.look=some f) (hf:f.found=true) (k d:Nat) (hk:k=1\/k=3\/k=7):let r:={t with st:=k}.di d ws
  (r.1=true->∀ st,(∀ p,9<=st->st<=11->dR {r.2.1 with st:=st,passes:=p} r.2.2.1)/\∀ own p,dR {r.2.1 with st:=5,passes:=p,look:=some (Fd.new 0 own)} r.2.2.1)/\(r.1=false->dR r.2.1 r.2.2.1):=by
 have hF:=h.look f hl;obtain⟨h1,hlen⟩:=EO (t:={t with st:=k}) hl d ws;dsimp only
 rcases h1 with⟨h1,x,g,e⟩ | ⟨h1,e⟩
 ·rw[e,h1];refine⟨fun _ st=>⟨fun p h9 h11=>?_,fun own p=>?_⟩,fun e=>nomatch e⟩
  ·exact h.toK rfl rfl hlen (hF.2.2 hf) h.look (fun _ h8=>absurd h8 (by simp only;omega)) h.rt (fun e=>absurd e (by simp only;omega)) (by simp only;omega)
  ·exact h.toK rfl rfl hlen (hF.2.2 hf) (fun f' e=>by cases e;exact lF.new (.inl rfl)) (fun _ _=>⟨_,rfl,au⟩) h.rt au au
 ·rw[e,h1];refine⟨fun e=>(nomatch e),fun _=>?_⟩;exact h.toK rfl rfl hlen h.i (fun f' e=>by cases e;exact hF.again) (fun _ _=>⟨_,rfl,fun e=>absurd e (by simp only;omega)⟩) h.rt (fun e=>absurd e (by simp only;omega)) (by simp only;omega)
theorem dR.step (h:dR t ws) (good:Bool):dR (t.step ws good).1 (t.step ws good).2.1:=by
 have hst:=h.st
 have hlk:1<=t.st->t.st<=8->∃ f,t.look=some f/\lF t.cf f/\lF t.cf (f.step t.cf ws).2.1/\t.fd=f/\(t.st=2\/t.st=4\/t.st=6\/t.st=8->f.found=true):=by
  intro h1 h2;obtain⟨f,h3,h4⟩:=h.has h1 h2;exact⟨f,h3,h.look f h3,(h.look f h3).step ws,by unfold Tk.fd;rw[h3];rfl,h4⟩
 have hcases:t.st=0\/t.st=1\/t.st=2\/t.st=3\/t.st=4\/t.st=5\/t.st=6\/t.st=7\/t.st=8\/t.st=9\/t.st=10\/t.st=11\/t.st=12\/t.st=13\/t.st=14\/t.st=15:=ag
 rcases hcases with hk | hk | hk | hk | hk | hk | hk | hk | hk | hk | hk | hk | hk | hk | hk | hk
 ·rw[BM hk]
  try dsimp only
  split
  ·exact h.states rfl 15 5 ag ag ag
  ·exact h.looks rfl (lF.new (.inl rfl)) 1 t.passes ag ag ag
 ·rw[BN hk]
  try dsimp only
  obtain⟨f,hl,hF,hS,-,-⟩:=hlk ag ag;rw[jP hl];generalize f.step t.cf ws=q at *;dsimp only
  split
  ·rename_i hq
   exact h.looks rfl hS 2 t.passes ag ag (fun _=>hq)
  ·split
   ·exact h.looks rfl (lF.new (.inr (.inl rfl))) 3 t.passes ag ag ag
   ·exact h.looks rfl hS t.st t.passes ag ag ag
 ·rw[BO hk]
  try dsimp only
  obtain⟨f,hl,hF,hS,iV,hfo⟩:=hlk ag ag;have hz:=h.EP hl (hfo ag) 1 3 ag;dsimp only at hz
  split
  ·rename_i hr
   exact((hz.1 hr 10).1 _ ag ag)
  ·rename_i hr
   exact hz.2 (by simpa using hr)
 ·rw[BP hk]
  try dsimp only
  obtain⟨f,hl,hF,hS,-,-⟩:=hlk ag ag;rw[jP hl];generalize f.step t.cf ws=q at *;dsimp only
  split
  ·rename_i hq
   exact h.looks rfl hS 4 t.passes ag ag (fun _=>hq)
  ·split
   ·exact h.looks rfl (lF.new (.inr (.inr rfl))) 7 t.passes ag ag ag
   ·exact h.looks rfl hS t.st t.passes ag ag ag
 ·rw[BQ hk]
  try dsimp only
  obtain⟨f,hl,hF,hS,iV,hfo⟩:=hlk ag ag;have hz:=h.EP hl (hfo ag) 3 3 ag;dsimp only at hz
  split
  ·rename_i hr
   split
   ·split
    ·exact(hz.1 hr 10).2 _ _
    ·exact(hz.1 hr 10).1 _ ag ag
   ·exact(hz.1 hr 10).1 _ ag ag
  ·rename_i hr
   exact hz.2 (by simpa using hr)
 ·rw[BR hk]
  try dsimp only
  obtain⟨f,hl,hF,hS,-,-⟩:=hlk ag ag;rw[jP hl];have hgo:=hS.go;generalize f.step t.cf ws=q at *;dsimp only
  split
  ·exact h.looks rfl hgo t.st false ag ag ag
  ·split
   ·rename_i hq
    exact h.looks rfl hS 6 true ag ag (fun _=>hq)
   ·split
    ·exact h.toK rfl rfl rfl h.i (fun f' e=>by cases e;exact hS) (fun _ h8=>absurd h8 (by simp only;omega)) h.rt (fun e=>absurd e (by simp only;omega)) (by simp only;omega)
    ·exact h.looks rfl hS t.st t.passes ag ag ag
 ·rw[BS hk]
  try dsimp only
  obtain⟨f,hl,hF,hS,iV,hfo⟩:=hlk ag ag;rw[iV];have hcl:∀ i a b,(dF ws i a b).2.length=ws.length:=by intro i a b;unfold dF;split<;>simp
  split
  ·exact h.looks (hcl _ _ _) hF.go 5 t.passes ag ag ag
  ·exact h.looks rfl hF.go 5 t.passes ag ag ag
 ·rw[BU hk]
  try dsimp only
  obtain⟨f,hl,hF,hS,-,-⟩:=hlk ag ag;rw[jP hl];generalize f.step t.cf ws=q at *;dsimp only
  split
  ·rename_i hq
   exact h.looks rfl hS 8 t.passes ag ag (fun _=>hq)
  ·split
   ·exact h.toK rfl rfl rfl h.i (fun f' e=>by cases e;exact hS) (fun _ h8=>absurd h8 (by simp[Tk.finish])) h.rt (fun e=>absurd e (by simp[Tk.finish])) (by simp[Tk.finish])
   ·exact h.looks rfl hS t.st t.passes ag ag ag
 ·rw[BV hk]
  try dsimp only
  obtain⟨f,hl,hF,hS,iV,hfo⟩:=hlk ag ag;have hz:=h.EP hl (hfo ag) 7 0 ag;dsimp only at hz
  split
  ·rename_i hr
   exact((hz.1 hr 9).1 _ ag ag)
  ·rename_i hr
   exact hz.2 (by simpa using hr)
 ·rw[BX hk]
  try dsimp only
  generalize (if good=true then 1 else 2)=d;have hz:=h.swapped h.i t.word d
  split
  ·exact hz.states rfl 10 _ ag ag ag
  ·exact hz.states rfl 15 6 ag ag ag
 ·rw[uy hk]
  try dsimp only
  split
  ·exact h.states rfl 15 0 ag ag ag
  ·exact h.states rfl 11 t.e ag ag ag
 ·rw[uz hk]
  try dsimp only
  split
  ·split
   ·refine h.toK rfl rfl rfl h.i h.look (fun _ h8=>absurd h8 au) (fun r e=>?_) (fun _=>⟨_,rfl⟩) au;cases e;refine⟨?_,by simp[Rt.new]⟩;have h1:=h.len;have h2:=h.i;simp only[Rt.new,sc];omega
   ·exact h.states rfl 15 5 ag ag ag
  ·exact h.states rfl 15 5 ag ag ag
 ·rw[uA hk]
  try dsimp only
  obtain⟨r,hr⟩:=h.kz hk;have hret:t.ret=r:=by unfold Tk.ret;rw[hr];rfl
  rw[hret];obtain⟨h1,h2⟩:=(h.rt r hr).step ws;generalize r.step ws=q at *
  split
  ·split
   ·exact h.toK rfl rfl h2 h.i h.look (fun _ h8=>absurd h8 (by simp[Tk.finish])) (fun r' e=>by cases e;exact h1) (fun e=>absurd e (by simp[Tk.finish])) (by simp[Tk.finish])
   ·exact h.toK rfl rfl h2 h.i h.look (fun _ h8=>absurd h8 au) (fun r' e=>by cases e;exact h1) (fun e=>absurd e au) au
  ·exact h.toK rfl rfl h2 h.i h.look (fun _ h8=>absurd h8 (by simp only;omega)) (fun r' e=>by cases e;exact h1) (fun _=>⟨_,rfl⟩) (by simp only;omega)
 ·rw[uB hk]
  try dsimp only
  exact h.toK rfl rfl rfl h.i h.look (fun _ h8=>absurd h8 au) h.rt (fun e=>absurd e au) au
 ·rw[uC hk]
  try dsimp only
  have hz:=h.swapped h.i t.word 16
  split
  ·exact h.states rfl 15 5 ag ag ag
  ·split
   ·split
    ·exact hz.states rfl 10 _ ag ag ag
    ·exact hz.states rfl 9 _ ag ag ag
   ·exact hz.states rfl 13 _ ag ag ag
 ·rw[uD hk]
  try dsimp only
  exact h
theorem PI (t:Tk) (i:Nat) (word:Int) (d:Nat) (ws:List Int):(t.swap i word d ws).2.1.cf=t.cf/\(t.swap i word d ws).2.1.w=t.w:=by
 rcases iY t i word d ws with⟨x,g,e,-⟩ | ⟨e,-⟩<;>rw[e]<;>exact⟨rfl,rfl⟩
theorem Ml (t:Tk) (d:Nat) (ws:List Int):(t.di d ws).2.1.cf=t.cf/\(t.di d ws).2.1.w=t.w:=by
 unfold Tk.di;dsimp only
 split<;>exact PI t _ _ _ _
end Tk
namespace Ty
open Go.RowKit Hp Slot ah ai Tk
def pc (i:Nat):Nat:=3+i
def gc (c:aj.Cf) (i:Nat):Nat:=3+c.workers.toNat+i
structure Ty where
 cf:aj.Cf
 w:Nat
 st:Nat
 aJ:Int
 closed:Int
 queue:Int
 look:Option Tk.Fd
 i:Nat
 word:Int
 other:Int
 head:Int
 rt:Option Rt
 deriving DecidableEq
def Ty.new (c:aj.Cf) (w:Nat):Ty:=⟨c,w,0,0,0,0,none,0,0,0,0,none⟩
def Ty.search (t:Ty) (st:Nat) (kind own:Int):Ty:={t with look:=some (Tk.Fd.new kind own),st:=st}
def Ty.fd (t:Ty):Tk.Fd:=t.look.getD (Tk.Fd.new 0 0)
def Ty.ret (t:Ty):Rt:=t.rt.getD (Rt.new 0 0)
def Ty.dz (t:Ty) (ws:List Int):Bool×Bool×Ty×Nat:=
 let r:=t.fd.step t.cf ws
 (r.2.1.found,r.1 && !r.2.1.found,if r.2.1.found then {t with look:=some r.2.1,i:=r.2.1.at',word:=r.2.1.word} else {t with look:=some r.2.1},r.2.2)
def Ty.swap (t:Ty) (d:Nat) (own:Int) (ws:List Int):Bool×List Int×Nat:=
 match bn t.word d own 0 with
 | some nw=>((dF ws (sc t.cf t.i) t.word nw).1,(dF ws (sc t.cf t.i) t.word nw).2,1)
 | none=>(false,ws,0)
def Ty.is (t:Ty):Int:=match dec t.word with | some s=>s.state | none=>-1
def Xl (w:Nat) (o:Int):Int:=if o+1=w then o+2 else o+1
def Ty.another (t:Ty):Bool×Ty:=(decide (Xl t.w t.other < t.cf.workers),{t with other:=Xl t.w t.other})
def blocks (word aJ:Int):Bool:=decide (1<=word/\word - 1<=aJ)
def Ty.ep (t:Ty):Int:=match dec t.word with | some s=>s.aJ | none=>0
def Ty.again (t:Ty):Ty:={t with look:=some t.fd.again}
def Ty.go (t:Ty):Ty:={t with look:=some t.fd.go}
def Ty.step (t:Ty) (ws:List Int):Ty×List Int×Nat:=
 match t.st with
 | 0=>({t with aJ:=rd ws 2,st:=1},ws,1)
 | 1=>({t with st:=2},ws.set (pc t.w) (wrap64 (t.aJ+1)),1)
 | 2=>({t with closed:=rd ws 0}.search 3 4 (rd ws 0),ws,1)
 | 3=>let r:=t.dz ws
  if r.1 then ({r.2.2.1 with rt:=some (Rt.new (sc t.cf r.2.2.1.i) r.2.2.1.word),st:=4},ws,r.2.2.2)
  else if r.2.1 then (r.2.2.1.search 5 5 t.w,ws,r.2.2.2) else (r.2.2.1,ws,r.2.2.2)
 | 4=>let r:=t.ret.step ws
  if r.1 then ({t.again with rt:=some r.2.1,st:=3},r.2.2) else ({t with rt:=some r.2.1},r.2.2)
 | 5=>let r:=t.dz ws
  if r.1 then (let a:=Ty.another {r.2.2.1 with other:=-1,st:=6};if a.1 then (a.2,ws,r.2.2.2) else ({a.2 with st:=7},ws,r.2.2.2))
  else if r.2.1 then (if t.closed≠0 then ({r.2.2.1 with st:=15},ws,r.2.2.2) else ({r.2.2.1 with st:=8},ws,r.2.2.2)) else (r.2.2.1,ws,r.2.2.2)
 | 6=>if blocks (rd ws (pc t.other.toNat)) t.ep then ({t.go with st:=5},ws,1)
  else (let a:=t.another;if a.1 then (a.2,ws,1) else ({a.2 with st:=7},ws,1))
 | 7=>let r:=t.swap 12 t.w ws
  ({t.go with st:=5},r.2)
 | 8=>if 0 < rd ws 1 then ({t with queue:=rd ws 1,head:=rd ws 1 % 16 - 1}.search 9 3 t.w,ws,1) else ({t with queue:=rd ws 1,st:=15},ws,1)
 | 9=>let r:=t.dz ws
  if r.1 then ({r.2.2.1 with st:=10},ws,r.2.2.2) else if r.2.1 then ({r.2.2.1 with st:=15},ws,r.2.2.2) else (r.2.2.1,ws,r.2.2.2)
 | 10=>let r:=t.swap (if t.is=2 then 5 else 7) t.head ws
  if r.1 then ({t with st:=11},r.2) else ({t.again with st:=9},r.2)
 | 11=>let r:=dF ws 1 t.queue (t.queue / 16)
  if r.1 then ({t with st:=12},r.2,1) else ({t with st:=13},r.2,1)
 | 12=>({t with st:=8},ws.set (gc t.cf t.head.toNat) (t.i+1),1)
 | 13=>let t':Ty:={t with word:=rd ws (sc t.cf t.i)}
  if t'.is=4\/t'.is=5 then ({t' with st:=14},ws,1) else ({t' with st:=8},ws,1)
 | 14=>let r:=t.swap (if t.is=4 then 6 else 8) t.w ws
  if r.1 then ({t with st:=2},r.2) else ({t with st:=13},r.2)
 | 15=>({t with st:=16},ws.set (pc t.w) 0,1)
 | 16=>if rd ws 2=t.aJ then ({t with st:=17},ws,1) else ({t with st:=0},ws,1)
 | _=>(t,ws,0)
section
variable {t:Ty} {ws:List Int}
theorem BM (hk:t.st=0):t.step ws=
  (({t with aJ:=rd ws 2,st:=1},ws,1)):=by
 unfold Ty.step;rw[hk]
 try rfl
theorem BN (hk:t.st=1):t.step ws=
  (({t with st:=2},ws.set (pc t.w) (wrap64 (t.aJ+1)),1)):=by
 unfold Ty.step;rw[hk]
 try rfl
theorem BO (hk:t.st=2):t.step ws=
  (({t with closed:=rd ws 0}.search 3 4 (rd ws 0),ws,1)):=by
 unfold Ty.step;rw[hk]
 try rfl
theorem BP (hk:t.st=3):t.step ws=
  (let r:=t.dz ws
  if r.1 then ({r.2.2.1 with rt:=some (Rt.new (sc t.cf r.2.2.1.i) r.2.2.1.word),st:=4},ws,r.2.2.2)
  else if r.2.1 then (r.2.2.1.search 5 5 t.w,ws,r.2.2.2) else (r.2.2.1,ws,r.2.2.2)):=by
 unfold Ty.step;rw[hk]
 try rfl
theorem BQ (hk:t.st=4):t.step ws=
  (let r:=t.ret.step ws
  if r.1 then ({t.again with rt:=some r.2.1,st:=3},r.2.2) else ({t with rt:=some r.2.1},r.2.2)):=by
 unfold Ty.step;rw[hk]
 try rfl
theorem BR (hk:t.st=5):t.step ws=
  (let r:=t.dz ws
  if r.1 then (let a:=Ty.another {r.2.2.1 with other:=-1,st:=6};if a.1 then (a.2,ws,r.2.2.2) else ({a.2 with st:=7},ws,r.2.2.2))
  else if r.2.1 then (if t.closed≠0 then ({r.2.2.1 with st:=15},ws,r.2.2.2) else ({r.2.2.1 with st:=8},ws,r.2.2.2)) else (r.2.2.1,ws,r.2.2.2)):=by
 unfold Ty.step;rw[hk]
 try rfl
theorem BS (hk:t.st=6):t.step ws=
  (if blocks (rd ws (pc t.other.toNat)) t.ep then ({t.go with st:=5},ws,1)
  else (let a:=t.another;if a.1 then (a.2,ws,1) else ({a.2 with st:=7},ws,1))):=by
 unfold Ty.step;rw[hk]
 try rfl
theorem BU (hk:t.st=7):t.step ws=
  (let r:=t.swap 12 t.w ws
  ({t.go with st:=5},r.2)):=by
 unfold Ty.step;rw[hk]
 try rfl
theorem BV (hk:t.st=8):t.step ws=
  (if 0 < rd ws 1 then ({t with queue:=rd ws 1,head:=rd ws 1 % 16 - 1}.search 9 3 t.w,ws,1) else ({t with queue:=rd ws 1,st:=15},ws,1)):=by
 unfold Ty.step;rw[hk]
 try rfl
theorem BX (hk:t.st=9):t.step ws=
  (let r:=t.dz ws
  if r.1 then ({r.2.2.1 with st:=10},ws,r.2.2.2) else if r.2.1 then ({r.2.2.1 with st:=15},ws,r.2.2.2) else (r.2.2.1,ws,r.2.2.2)):=by
 unfold Ty.step;rw[hk]
 try rfl
theorem uy (hk:t.st=10):t.step ws=
  (let r:=t.swap (if t.is=2 then 5 else 7) t.head ws
  if r.1 then ({t with st:=11},r.2) else ({t.again with st:=9},r.2)):=by
 unfold Ty.step;rw[hk]
 try rfl
theorem uz (hk:t.st=11):t.step ws=
  (let r:=dF ws 1 t.queue (t.queue / 16)
  if r.1 then ({t with st:=12},r.2,1) else ({t with st:=13},r.2,1)):=by
 unfold Ty.step;rw[hk]
 try rfl
theorem uA (hk:t.st=12):t.step ws=
  (({t with st:=8},ws.set (gc t.cf t.head.toNat) (t.i+1),1)):=by
 unfold Ty.step;rw[hk]
 try rfl
theorem uB (hk:t.st=13):t.step ws=
  (let t':Ty:={t with word:=rd ws (sc t.cf t.i)}
  if t'.is=4\/t'.is=5 then ({t' with st:=14},ws,1) else ({t' with st:=8},ws,1)):=by
 unfold Ty.step;rw[hk]
 try rfl
theorem uC (hk:t.st=14):t.step ws=
  (let r:=t.swap (if t.is=4 then 6 else 8) t.w ws
  if r.1 then ({t with st:=2},r.2) else ({t with st:=13},r.2)):=by
 unfold Ty.step;rw[hk]
 try rfl
theorem uD (hk:t.st=15):t.step ws=
  (({t with st:=16},ws.set (pc t.w) 0,1)):=by
 unfold Ty.step;rw[hk]
 try rfl
theorem FC (hk:t.st=16):t.step ws=
  (if rd ws 2=t.aJ then ({t with st:=17},ws,1) else ({t with st:=0},ws,1)):=by
 unfold Ty.step;rw[hk]
 try rfl
theorem FD (hk:t.st=17):t.step ws=(t,ws,0):=by
 unfold Ty.step;rw[hk]
 try rfl
end
def QOk (c:aj.Cf) (ws:List Int):Prop:=0 < rd ws 1->1<=rd ws 1 % 16/\rd ws 1 % 16<=c.workers
def fQ (c:aj.Cf) (f:Tk.Fd):Prop:=(0<=f.kind/\f.kind<=6)/\f.at'<=ns c/\(f.found=true->f.at' < ns c)
theorem fQ.new {c:aj.Cf} {kind own:Int} (hk:0<=kind/\kind<=6):fQ c (Tk.Fd.new kind own):=⟨hk,Nat.zero_le _,fun h=>nomatch h⟩
theorem fQ.step {c:aj.Cf} {f:Tk.Fd} (h:fQ c f) (ws:List Int):fQ c (f.step c ws).2.1:=by
 unfold Tk.Fd.step
 split
 ·exact h
 ·rename_i hn
  simp only[not_or]at hn
  split
  ·exact⟨h.1,h.2.1,fun _=>by simp only;omega⟩
  ·exact⟨h.1,by simp only;omega,fun hf=>absurd hf hn.1⟩
theorem fQ.again {c:aj.Cf} {f:Tk.Fd} (h:fQ c f):fQ c f.again:=⟨h.1,h.2.1,fun h=>nomatch h⟩
theorem fQ.go {c:aj.Cf} {f:Tk.Fd} (h:fQ c f):fQ c f.go:=by
 unfold Tk.Fd.go
 split
 ·rename_i hf
  have:=h.2.2 hf;exact⟨h.1,by simp only;omega,fun h=>nomatch h⟩
 ·exact h
structure eH (t:Ty) (n:Nat):Prop where
 c:zG t.cf
 ns:1<=Tk.ns t.cf
 w:(t.w:Int) < t.cf.workers
 len:n=3+2 * t.cf.workers.toNat+Tk.ns t.cf
 i:t.i < Tk.ns t.cf
 look:∀ f,t.look=some f->fQ t.cf f
 has:3<=t.st->t.st<=14->∃ f,t.look=some f
 rt:∀ r,t.rt=some r->y5 n r
 kz:t.st=4->∃ r,t.rt=some r
 other:t.st=6->0<=t.other/\t.other < t.cf.workers
 head:9<=t.st->t.st<=14->0<=t.head/\t.head < t.cf.workers
 st:t.st<=17
theorem eH.new {c:aj.Cf} {w n:Nat} (h1:zG c) (h2:1<=Tk.ns c) (h3:(w:Int) < c.workers) (h4:n=3+2 * c.workers.toNat+Tk.ns c):eH (Ty.new c w) n:=
 ⟨h1,h2,h3,h4,by simp only[Ty.new];omega,fun f h=>(by cases h),fun h=>(by simp[Ty.new]at h),fun f h=>(by cases h),fun h=>(by simp[Ty.new]at h),fun h=>(by simp[Ty.new]at h),fun h=>(by simp[Ty.new]at h),by simp[Ty.new]⟩
variable {t:Ty}
theorem eH.toK {t':Ty} {n:Nat} (h:eH t n) (hcf:t'.cf=t.cf) (hw:t'.w=t.w) (hi:t'.i < Tk.ns t.cf) (rJ:∀ f,t'.look=some f->fQ t.cf f)
  (hhas:3<=t'.st->t'.st<=14->∃ f,t'.look=some f) (hrt:∀ r,t'.rt=some r->y5 n r) (kz:t'.st=4->∃ r,t'.rt=some r) (hother:t'.st=6->0<=t'.other/\t'.other < t.cf.workers)
  (hhead:9<=t'.st->t'.st<=14->0<=t'.head/\t'.head < t.cf.workers) (hst:t'.st<=17):eH t' n:=
 ⟨by rw[hcf];exact h.c,by rw[hcf];exact h.ns,by rw[hcf,hw];exact h.w,by rw[hcf];exact h.len,by rw[hcf];exact hi,by rw[hcf];exact rJ,hhas,hrt,kz,by rw[hcf];exact hother,by rw[hcf];exact hhead,hst⟩
theorem eH.looks {n:Nat} (h:eH t n) {f:Tk.Fd} (hf:fQ t.cf f) (k i:Nat) (wd:Int) (hi:i < Tk.ns t.cf) (hk:k<=17) (h4:k≠4) (h6:k≠6) (hh:9<=k->k<=14->0<=t.head/\t.head < t.cf.workers):eH {t with look:=some f,st:=k,i:=i,word:=wd} n:=
 h.toK rfl rfl hi (fun f' e=>by cases e;exact hf) (fun _ _=>⟨f,rfl⟩) h.rt (fun e=>absurd e h4) (fun e=>absurd e h6) hh hk
theorem eH.states {n:Nat} (h:eH t n) (k:Nat) (hk:k<=17) (h4:k≠4) (h6:k≠6) (hl:3<=k->k<=14->∃ f,t.look=some f) (hh:9<=k->k<=14->0<=t.head/\t.head < t.cf.workers):eH {t with st:=k} n:=
 h.toK rfl rfl h.i h.look hl h.rt (fun e=>absurd e h4) (fun e=>absurd e h6) hh hk
theorem eH.other' {n:Nat} (h:eH t n) (o:Int) (k:Nat) (hk:k<=17) (h4:k≠4) (h6:k=6->0<=o/\o < t.cf.workers) (hl:3<=k->k<=14->∃ f,t.look=some f) (hh:9<=k->k<=14->0<=t.head/\t.head < t.cf.workers):eH {t with st:=k,other:=o} n:=
 h.toK rfl rfl h.i h.look hl h.rt (fun e=>absurd e h4) h6 hh hk
theorem jP {f:Tk.Fd} (hl:t.look=some f) (ws:List Int):t.dz ws=((f.step t.cf ws).2.1.found,(f.step t.cf ws).1 && !(f.step t.cf ws).2.1.found,(if (f.step t.cf ws).2.1.found then {t with look:=some (f.step t.cf ws).2.1,i:=(f.step t.cf ws).2.1.at',word:=(f.step t.cf ws).2.1.word} else {t with look:=some (f.step t.cf ws).2.1}),(f.step t.cf ws).2.2):=by
 unfold Ty.dz Ty.fd;rw[hl];rfl
theorem eH.dz {n:Nat} (h:eH t n) {f:Tk.Fd} (hl:t.look=some f) (ws:List Int):∃ f' i wd,fQ t.cf f'/\i < Tk.ns t.cf/\(t.dz ws).2.2.1={t with look:=some f',i:=i,word:=wd}:=by
 rw[jP hl];have hS:=(h.look f hl).step ws;generalize f.step t.cf ws=q at *;dsimp only
 split
 ·rename_i hf
  exact⟨_,_,_,hS,hS.2.2 hf,rfl⟩
 ·exact⟨_,t.i,t.word,hS,h.i,rfl⟩
theorem Gb {w:Nat} {o:Int} (h:-1<=o):0<=Xl w o:=by unfold Xl;split<;>omega
theorem zW (ws:List Int) (i:Nat) (a b:Int):(dF ws i a b).2.length=ws.length:=by unfold dF;split<;>simp
theorem iM (t:Ty) (d:Nat) (own:Int) (ws:List Int):(t.swap d own ws).2.1.length=ws.length:=by
 unfold Ty.swap
 split
 ·exact zW _ _ _ _
 ·rfl
theorem eH.step {ws:List Int} (h:eH t ws.length) (hq:QOk t.cf ws):eH (t.step ws).1 ws.length/\(t.step ws).2.1.length=ws.length:=by
 have hst:=h.st;have hcases:t.st=0\/t.st=1\/t.st=2\/t.st=3\/t.st=4\/t.st=5\/t.st=6\/t.st=7\/t.st=8\/t.st=9\/t.st=10\/t.st=11\/t.st=12\/t.st=13\/t.st=14\/t.st=15\/t.st=16\/t.st=17:=ag
 have iV:∀ f,t.look=some f->t.fd=f:=fun f e=>by unfold Ty.fd;rw[e];rfl
 have hag:3<=t.st->t.st<=14->∃ f,t.look=some f/\t.again={t with look:=some f.again}/\t.go={t with look:=some f.go}/\fQ t.cf f.again/\fQ t.cf f.go:=by
  intro h1 h2;obtain⟨f,hf⟩:=h.has h1 h2;exact⟨f,hf,by unfold Ty.again;rw[iV f hf],by unfold Ty.go;rw[iV f hf],(h.look f hf).again,(h.look f hf).go⟩
 rcases hcases with hk | hk | hk | hk | hk | hk | hk | hk | hk | hk | hk | hk | hk | hk | hk | hk | hk | hk
 ·rw[BM hk];exact⟨h.toK rfl rfl h.i h.look au h.rt au au au au,rfl⟩
 ·rw[BN hk];exact⟨h.toK rfl rfl h.i h.look au h.rt au au au au,au⟩
 ·rw[BO hk];exact⟨h.toK rfl rfl h.i (fun f e=>by cases e;exact fQ.new ag) (fun _ _=>⟨_,rfl⟩) h.rt (by simp[Ty.search]) (by simp[Ty.search]) (by simp[Ty.search]) (by simp[Ty.search]),rfl⟩
 ·rw[BP hk];obtain⟨f,hf⟩:=h.has ag ag;obtain⟨f',i,wd,h1,h2,h3⟩:=h.dz hf ws;dsimp only;rw[h3]
  split
  ·refine⟨h.toK rfl rfl h2 (fun f e=>by cases e;exact h1) (fun _ _=>⟨_,rfl⟩) (fun r e=>?_) (fun _=>⟨_,rfl⟩) au au au,rfl⟩;cases e;exact⟨by have:=h.len;simp only[Rt.new,sc];omega,by simp[Rt.new]⟩
  ·split
   ·exact⟨h.toK rfl rfl h2 (fun f e=>by cases e;exact fQ.new ag) (fun _ _=>⟨_,rfl⟩) h.rt (by simp[Ty.search]) (by simp[Ty.search]) (by simp[Ty.search]) (by simp[Ty.search]),rfl⟩
   ·exact⟨h.looks h1 t.st i wd h2 ag ag ag ag,rfl⟩
 ·rw[BQ hk];obtain⟨r,hr⟩:=h.kz hk;have hret:t.ret=r:=by unfold Ty.ret;rw[hr];rfl
  rw[hret];obtain⟨q1,q2⟩:=(h.rt r hr).step ws;obtain⟨f,hf,hA,hG,oA,oG⟩:=hag ag ag;generalize r.step ws=q at *;dsimp only
  split
  ·rw[hA];exact⟨h.toK rfl rfl h.i (fun f e=>by cases e;exact oA) (fun _ _=>⟨_,rfl⟩) (fun r' e=>by cases e;exact q1) au au au au,q2⟩
  ·exact⟨h.toK rfl rfl h.i h.look (fun h1 h2=>h.has h1 h2) (fun r' e=>by cases e;exact q1) (fun _=>⟨_,rfl⟩) (fun e=>absurd e (by simp only;omega)) (fun e=>absurd e (by simp only;omega)) (by simp only;omega),q2⟩
 ·rw[BR hk];obtain⟨f,hf⟩:=h.has ag ag;obtain⟨f',i,wd,h1,h2,h3⟩:=h.dz hf ws;dsimp only;rw[h3]
  split
  ·split
   ·rename_i hb
    simp only[Ty.another,decide_eq_true_eq]at hb;exact⟨h.toK rfl rfl h2 (fun f e=>by cases e;exact h1) (fun _ _=>⟨_,rfl⟩) h.rt (by simp[Ty.another]) (fun _=>⟨Gb (Int.le_refl _),hb⟩) (by simp[Ty.another]) (by simp[Ty.another]),rfl⟩
   ·exact⟨h.toK rfl rfl h2 (fun f e=>by cases e;exact h1) (fun _ _=>⟨_,rfl⟩) h.rt au au au au,rfl⟩
  ·split
   ·split
    ·exact⟨h.looks h1 15 i wd h2 ag ag ag ag,rfl⟩
    ·exact⟨h.looks h1 8 i wd h2 ag ag ag ag,rfl⟩
   ·exact⟨h.looks h1 t.st i wd h2 ag ag ag ag,rfl⟩
 ·rw[BS hk];obtain⟨f,hf,hA,hG,oA,oG⟩:=hag ag ag;have ho:=h.other hk;dsimp only
  split
  ·rw[hG];exact⟨h.looks oG 5 t.i t.word h.i ag ag ag ag,rfl⟩
  ·split
   ·rename_i hb
    simp only[Ty.another,decide_eq_true_eq]at hb;exact⟨h.other' _ t.st ag ag (fun _=>⟨Gb ag,hb⟩) (fun _ _=>⟨f,hf⟩) ag,rfl⟩
   ·exact⟨h.other' _ 7 ag ag ag (fun _ _=>⟨f,hf⟩) ag,rfl⟩
 ·rw[BU hk];obtain⟨f,hf,hA,hG,oA,oG⟩:=hag ag ag;dsimp only;rw[hG];exact⟨h.looks oG 5 t.i t.word h.i ag ag ag ag,iM _ _ _ _⟩
 ·rw[BV hk]
  split
  ·rename_i hb
   have:=hq hb;exact⟨h.toK rfl rfl h.i (fun f e=>by cases e;exact fQ.new ag) (fun _ _=>⟨_,rfl⟩) h.rt (by simp[Ty.search]) (by simp[Ty.search]) (fun _ _=>by simp only[Ty.search];omega) (by simp[Ty.search]),rfl⟩
  ·exact⟨h.toK rfl rfl h.i h.look au h.rt au au au au,rfl⟩
 ·rw[BX hk];obtain⟨f,hf⟩:=h.has ag ag;obtain⟨f',i,wd,h1,h2,h3⟩:=h.dz hf ws;have hh:=h.head ag ag;dsimp only;rw[h3]
  split
  ·exact⟨h.looks h1 10 i wd h2 ag ag ag (fun _ _=>hh),rfl⟩
  ·split
   ·exact⟨h.looks h1 15 i wd h2 ag ag ag ag,rfl⟩
   ·exact⟨h.looks h1 t.st i wd h2 ag ag ag (fun _ _=>hh),rfl⟩
 ·rw[uy hk];generalize (if t.is=2 then (5:Nat) else 7)=d;obtain⟨f,hf,hA,hG,oA,oG⟩:=hag ag ag;have hh:=h.head ag ag;dsimp only
  split
  ·exact⟨h.states 11 ag ag ag (fun _ _=>⟨f,hf⟩) (fun _ _=>hh),iM _ _ _ _⟩
  ·rw[hA];exact⟨h.looks oA 9 t.i t.word h.i ag ag ag (fun _ _=>hh),iM _ _ _ _⟩
 ·rw[uz hk];obtain⟨f,hf⟩:=h.has ag ag;have hh:=h.head ag ag;dsimp only
  split
  ·exact⟨h.states 12 ag ag ag (fun _ _=>⟨f,hf⟩) (fun _ _=>hh),zW _ _ _ _⟩
  ·exact⟨h.states 13 ag ag ag (fun _ _=>⟨f,hf⟩) (fun _ _=>hh),zW _ _ _ _⟩
 ·rw[uA hk];obtain⟨f,hf⟩:=h.has ag ag;exact⟨h.states 8 ag ag ag (fun _ _=>⟨f,hf⟩) ag,au⟩
 ·rw[uB hk];obtain⟨f,hf⟩:=h.has ag ag;have hh:=h.head ag ag;dsimp only
  split
  ·exact⟨h.toK rfl rfl h.i h.look (fun _ _=>⟨f,hf⟩) h.rt au au (fun _ _=>hh) au,rfl⟩
  ·exact⟨h.toK rfl rfl h.i h.look (fun _ _=>⟨f,hf⟩) h.rt au au au au,rfl⟩
 ·rw[uC hk];generalize (if t.is=4 then (6:Nat) else 8)=d;obtain⟨f,hf⟩:=h.has ag ag;have hh:=h.head ag ag;dsimp only
  split
  ·exact⟨h.states 2 ag ag ag ag ag,iM _ _ _ _⟩
  ·exact⟨h.states 13 ag ag ag (fun _ _=>⟨f,hf⟩) (fun _ _=>hh),iM _ _ _ _⟩
 ·rw[uD hk];exact⟨h.states 16 ag ag ag ag ag,au⟩
 ·rw[FC hk]
  split
  ·exact⟨h.states 17 ag ag ag ag ag,rfl⟩
  ·exact⟨h.states 0 ag ag ag ag ag,rfl⟩
 ·rw[FD hk];exact⟨h,rfl⟩
theorem PN (t:Ty) (ws:List Int):(t.dz ws).2.2.1.cf=t.cf/\(t.dz ws).2.2.1.w=t.w:=by
 unfold Ty.dz;dsimp only
 split<;>exact⟨rfl,rfl⟩
theorem OC (t:Ty) (ws:List Int):(t.step ws).1.cf=t.cf/\(t.step ws).1.w=t.w:=by
 have h:=PN t ws;unfold Ty.step
 split<;>(try dsimp only[Ty.search,Ty.again,Ty.go,Ty.another])<;>(repeat' split)<;>first | exact⟨rfl,rfl⟩ | exact h
end Ty
namespace Cl
open Go.RowKit Hp Slot ah ai
def kK (d:Nat):Prop:=d=5\/d=6\/d=7\/d=8\/d=12
theorem kK.x {d:Nat} (h:kK d):Tk.xm d:=by
 rcases h with rfl | rfl | rfl | rfl | rfl
 ·exact .inl (by simp[Mod.Done])
 ·exact .inr (.inl rfl)
 ·exact .inl (by simp[Mod.Done])
 ·exact .inr (.inr (.inl rfl))
 ·exact .inr (.inr (.inr (.inr (.inl rfl))))
theorem LV (d:Nat) (hd:kK d) (s:S) (own more:Int):∃ F,(∀ args w,(callFunc F args).run prog w=.ok (.enter F args) w)/\acts[d]? =some (.func (.func F) #[] #[])/\
  (s.right=true->∀ W,Calls prog F #[cO s own more] W fun e W'=>e=.returned (.tuple #[(Tk.gG d s own more).1.val,.bool (Tk.gG d s own more).2])/\Below W.heap.size W W'):=by
 rcases hd with rfl | rfl | rfl | rfl | rfl
 ·exact⟨_,aH func137,rfl,fun h W=>Kn W s own more⟩
 ·exact⟨_,aH func138,rfl,fun h W=>Dz W s own more⟩
 ·exact⟨_,aH func139,rfl,fun h W=>Ko W s own more⟩
 ·exact⟨_,aH func140,rfl,fun h W=>DC W s own more⟩
 ·exact⟨_,aH func144,rfl,fun h W=>GJ W s own more⟩
theorem tX (W:World) (s:S) (d:Nat) (own more:Int) (hd:kK d) (hr:s.right=true) (hL:Laid W):Calls prog 72 #[s.val,.i d,.i own,.i more] W fun e W'=>
  e=.returned (.tuple #[((Tk.bC s d own more).getD S.zero).val,.bool (Tk.bC s d own more).isSome])/\Below W.heap.size W W':=by
 obtain⟨F,h1,h2,h3⟩:=LV d hd s own more;exact xk W s own more F d _ _ (by unfold kK at hd;omega) h1 h2 hL (Mod.vK hr) h3
end Cl
namespace Cl
open Go.RowKit Hp ah aj
theorem vw (w:World) (c:Cf) (i:Nat) (hw:0<=c.workers/\c.workers<=8) (hi:(i:Int) < c.workers):Calls prog 80 #[c.val,.i i] w fun e w'=>e=.returned (.i (3+i))/\Below w.heap.size w w':=by
 obtain⟨cw,cs,cst,jm,cu⟩:=c;dsimp only at hw hi
 go_enter func80,ntmps80
 simp only[Cf.val,Cf.cells];have n0:¬ ((i:Int) < 0):=ag
 have n1:¬ (cw<=(i:Int)):=ag
 have n2:decide (cw<=(i:Int))=false:=by simpa using n1
 have e2:wrap64 (3+(i:Int))=3+i:=by unfold wrap64;omega
 go_wp2_with fail;go_ret;exact⟨by first | rfl | (simp<;>omega),bZ.alloc aQ _⟩
theorem oC (w:World) (c:Cf) (i:Nat) (hw:0<=c.workers/\c.workers<=8) (hi:(i:Int) < c.workers):Calls prog 78 #[c.val,.i i] w fun e w'=>e=.returned (.i (3+c.workers+i))/\Below w.heap.size w w':=by
 obtain⟨cw,cs,cst,jm,cu⟩:=c;dsimp only at hw hi
 go_enter func78,ntmps78
 simp only[Cf.val,Cf.cells];have n0:¬ ((i:Int) < 0):=ag
 have n1:¬ (cw<=(i:Int)):=ag
 have n2:decide (cw<=(i:Int))=false:=by simpa using n1
 have e2:wrap64 (3+cw+(i:Int))=3+cw+i:=by unfold wrap64;omega
 go_wp2_with fail;go_ret;exact⟨by first | rfl | (simp<;>omega),bZ.alloc aQ _⟩
theorem yl (w:World) (e:Int):Calls prog 81 #[.i e] w fun r w'=>r=.returned (.i (wrap64 (e+1)))/\w=w':=by
 go_enter func81,ntmps81
 go_wp2
 go_ret;exact⟨rfl,rfl⟩
theorem Dk (w:World) (x:Int) (h:1<=x) (hx:x<=9223372036854775807):Calls prog 267 #[.i x] w fun r w'=>r=.returned (.tuple #[.i (x - 1),.bool true])/\w=w':=by
 go_enter func267,ntmps267
 go_wp2
 go_ret2;exact⟨rfl,rfl⟩
theorem Gs (w:World) (x:Int) (h:x < 1):Calls prog 267 #[.i x] w fun r w'=>r=.returned (.tuple #[.i 0,.bool false])/\w=w':=by
 go_enter func267,ntmps267
 go_wp2
 go_ret2;exact⟨rfl,rfl⟩
theorem AQ (w:World) (x e:Int) (hx:x<=9223372036854775807):Calls prog 246 #[.i x,.i e] w fun r w'=>r=.returned (.bool (Ty.blocks x e))/\w=w':=by
 by_cases h:1<=x
 ·by_cases h2:x - 1<=e
  all_goals
   go_enter func246,ntmps246
   go_wp2_with (go_at_call 267;refine(Dk _ _ h hx).mono ?_;rintro r w' ⟨rfl,rfl⟩);go_ret
  ·exact⟨Base.aN (by symm;simp[Ty.blocks];omega),rfl⟩
  ·exact⟨Base.aN (by unfold Ty.blocks;rw[decide_eq_false ag];simp;omega),rfl⟩
 ·go_enter func246,ntmps246
  go_wp2_with (go_at_call 267;refine(Gs _ _ ag).mono ?_;rintro r w' ⟨rfl,rfl⟩);go_ret;exact⟨Base.aN (by unfold Ty.blocks;rw[decide_eq_false ag]),rfl⟩
end Cl
namespace Cl
open Go.RowKit Hp ah aj Tk
theorem uh {c:Cf} (h:c.right=true):(1<=c.workers/\c.workers<=8)/\(1<=c.slots/\c.slots<=16):=by
 simp only[Cf.right,vM,Bool.and_eq_true,decide_eq_true_eq]at h;exact⟨h.1,h.2.1⟩
theorem Nt (w:World) (c:Cf) (hr:c.right=true):Calls prog 30 #[c.val] w fun e w'=>∃ mb wb,e=.returned (.tuple #[ptr mb,.i 0])/\
  bB w' mb wb (List.replicate (sc c (ns c)) 0) 0/\w.heap.size<=mb/\w.heap.size<=wb/\Below w.heap.size w w':=by
 obtain⟨⟨a0,a1⟩,b0,b1⟩:=uh hr;have Gr:=fun W=>aj.eP W c
 rw[hr]at Gr;have hce:=fun W=>Gq W c ⟨ag,a1⟩ ⟨ag,ag⟩
 have hn:3+2 * c.workers+c.slots=((sc c (ns c):Nat):Int):=by unfold sc ns;omega
 simp only[hn]at hce;have hne:=fun W=>iZ W (sc c (ns c)) (by unfold sc ns;omega)
 generalize sc c (ns c)=n at *;clear hn hr a0 a1 b0 b1;obtain⟨cw,cs,cst,jm,cu⟩:=c;simp only[Cf.val,Cf.cells]at Gr hce;have hA:Below w.heap.size w (w.alloc (.cells (Ab cw cs cst jm cu) 27)):=bZ.alloc aQ _;have c0:(w.alloc (.cells (Ab cw cs cst jm cu) 27)).cell? ⟨w.heap.size,0,none⟩=some (.i cw):=au
 have c1:(w.alloc (.cells (Ab cw cs cst jm cu) 27)).cell? ⟨w.heap.size,1,none⟩=some (.i cs):=au
 have c2:(w.alloc (.cells (Ab cw cs cst jm cu) 27)).cell? ⟨w.heap.size,2,none⟩=some (.i cst):=au
 have c3:(w.alloc (.cells (Ab cw cs cst jm cu) 27)).cell? ⟨w.heap.size,3,none⟩=some (.i jm):=au
 have c4:(w.alloc (.cells (Ab cw cs cst jm cu) 27)).cell? ⟨w.heap.size,4,none⟩=some (.i cu):=au
 go_enter func30,ntmps30
 simp only[Cf.val,Cf.cells];go_wp2_with fail;refine(Gr _).mono ?_;rintro e w5 ⟨rfl,hb5⟩;have d0:=Field.ak hb5 c0;have d1:=Field.ak hb5 c1;have d2:=Field.ak hb5 c2;have d3:=Field.ak hb5 c3;have d4:=Field.ak hb5 c4;have kM:=hA.trans (hb5.mono hA.size);clear Gr hb5 c0 c1 c2 c3 c4;go_wp2_with fail;refine(hce _).mono ?_;rintro e w6 ⟨rfl,hb6⟩;have kS:=kM.trans (hb6.mono kM.size);clear hce hb6 d0 d1 d2 d3 d4;go_wp2_with fail;refine(hne _).mono ?_;rintro e w7 ⟨rfl,hm,cB⟩;have kN:=kS.trans (cB.mono kS.size);have hs:=kS.size;have HM:=uH hm;clear hne cB hm;go_wp2_with fail;go_ret2;exact⟨w6.heap.size+1,w6.heap.size,rfl,HM.out,ag,ag,kN⟩
end Cl
namespace Cl
open Go.RowKit Hp Slot ah ai
def nP (a b c d e:Int):aj.Cf:=⟨1+a % 4,1+b % 5,c % 4,d % 4,1+e % 4⟩
theorem qM (a b c d e:Int):(nP a b c d e).right=true:=by
 simp only[aj.Cf.right,aj.vM,nP,Bool.and_eq_true];exact⟨decide_eq_true ag,decide_eq_true ag,decide_eq_true ag,decide_eq_true ag,decide_eq_true ag⟩
theorem AP (W:World) (a b c d e:Int) (ha:0<=a/\a < 256) (hb:0<=b/\b < 256) (hc:0<=c/\c < 256) (hd:0<=d/\d < 256) (he:0<=e/\e < 256):
  Calls prog 10 #[.agg #[.int .u8 a,.int .u8 b,.int .u8 c,.int .u8 d,.int .u8 e]] W fun en W'=>en=.returned (nP a b c d e).val/\Below W.heap.size W W':=by
 have hB:Below W.heap.size W ((W.alloc (.cells #[.int .u8 a,.int .u8 b,.int .u8 c,.int .u8 d,.int .u8 e] 23)).alloc (.cells (Ab 0 0 0 0 0) 27)):=(bZ.alloc aQ _).alloc au _;obtain⟨a0,a1⟩:=ha;obtain⟨b0,b1⟩:=hb;obtain⟨c0,c1⟩:=hc;obtain⟨d0,d1⟩:=hd;obtain⟨e0,e1⟩:=he
 go_enter func10,ntmps10
 go_wp2
 have row:af ((W.alloc (.cells #[.int .u8 a,.int .u8 b,.int .u8 c,.int .u8 d,.int .u8 e] 23)).alloc (.cells (nP a b c d e).cells 27)) (W.heap.size+1) (nP a b c d e).cells 27:=by
  have:=af.new (W.alloc (.cells #[.int .u8 a,.int .u8 b,.int .u8 c,.int .u8 d,.int .u8 e] 23)) (nP a b c d e).cells 27
  simpa using this
 refine bodyPost_ret (uj rfl _ _ (W.heap.size+1) _ _ _ rfl row underlying27 rfl ax) rfl ⟨rfl,?_⟩;exact(bZ.alloc aQ _).alloc au _
abbrev Fw:Array Value:=(Ab 0 0 0 0 0)
theorem lJ:∃ i0,prog.info? 3=some i0/\i0.zero=some (.i 0)/\i0.size=1/\i0.bytes=8:=by
 have h:(prog.info? 3).map (fun i=>(i.zero,i.size,i.bytes))=some (some (.i 0),1,8):=ax
 cases hi:prog.info? 3 with
 | none=>rw[hi]at h;cases h
 | some i=>
  rw[hi]at h;simp only[Option.map_some,Option.some.injEq,Prod.mk.injEq]at h;exact⟨i,rfl,h.1,h.2.1,h.2.2⟩
end Cl
namespace Ty
open Go.RowKit Hp Slot ah ai Tk
def lw:List Int->Int
 | []=>0
 | x :: l=>(x+1)+16 * lw l
section
variable {c:aj.Cf} {pre:List Int} {ss:List S} {t:Ty} {kd ow wd cl e E:Int} {k w:Nat}
theorem jX:∀ {L:List Int},(∀ x ∈ L,0<=x)->0<=lw L:=by
 intro L
 induction L with
 | nil=>intro _;exact Int.le_refl _
 | cons x L ih=>
  intro h;have h1:=h x au;have h2:=ih fun y hy=>h y (by simp[hy])
  simp only[lw];omega
theorem fq {l:List Int} {i:Nat} {x:Int} (h:i < l.length):rd (l.set i x) i=x:=by
 unfold rd;rw[List.getD_eq_getElem?_getD,List.getElem?_set];simp[h]
theorem aP {l:List Int} {i j:Nat} {x:Int} (h:i≠j):rd (l.set i x) j=rd l j:=by
 unfold rd;rw[List.getD_eq_getElem?_getD,List.getElem?_set,if_neg h,List.getD_eq_getElem?_getD]
end
end Ty
namespace Mod
open Go.RowKit Hp Slot ah ai
theorem JS:(prog.info? 47).map (·.size)=some 18:=ax
theorem JU:((prog.info? 47).bind (·.zero))=some Ev.zero.val:=ax
theorem Nw (y:Ev):Instr.fill (fun i=>some (i * 18,18)) ((Array.range (1 * 18)).map (Ev.zero.val.cells[· % Ev.zero.val.cells.size]!)) [(0,y.val)]=some y.cells:=ax
theorem JR (w:World) (y:Ev):(Instr.buildSlice 41 1 #[(0,.agg y.cells)]).run prog w=.ok (.slice (some ⟨w.heap.size,0,none⟩) 1 1) (w.alloc (.cells y.cells 47)):=by
 have hs:=JS;have hz:=JU
 cases hi:prog.info? 47 with
 | none=>rw[hi]at hs;cases hs
 | some ie=>
  rw[hi]at hs hz;simp only[Option.map_some,Option.some.injEq,Option.bind_some]at hs hz;refine run_buildSlice w 41 47 1 #[(0,.agg y.cells)] y.cells ie Ev.zero.val underlying41 hi hz (by rw[hs];omega) (by rw[hs];omega) ?_;rw[hs];exact Nw y
end Mod
namespace ai
open Go.RowKit Hp Slot ah Mod
theorem zg (n:Int) (k:Nat) (h0:0<=n/\n<=255) (hk:k < 8):bits .and .i64 n (2 ^ k)=if bT n k then 2 ^ k else 0:=by
 have h:∀ (m:Fin 256) (j:Fin 8),bits .and .i64 (m.val:Int) (2 ^ j.val)=if m.val.testBit j.val then 2 ^ j.val else 0:=by decide+kernel
 obtain⟨m,rfl⟩:=Int.eq_ofNat_of_zero_le h0.1;exact h ⟨m,ag⟩ ⟨k,hk⟩
theorem Kv (n:Int) (k:Nat) (h0:0<=n/\n<=255) (hk:k < 8):bits .or .i64 n (2 ^ k)=kg n k:=by
 have h:∀ (m:Fin 256) (j:Fin 8),bits .or .i64 (m.val:Int) (2 ^ j.val)=((m.val ||| 2 ^ j.val:Nat):Int):=by decide+kernel
 obtain⟨m,rfl⟩:=Int.eq_ofNat_of_zero_le h0.1;exact h ⟨m,ag⟩ ⟨k,hk⟩
theorem Kw (n:Int) (k:Nat) (h0:0<=n/\n<=255) (hk:k < 8) (hb:bT n k=true):bits .andNot .i64 n (2 ^ k)=gP n k:=by
 have h:∀ (m:Fin 256) (j:Fin 8),m.val.testBit j.val=true->bits .andNot .i64 (m.val:Int) (2 ^ j.val)=(m.val:Int) - 2 ^ j.val:=by decide+kernel
 obtain⟨m,rfl⟩:=Int.eq_ofNat_of_zero_le h0.1;exact h ⟨m,ag⟩ ⟨k,hk⟩ hb
theorem o9 (k:Nat) (hk:k < 8):(0:Int) < 2 ^ k/\(2:Int) ^ k<=128:=by
 have h:∀ j:Fin 8,(0:Int) < 2 ^ j.val/\(2:Int) ^ j.val<=128:=by decide+kernel
 exact h ⟨k,hk⟩
theorem qY (n most:Int) (k:Nat) (hk:(k:Int) < min most 8) (hb:bT n k=false) (hall:∀ j,j < k->bT n j=true):dQ n most=some k:=by
 unfold dQ;rw[List.find?_eq_some_iff_getElem];refine⟨by simp[hb],k,by simp;omega,au,fun j hj=>?_⟩;simp[hall j hj]
theorem qZ (n most:Int) (k:Nat) (hk:min most 8<=(k:Int)) (hall:∀ j,j < k->bT n j=true):dQ n most=none:=by
 unfold dQ;rw[List.find?_eq_none];intro j hj;simp at hj;simp[hall j ag]
theorem Ky (w:World) (s:S) (own more:Int) (hs:0<=s.streams/\s.streams<=255):Calls prog 146 #[cO s own more] w fun e w'=>e=.returned (.tuple #[(act 14 s own more).1.val,.bool (act 14 s own more).2])/\Below w.heap.size w w':=by
 have hi:=fun W=>kD W s own more 3
 have ha:act 14 s own more=if (s.state == 3 && s.own == own) && !s.broken then (match dQ s.streams more with | some i=>({s with streams:=kg s.streams i},true) | none=>(s,false)) else (s,false):=rfl
 generalize act 14 s own more=res at *;generalize hb:(s.state == 3 && s.own == own)=b at *;clear hb;have HA:=uH ha;clear ha;obtain⟨st,ow,sm,br,ma,us,ge,ep,ve⟩:=s;simp only[cO]at hi hs;obtain⟨hs0,hs1⟩:=hs;have hB:Below w.heap.size w (((w.alloc (.cells (Ae st ow sm br ma us ge ep ve own more) 144)).alloc (.cells av 57)).alloc (.cells (Aa st ow sm br ma us ge ep ve) 57)):=((bZ.alloc aQ _).alloc au _).alloc (by simp;omega) _
 go_enter func146,ntmps146
 go_wp2_with fail;refine(hi _).mono ?_;rintro e w5 ⟨rfl,hb5⟩;have r1:af w5 w.heap.size (Ae st ow sm br ma us ge ep ve own more) 144:=af.below (by rw[af,Below.heap_alloc _ _ _ (by simp;omega)];exact heap_alloc2_old w _ _) hb5;have r2:af w5 (w.heap.size+1) av 57:=af.below (dW w _ _ _) hb5;have r3:af w5 (w.heap.size+1+1) (Aa st ow sm br ma us ge ep ve) 57:=af.below (by have:=heap_alloc_new ((w.alloc (.cells (Ae st ow sm br ma us ge ep ve own more) 144)).alloc (.cells av 57)) (.cells (Aa st ow sm br ma us ge ep ve) 57);simpa [af] using this) hb5;have HB:=uH (hB.trans (hb5.mono (by simp;omega)));have c10:=cC more (r1.cell 10);have q0:=cC 0 (r2.cell 0);have f0:=r2.frozen 0;have s0:=cC st (r3.cell 0);have q1:=cC 0 (r2.cell 1);have f1:=r2.frozen 1;have s1:=cC ow (r3.cell 1);have q2:=cC 0 (r2.cell 2);have f2:=r2.frozen 2;have s2:=cC sm (r3.cell 2)
 have q3:=cV (.bool false) (r2.cell 3);have f3:=r2.frozen 3;have s3:=cV (.bool br) (r3.cell 3);have q4:=cV (.bool false) (r2.cell 4);have f4:=r2.frozen 4;have s4:=cV (.bool ma) (r3.cell 4);have q5:=cC 0 (r2.cell 5);have f5:=r2.frozen 5;have s5:=cC us (r3.cell 5);have q6:=cC 0 (r2.cell 6);have f6:=r2.frozen 6;have s6:=cC ge (r3.cell 6);have q7:=cC 0 (r2.cell 7);have f7:=r2.frozen 7;have s7:=cC ep (r3.cell 7);have q8:=cC 0 (r2.cell 8);have f8:=r2.frozen 8;have s8:=cC ve (r3.cell 8);have g2:=r3.frozen 2;have R2:=uH r2;have R3:=uH r3;clear r1 r2 r3 hb5 hB hi;cases b
 ·go_wp2_with fail;refine jK (w.heap.size+1) (((((((((R2.out.aB 0 _).aB 1 _).aB 2 _).aB 3 _).aB 4 _).aB 5 _).aB 6 _).aB 7 _).aB 8 _) underlying57 ?_;refine⟨by rw[HA.out];simp[S.val,S.cells],?_⟩
  iterate 9 refine Below.setCell ?_ au _
  exact HB.out
 cases br;rotate_left
 ·go_wp2_with fail;refine jK (w.heap.size+1) (((((((((R2.out.aB 0 _).aB 1 _).aB 2 _).aB 3 _).aB 4 _).aB 5 _).aB 6 _).aB 7 _).aB 8 _) underlying57 ?_;refine⟨by rw[HA.out];simp[S.val,S.cells],?_⟩
  iterate 9 refine Below.setCell ?_ au _
  exact HB.out
 have hmm:more<=8\/8 < more:=ag
 rcases hmm with hm | hm
 all_goals (
  go_wp2_with fail;clear q0 f0 s0 q1 f1 s1 q2 f2 s2 q3 f3 s3 q4 f4 s4 q5 f5 s5 q6 f6 s6 q7 f7 s7 q8 f8 s8 g2;have r2:=R2.out;have r3:=R3.out;have hB:=HB.out;clear R2 R3 HB)
 all_goals
  go_loopw [19] (fun i wr=>∃ k:Nat,(k=0\/(k:Int)<=min more 8)/\i=.i k/\(∀ j,j < k->bT sm j=true)/\af wr (w.heap.size+1) av 57/\af wr (w.heap.size+1+1) (Aa st ow sm false ma us ge ep ve) 57/\Below w.heap.size w wr) (fun i _=>8 - (intOf i).toNat)
  case atStart=>exact⟨0,.inl rfl,rfl,fun j hj=>absurd hj ag,r2,r3,hB⟩
 ·case round=>
   clear r2 r3 hB;obtain⟨k,hk,rfl,hall,r2,r3,hB⟩:=hrel;have R2:=uH r2;have R3:=uH r3;have HB:=uH hB;have DF:=uH hall;have l0:(0:Int)<=(k:Int):=ag
   have q0:=cC 0 (r2.cell 0);have f0:=r2.frozen 0;have s0:=cC st (r3.cell 0);have q1:=cC 0 (r2.cell 1);have f1:=r2.frozen 1;have s1:=cC ow (r3.cell 1);have q2:=cC 0 (r2.cell 2);have f2:=r2.frozen 2;have s2:=cC sm (r3.cell 2);have q3:=cV (.bool false) (r2.cell 3);have f3:=r2.frozen 3;have s3:=cV (.bool false) (r3.cell 3);have q4:=cV (.bool false) (r2.cell 4);have f4:=r2.frozen 4;have s4:=cV (.bool ma) (r3.cell 4);have q5:=cC 0 (r2.cell 5);have f5:=r2.frozen 5;have s5:=cC us (r3.cell 5);have q6:=cC 0 (r2.cell 6);have f6:=r2.frozen 6;have s6:=cC ge (r3.cell 6);have q7:=cC 0 (r2.cell 7);have f7:=r2.frozen 7;have s7:=cC ep (r3.cell 7);have q8:=cC 0 (r2.cell 8);have f8:=r2.frozen 8;have s8:=cC ve (r3.cell 8);have g2:=r3.frozen 2;clear r2 r3 hB hall
   by_cases hlt:(k:Int) < min more 8
   ·have l1:(k:Int) < more:=ag
    have l2:k < 8:=ag
    have hp1:=(o9 k l2).1;have hp2:=(o9 k l2).2;have hne:((2:Int) ^ k == 0)=false:=by simp;omega
    have hnd:=zg sm k ⟨hs0,hs1⟩ l2;have hor:=Kv sm k ⟨hs0,hs1⟩ l2;have HL:=uH (qY sm more k hlt);clear hlt hk;cases hb:bT sm k
    ·rw[hb]at hnd;simp only[Bool.false_eq_true,if_false]at hnd;have HR:=uH (HL.out hb DF.out);clear hb HL;go_wp2_with fail;go_region;go_wp2_with fail;go_region;go_wp2_with fail;refine bodyPost_ret (jM rfl _ _ (w.heap.size+1) _ _ _ rfl ((((((((((setOther R2.out _ au).aB 0 _).aB 1 _).aB 2 _).aB 3 _).aB 4 _).aB 5 _).aB 6 _).aB 7 _).aB 8 _).drew.drew underlying57 rfl ax) rfl ?_;refine⟨by rw[HA.out];simp[S.val,S.cells,HR.out],?_⟩;refine Below.drew (Below.drew ?_)
     iterate 9 refine Below.setCell ?_ au _
     exact HB.out.setCell (by simp;omega) _
    ·rw[hb]at hnd;simp only[if_true]at hnd
     have Kz:RowKit.Hid (∀ j,j < k+1->bT sm j=true):=uH (fun j hj=>by
      rcases Nat.lt_succ_iff_lt_or_eq.1 hj with h | rfl
      ·exact DF.out j h
      ·exact hb)
     clear hb HL hor;go_wp2_with fail;go_region;go_wp2_with fail
     go_roundw
     case rel=>exact⟨k+1,.inr ag,by go_num,Kz.out,R2.out.drew,R3.out.drew,HB.out.drew⟩
     case measure=>simp[intOf];omega
   ·have l1:¬ ((k:Int) < more):=ag
    have HR:=uH (qZ sm more k ag DF.out);clear hlt hk;go_wp2_with fail;refine jK (w.heap.size+1) (((((((((R2.out.aB 0 _).aB 1 _).aB 2 _).aB 3 _).aB 4 _).aB 5 _).aB 6 _).aB 7 _).aB 8 _) underlying57 ?_;refine⟨by rw[HA.out,HR.out];simp[S.val,S.cells],?_⟩
    iterate 9 refine Below.setCell ?_ au _
    exact HB.out
 ·case round=>
   clear r2 r3 hB;obtain⟨k,hk,rfl,hall,r2,r3,hB⟩:=hrel;have R2:=uH r2;have R3:=uH r3;have HB:=uH hB;have DF:=uH hall;have l0:(0:Int)<=(k:Int):=ag
   have q0:=cC 0 (r2.cell 0);have f0:=r2.frozen 0;have s0:=cC st (r3.cell 0);have q1:=cC 0 (r2.cell 1);have f1:=r2.frozen 1;have s1:=cC ow (r3.cell 1);have q2:=cC 0 (r2.cell 2);have f2:=r2.frozen 2;have s2:=cC sm (r3.cell 2);have q3:=cV (.bool false) (r2.cell 3);have f3:=r2.frozen 3;have s3:=cV (.bool false) (r3.cell 3);have q4:=cV (.bool false) (r2.cell 4);have f4:=r2.frozen 4;have s4:=cV (.bool ma) (r3.cell 4);have q5:=cC 0 (r2.cell 5);have f5:=r2.frozen 5;have s5:=cC us (r3.cell 5);have q6:=cC 0 (r2.cell 6);have f6:=r2.frozen 6;have s6:=cC ge (r3.cell 6);have q7:=cC 0 (r2.cell 7);have f7:=r2.frozen 7;have s7:=cC ep (r3.cell 7);have q8:=cC 0 (r2.cell 8);have f8:=r2.frozen 8;have s8:=cC ve (r3.cell 8);have g2:=r3.frozen 2;clear r2 r3 hB hall
   by_cases hlt:(k:Int) < min more 8
   ·have l1:(k:Int) < more:=ag
    have l2:k < 8:=ag
    have hp1:=(o9 k l2).1;have hp2:=(o9 k l2).2;have hne:((2:Int) ^ k == 0)=false:=by simp;omega
    have hnd:=zg sm k ⟨hs0,hs1⟩ l2;have hor:=Kv sm k ⟨hs0,hs1⟩ l2;have HL:=uH (qY sm more k hlt);clear hlt hk;cases hb:bT sm k
    ·rw[hb]at hnd;simp only[Bool.false_eq_true,if_false]at hnd;have HR:=uH (HL.out hb DF.out);clear hb HL;go_wp2_with fail;go_region;go_wp2_with fail;go_region;go_wp2_with fail;refine bodyPost_ret (jM rfl _ _ (w.heap.size+1) _ _ _ rfl ((((((((((setOther R2.out _ au).aB 0 _).aB 1 _).aB 2 _).aB 3 _).aB 4 _).aB 5 _).aB 6 _).aB 7 _).aB 8 _).drew.drew underlying57 rfl ax) rfl ?_;refine⟨by rw[HA.out];simp[S.val,S.cells,HR.out],?_⟩;refine Below.drew (Below.drew ?_)
     iterate 9 refine Below.setCell ?_ au _
     exact HB.out.setCell (by simp;omega) _
    ·rw[hb]at hnd;simp only[if_true]at hnd
     have Kz:RowKit.Hid (∀ j,j < k+1->bT sm j=true):=uH (fun j hj=>by
      rcases Nat.lt_succ_iff_lt_or_eq.1 hj with h | rfl
      ·exact DF.out j h
      ·exact hb)
     clear hb HL hor;go_wp2_with fail;go_region;go_wp2_with fail
     go_roundw
     case rel=>exact⟨k+1,.inr ag,by go_num,Kz.out,R2.out.drew,R3.out.drew,HB.out.drew⟩
     case measure=>simp[intOf];omega
   ·have l1:¬ ((k:Int) < 8):=ag
    have HR:=uH (qZ sm more k ag DF.out);clear hlt hk;go_wp2_with fail;refine jK (w.heap.size+1) (((((((((R2.out.aB 0 _).aB 1 _).aB 2 _).aB 3 _).aB 4 _).aB 5 _).aB 6 _).aB 7 _).aB 8 _) underlying57 ?_;refine⟨by rw[HA.out,HR.out];simp[S.val,S.cells],?_⟩
    iterate 9 refine Below.setCell ?_ au _
    exact HB.out
end ai
namespace Mod
open Go.RowKit Hp Slot ah ai
theorem Ny (w:World) (x:Ev):(Op.equalIn 10000 47 x.val x.val).run prog w=.ok true w:=by
 have u3:=underlying3;have a3':=isAgg3;have z3:=sizeOf3;have u4:=underlying4;have a4':=isAgg4;have z4:=sizeOf4;have hS:prog.underlying 47=some (.struct (prog.fieldsOf 47)):=ax
 have hp:∀ w,((typeInfo 47).run prog w).andThen (fun i w'=>Result.ok (i.hasPointers && prog.cutTypes.any fun x=>x.snd == 47) w')=.ok false w:=fun w=>by rw[typeInfo47];kernel_rfl
 rw[show(10000:Nat)=9999+1 from rfl]
 first
  | rw[run_equalIn_agg w 9999 47 _ _ hS ax]
  | rw[run_equalIn_agg w 9999 47 _ _ hS (hp w)]
 simp only[Program.fieldsOf,underlying47,Ev.cells]
 go_simp
 repeat' split
 all_goals simp_all
end Mod
end Go.Proofs.YtbklamnimfmjkaaGreatDoor
