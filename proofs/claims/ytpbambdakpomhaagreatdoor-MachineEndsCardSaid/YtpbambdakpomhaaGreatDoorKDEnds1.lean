/- Part 1 of the walks and plain laws that the last text joins. -/
import Derived.Test.YtpbambdakpomhaaGreatDoorKB47
set_option maxRecDepth 100000
set_option maxHeartbeats 16000000
set_option linter.all false
open Go.Proofs.Tryz
namespace Go.Proofs.YtpbambdakpomhaaGreatDoor
namespace Cl
open Go.RowKit Hp Slot ah ai
def BRow (W:World) (g:Nat) (l:List Bool):Prop:=af W g ⟨l.map Value.bool⟩ 4
theorem BRow.get {W:World} {g:Nat} {l:List Bool} (h:BRow W g l) {i:Nat} {x:Bool} (hx:l[i]? =some x):W.cell? ⟨g,i,none⟩=some (.bool x):=by
 rw[af.cell h i];simp[hx]
theorem BRow.set {W:World} {g:Nat} {l:List Bool} (h:BRow W g l) (i:Nat) (x:Bool):BRow (W.setCell ⟨g,i,none⟩ (.bool x)) g (l.set i x):=by
 have h1:=af.aB h i (.bool x);unfold BRow
 have e:(⟨l.map Value.bool⟩:Array Value).setIfInBounds i (.bool x)=⟨(l.set i x).map Value.bool⟩:=by
  rw[List.map_set];simp
 rw[<- e];exact h1
theorem bool_info:∃ i0,prog.info? 4=some i0/\i0.zero=some (.bool false)/\i0.size=1/\i0.bytes=1:=by
 have h:(prog.info? 4).map (fun i=>(i.zero,i.size,i.bytes))=some (some (.bool false),1,1):=ax
 cases hi:prog.info? 4 with
 | none=>rw[hi]at h;cases h
 | some i=>
  rw[hi]at h;simp only[Option.map_some,Option.some.injEq,Prod.mk.injEq]at h;exact⟨i,rfl,h.1,h.2.1,h.2.2⟩
theorem made_bools (n:Nat):madeCells #[.bool false] n=⟨(List.replicate n false).map Value.bool⟩:=by
 apply Array.ext'
 rw[toList_madeCells_one];simp
theorem made_rep_bool (n:Nat):madeCells #[.bool false] n=Array.replicate n (.bool false):=by
 apply Array.ext'
 rw[toList_madeCells_one];simp
theorem make_bools (w:World) (n:Nat) (hn:n<=4096):(Instr.makeSlice 43 (.i n) (.i n)).run prog w=.ok (.slice (some ⟨w.heap.size,0,none⟩) n n) (w.alloc (.cells (Array.replicate n (.bool false)) 4)):=by
 obtain⟨i0,hi,hz0,hz1,hz2⟩:=bool_info;have h:=run_makeSlice (P:=prog) (w:=w) 43 4 i0 (.bool false) underlying43 hi hz0 .i64 .i64 n n ag ag (by rw[hz1];simp;omega) (by rw[hz2];omega) ag;rw[hz1]at h;simp only[Int.toNat_natCast,Nat.mul_one]at h;rw[h,<- made_rep_bool];rfl
theorem made_brow (w:World) (n:Nat):BRow (w.alloc (.cells (Array.replicate n (.bool false)) 4)) w.heap.size (List.replicate n false):=by
 unfold BRow;rw[<- made_bools,made_rep_bool];exact af.new w _ _
end Cl
namespace Mod
open Go.RowKit Hp ah
def Ask.cells (a:Ask):Array Value:=(Ag a.op a.deadline a.wait a.force a.slot a.gen a.stream)
abbrev Ask.val (a:Ask):Value:=.agg a.cells
end Mod
namespace Mc
open Go.RowKit Hp Slot ah ai Tk
structure Seen where
 at':Int
 busy:List Bool
 asks:List Mod.Ask
def Seen.zero (n:Nat):Seen:=⟨-1,List.replicate n false,List.replicate n Mod.Ask.zero⟩
def Seen.good (a:Seen) (x:Mod.Ev):Bool:=
 decide (a.at' < x.at') && (decide (0<=x.who) && decide (x.who < a.busy.length)) && (a.busy.getD x.who.toNat false == x.ended) && (!x.ended || decide (a.asks.getD x.who.toNat Mod.Ask.zero=x.ask))
def Seen.next (a:Seen) (x:Mod.Ev):Seen:=⟨x.at',a.busy.set x.who.toNat (!x.ended),a.asks.set x.who.toNat x.ask⟩
def Seen.run (a:Seen) (l:List Mod.Ev):Seen:=l.foldl Seen.next a
def Seen.all (a:Seen):List Mod.Ev->Bool
 | []=>true
 | x :: l=>a.good x && (a.next x).all l
theorem Seen.all_append (a:Seen) (l r:List Mod.Ev):a.all (l ++ r)=(a.all l && (a.run l).all r):=by
 induction l generalizing a with
 | nil=>rfl
 | cons x l ih=>simp only[List.cons_append,Seen.all,ih,Seen.run,List.foldl_cons,Bool.and_assoc]
theorem Seen.pR (a:Seen) (l r:List Mod.Ev):a.run (l ++ r)=(a.run l).run r:=by simp[Seen.run]
theorem Seen.OD (a:Seen) (l:List Mod.Ev):(a.run l).busy.length=a.busy.length/\(a.run l).asks.length=a.asks.length:=by
 induction l generalizing a with
 | nil=>exact⟨rfl,rfl⟩
 | cons x l ih=>
  have:=ih (a.next x);simp only[Seen.run,List.foldl_cons]at this ⊢
  simpa [Seen.next] using this
structure Ends (m:Mc):Prop where
 all:(Seen.zero m.ks.length).all m.evs=true
 at':((Seen.zero m.ks.length).run m.evs).at' < m.entries
 busy:∀ (i:Nat) k,m.ks[i]? =some k->((Seen.zero m.ks.length).run m.evs).busy.getD i false=decide (k.st≠0)
 asks:∀ (i:Nat) k,m.ks[i]? =some k->k.st≠0->((Seen.zero m.ks.length).run m.evs).asks.getD i Mod.Ask.zero=k.ask
theorem Ends.new (c:aj.Cf):Ends (Mc.new c):=by
 refine⟨rfl,by show(-1:Int) < ((0:Nat):Int);decide,fun i k hk=>?_,fun i k hk h0=>?_⟩
 ·simp only[Mc.new,List.getElem?_replicate]at hk
  split at hk
  ·cases hk
   show(List.replicate _ false).getD i false=_
   rw[List.getD_eq_getElem?_getD,List.getElem?_replicate]
   split<;>rfl
  ·cases hk
 ·simp only[Mc.new,List.getElem?_replicate]at hk
  split at hk
  ·cases hk;exact absurd rfl h0
  ·cases hk
theorem stp_ask {c:aj.Cf} {who at':Nat} {s s':Sh} {k k':Wk} {o:Option Mod.Ev} (h:Stp c who at' s k k' s' o):k'.ask=k.ask:=by
 cases h<;>rfl
theorem stp_tell {c:aj.Cf} {who at':Nat} {s s':Sh} {k k':Wk} {o:Option Mod.Ev} (h:Stp c who at' s k k' s' o):
  (o=none/\k'.st≠0)\/(k'.st=0/\∃ x,o=some x/\x.ended=true/\x.who=who/\x.at'=at'/\x.ask=k.ask):=by
 cases h
 case mg=>exact .inr ⟨rfl,_,rfl,rfl,rfl,rfl,rfl⟩
 all_goals (refine .inl ⟨rfl,?_⟩;first | (simp[*];done) | (simp[Wk.finish,Wk.aR];done))
theorem Ends.lG {n:Nat} {m:Mc} (h:Ends m) (ho:Fj n m) (x:En):Ends (m.lG x).2:=by
 have hd:=Ke ho x;generalize (m.lG x).1=b at hd;generalize (m.lG x).2=m' at hd;have hl:=Seen.OD (Seen.zero m.ks.length) m.evs;have hb0:(Seen.zero m.ks.length).busy.length=m.ks.length:=by simp[Seen.zero]
 have ha0:(Seen.zero m.ks.length).asks.length=m.ks.length:=by simp[Seen.zero]
 have hat:=h.at';have same:∀ (s:Sh),Ends {m with at':=m.entries,entries:=m.entries+1,sh:=s}:=fun s=>⟨h.all,by show((Seen.zero m.ks.length).run m.evs).at' < ((m.entries+1:Nat):Int);omega,h.busy,h.asks⟩
 have more:∀ (i:Nat) (k k':Wk) (s:Sh) (y:Mod.Ev),m.ks[i]? =some k->y.who=i->y.at'=m.entries->y.ended=decide (k.st≠0)->(y.ended=true->y.ask=k.ask)->decide (k'.st≠0)= !y.ended->(k'.st≠0->k'.ask=y.ask)->
   Ends {m with at':=m.entries,entries:=m.entries+1,ks:=m.ks.set i k',sh:=s,evs:=m.evs ++ [y]}:=by
  intro i k k' s y hk hw hy he hya hk' hka;have hi:i < m.ks.length:=(List.getElem?_eq_some_iff.1 hk).1;have hbz:=h.busy i k hk;have haz:=h.asks i k hk;have hall:=h.all;have e1:y.who.toNat=i:=ag
  refine⟨?_,?_,fun j kj hj=>?_,fun j kj hj h0=>?_⟩
  ·simp only[List.length_set];rw[Seen.all_append,hall,Bool.true_and];simp only[Seen.all,Seen.good,Bool.and_true,e1,hl.1,hb0,hbz,he,beq_self_eq_true,Bool.and_eq_true,decide_eq_true_eq,Bool.or_eq_true,Bool.not_eq_true'];refine⟨⟨ag,ag,ag⟩,?_⟩;cases hd0:decide (k.st≠0)
   ·exact .inl rfl
   ·have hk0:k.st≠0:=of_decide_eq_true hd0;exact .inr (by rw[haz hk0,hya (by rw[he,hd0])])
  ·simp only[List.length_set];rw[Seen.pR]
   show y.at' < ((m.entries+1:Nat):Int)
   omega
  ·simp only[List.length_set];rw[Seen.pR]
   show((Seen.run _ m.evs).busy.set y.who.toNat (!y.ended)).getD j false=_
   simp only[e1,List.getD_eq_getElem?_getD,List.getElem?_set,hl.1,hb0]at hj ⊢
   by_cases hij:i=j
   ·subst hij;rw[if_pos rfl,if_pos hi]at hj;cases hj;rw[if_pos rfl,if_pos hi,hk'];rfl
   ·rw[if_neg hij]at hj ⊢;have:=h.busy j kj hj
    rwa [List.getD_eq_getElem?_getD]at this
  ·simp only[List.length_set];rw[Seen.pR]
   show((Seen.run _ m.evs).asks.set y.who.toNat y.ask).getD j Mod.Ask.zero=_
   simp only[e1,List.getD_eq_getElem?_getD,List.getElem?_set,hl.2,ha0]at hj ⊢
   by_cases hij:i=j
   ·subst hij;rw[if_pos rfl,if_pos hi]at hj;cases hj;rw[if_pos rfl,if_pos hi,hka h0];rfl
   ·rw[if_neg hij]at hj ⊢;have:=h.asks j kj hj h0
    rwa [List.getD_eq_getElem?_getD]at this
 cases hd with
 | no tc=>exact same _
 | tick _=>exact same _
 | feed _=>exact same _
 | brk i nw _ _ _=>exact same _
 | ask i k h1 h2 h3 h4 h5 h6=>
  exact more i k _ _ _ h3 rfl rfl (by rw[h4];rfl) (fun e=>by cases e) rfl (fun _=>rfl)
 | pick i k k' s' o h1 h2 h3 h4 h5 h6=>
  have h0:=R7 h4;have hask:=stp_ask h5
  rcases stp_tell h5 with⟨rfl,hk'⟩ | ⟨hk',y,rfl,y1,y2,y3,y4⟩
  ·refine⟨?_,?_,fun j kj hj=>?_,fun j kj hj h0'=>?_⟩
   ·simpa using h.all
   ·simp only[List.length_set,Option.toList_none,List.append_nil]
    show _ < ((m.entries+1:Nat):Int)
    omega
   ·simp only[List.length_set,Option.toList_none,List.append_nil,List.getElem?_set]at hj ⊢
    split at hj
    ·rename_i hij
     subst hij
     split at hj
     ·cases hj;rw[h.busy i k h3];simp[h0,hk']
     ·cases hj
    ·exact h.busy j kj hj
   ·simp only[List.length_set,Option.toList_none,List.append_nil,List.getElem?_set]at hj ⊢
    split at hj
    ·rename_i hij
     subst hij
     split at hj
     ·cases hj;rw[h.asks i k h3 h0,hask]
     ·cases hj
    ·exact h.asks j kj hj h0'
  ·exact more i k k' s' y h3 y2 y3 (by rw[y1];simp[h0]) (fun _=>y4) (by rw[y1,hk'];rfl) (fun e=>absurd hk' e)
end Mc
namespace Mc
open Go.RowKit Hp ah aj Slot ai Tk Cl
section
variable {W0 W W':World} {p:Mp} {m m':Mc} {K:Nat->Prop} {gb n:Nat}
theorem Core.off (h:Core W p m) {G:Nat->Prop} (hc:aD G W W') (hG:∀ b,b < W.heap.size->G b->p.ow b=0/\b≠0/\b≠2):Core W' p m:=by
 have hn:∀ b,b < W.heap.size->p.ow b≠0->¬ G b:=fun b hb h0 e=>h0 (hG b hb e).1
 have l0:0 < W.heap.size:=h.laid.lt aT;have l2:2 < W.heap.size:=dN (h.tab 0 aT)
 refine⟨af.aK h.row hc (hn _ h.qp (by rw[h.lg];decide)),h.mem.aK hc (hn _ h.mem.lt.1 (by rw[h.lm];decide)) (hn _ h.mem.lt.2 (by rw[h.lw];decide)),af.aK h.JH hc (hn _ h.Ot (by rw[h.lc];decide)),
  h.Fz.stable hc.size (fun b hb=>hc.block b (h.Fz.lt hb) (hn _ (h.Fz.lt hb) (by rw[h.lo b hb];decide))),h.evs.aK hc (fun b hb=>hn _ (h.evs.lt hb) (by rw[h.le b hb];decide)),
  h.ks.stable (hc.block _ h.uU (hn _ h.uU (by rw[h.lk];decide))),h.k0,h.laid.stable (hc.block 0 l0 fun e=>(hG 0 l0 e).2.1 rfl),h.tab.stable (hc.block 2 l2 fun e=>(hG 2 l2 e).2.2 rfl),h.l0,h.lg,h.lm,h.lw,h.lc,h.lo,h.le,h.lk⟩
theorem Lb.aK {G:Nat->Prop} (h:Lb W0 K gb n W p m) (hc:aD G W W') (hG:∀ b,G b->K b) (hW:∀ b,G b->W0.heap.size<=b) (hs:W'.heap.size=W.heap.size):Lb W0 K gb n W' p m:=by
 have hp:=h.pos;have hg:∀ b,b < W.heap.size->G b->p.ow b=0/\b≠0/\b≠2:=fun b _ e=>⟨(h.keep b (hG b e)).1,by have:=hW b e;omega,by have:=hW b e;omega⟩
 have hk:=h.at'.core.off hc hg;refine⟨h.pos,h.gb,⟨hk,fun i k hi=>?_⟩,by rw[hs];exact h.new,by rw[hs];exact h.keep,h.pF.trans (hc.below h.pF.size hW),h.good⟩;exact(h.at'.act i k hi).aK hc (fun e=>by have:=hW 0 e;omega) (fun b hL e=>by have h1:=(hg b hL.1 e).1;have h2:p.ow b=8+i:=hL.2;omega) hk.mem (fun b hL=>⟨Nat.lt_of_lt_of_le hL.1 hc.size,hL.2⟩)
end
theorem ask_self (w:World) (x:Mod.Ask):(Op.equalIn 10000 35 x.val x.val).run prog w=.ok true w:=by
 have u3:=underlying3;have a3':=isAgg3;have z3:=sizeOf3;have u4:=underlying4;have a4':=isAgg4;have z4:=sizeOf4;have hS:prog.underlying 35=some (.struct (prog.fieldsOf 35)):=ax
 have hp:∀ w,((typeInfo 35).run prog w).andThen (fun i w'=>Result.ok (i.hasPointers && prog.cutTypes.any fun x=>x.snd == 35) w')=.ok false w:=fun w=>by rw[typeInfo35];kernel_rfl
 rw[show(10000:Nat)=9999+1 from rfl]
 first
  | rw[run_equalIn_agg w 9999 35 _ _ hS ax]
  | rw[run_equalIn_agg w 9999 35 _ _ hS (hp w)]
 simp only[Program.fieldsOf,underlying35,Mod.Ask.cells]
 go_simp
 repeat' split
 all_goals simp_all
def zAsk:Array Value:=Mod.Ask.zero.cells
theorem mk_a1 (W:World):(Instr.makeSlice 44 (.i 1) (.i 1)).run prog W=.ok (.slice (some ⟨W.heap.size,0,none⟩) 1 1) (W.alloc (.cells (rowsOf zAsk 1) 35)):=ax
theorem mk_a2 (W:World):(Instr.makeSlice 44 (.i 2) (.i 2)).run prog W=.ok (.slice (some ⟨W.heap.size,0,none⟩) 2 2) (W.alloc (.cells (rowsOf zAsk 2) 35)):=ax
theorem mk_a3 (W:World):(Instr.makeSlice 44 (.i 3) (.i 3)).run prog W=.ok (.slice (some ⟨W.heap.size,0,none⟩) 3 3) (W.alloc (.cells (rowsOf zAsk 3) 35)):=ax
theorem mk_a4 (W:World):(Instr.makeSlice 44 (.i 4) (.i 4)).run prog W=.ok (.slice (some ⟨W.heap.size,0,none⟩) 4 4) (W.alloc (.cells (rowsOf zAsk 4) 35)):=ax
theorem mk_a5 (W:World):(Instr.makeSlice 44 (.i 5) (.i 5)).run prog W=.ok (.slice (some ⟨W.heap.size,0,none⟩) 5 5) (W.alloc (.cells (rowsOf zAsk 5) 35)):=ax
theorem mk_a6 (W:World):(Instr.makeSlice 44 (.i 6) (.i 6)).run prog W=.ok (.slice (some ⟨W.heap.size,0,none⟩) 6 6) (W.alloc (.cells (rowsOf zAsk 6) 35)):=ax
theorem mk_a7 (W:World):(Instr.makeSlice 44 (.i 7) (.i 7)).run prog W=.ok (.slice (some ⟨W.heap.size,0,none⟩) 7 7) (W.alloc (.cells (rowsOf zAsk 7) 35)):=ax
theorem mk_a8 (W:World):(Instr.makeSlice 44 (.i 8) (.i 8)).run prog W=.ok (.slice (some ⟨W.heap.size,0,none⟩) 8 8) (W.alloc (.cells (rowsOf zAsk 8) 35)):=ax
theorem mk_as (n:Nat) (h2:n<=8) (h1:1<=n) (W:World):(Instr.makeSlice 44 (.i n) (.i n)).run prog W=.ok (.slice (some ⟨W.heap.size,0,none⟩) n n) (W.alloc (.cells (rowsOf zAsk n) 35)):=by
 have h:n=1\/n=2\/n=3\/n=4\/n=5\/n=6\/n=7\/n=8:=ag
 rcases h with rfl | rfl | rfl | rfl | rfl | rfl | rfl | rfl
 ·exact mk_a1 W
 ·exact mk_a2 W
 ·exact mk_a3 W
 ·exact mk_a4 W
 ·exact mk_a5 W
 ·exact mk_a6 W
 ·exact mk_a7 W
 ·exact mk_a8 W
def AskAt (W:World) (g:Nat) (l:List Mod.Ask):Prop:=∀ (i:Nat) a,l[i]? =some a->W.rangeAt g (i * 7) a.cells.toList/\W.there g (i * 7) 7
theorem AskAt.new {W:World} {g n:Nat} {T:TypeId} (h:af W g (rowsOf zAsk n) T):AskAt W g (List.replicate n Mod.Ask.zero):=fun i a hi=>by
 rw[List.getElem?_replicate]at hi
 split at hi
 ·rename_i hlt
  cases hi;refine⟨fun j v hv=>?_,II h (by rw[uG,show zAsk.size=7 from rfl];omega)⟩;have hj:j < zAsk.size:=by have h:=(List.getElem?_eq_some_iff.1 hv).1;rw[Array.length_toList]at h;exact h
  have e:=wT zAsk n i j hlt hj;rw[af.cell h];rw[show zAsk.size=7 from rfl]at e;rw[e];rw[<- Array.getElem?_toList];exact hv
 ·cases hi
theorem AskAt.set {W:World} {g:Nat} {l:List Mod.Ask} (h:AskAt W g l) {i:Nat} (hi:i < l.length) (a:Mod.Ask):AskAt (W.setCells g (i * 7) a.cells.toList) g (l.set i a):=fun j b hj=>by
 rw[List.getElem?_set]at hj
 by_cases e:i=j
 ·subst e;rw[if_pos rfl,if_pos hi]at hj;cases hj;obtain⟨h1,h2⟩:=h i _ (List.getElem?_eq_getElem hi);exact⟨World.rangeAt_setCells_same _ _ _ _ h2,World.there_setCells h2 _ _ _⟩
 ·rw[if_neg e]at hj;obtain⟨h1,h2⟩:=h j b hj;refine⟨World.rangeAt_setCells_apart h1 _ _ _ (.inr ?_),World.there_setCells h2 _ _ _⟩
  show _+7<=_\/_+7<=_
  omega
theorem AskAt.aK {W W':World} {G:Nat->Prop} {g:Nat} {l:List Mod.Ask} (h:AskAt W g l) (hc:aD G W W') (hg:g < W.heap.size) (hn:¬ G g):AskAt W' g l:=fun i a hi=>
 ⟨fun j v hv=>(hc.cell (p:=⟨g,i * 7+j,none⟩) hg hn).trans ((h i a hi).1 j v hv),fun j hj=>by
  rw[hc.cell (p:=⟨g,i * 7+j,none⟩) hg hn,hc.frozen (p:=⟨g,i * 7+j,none⟩) hg hn];exact(h i a hi).2 j hj⟩
theorem AskAt.below {W W':World} {g:Nat} {l:List Mod.Ask} (h:AskAt W g l) (hb:Below W.heap.size W W') (hg:g < W.heap.size):AskAt W' g l:=h.aK (G:=fun _=>False) (aD.aF hb) hg (fun e=>e)
theorem setCells_size (g:Nat):∀ (vs:List Value) (o:Nat) (w:World),(w.setCells g o vs).heap.size=w.heap.size
 | [],_,_=>rfl
 | v :: vs,o,w=>(setCells_size g vs (o+1) _).trans au
theorem aD.setCells {F:Nat->Prop} {w:World} (g:Nat) (hF:F g):∀ (vs:List Value) (o:Nat) (a:World),aD F w a->aD F w (a.setCells g o vs)
 | [],_,_,h=>h
 | v :: vs,o,a,h=>aD.setCells g hF vs (o+1) _ (h.setCell ⟨g,o,none⟩ v (fun _=>hF))
theorem ks_len {n:Nat} {m:Mc} (h:Fj n m):1<=m.ks.length/\m.ks.length<=8/\m.cf.workers=(m.ks.length:Int):=by
 have h1:=h.c.nw;have h2:=h.len;omega
theorem Seen.all_at {a:Seen} {l:List Mod.Ev} (h:a.all l=true) {j:Nat} {y:Mod.Ev} (hj:l[j]? =some y):(a.run (l.take j)).good y=true/\(a.run (l.take j)).next y=a.run (l.take (j+1)):=by
 induction l generalizing a j with
 | nil=>simp at hj
 | cons x l ih=>
  simp only[Seen.all,Bool.and_eq_true]at h
  cases j with
  | zero=>simp only[List.getElem?_cons_zero,Option.some.injEq]at hj;subst hj;exact⟨h.1,rfl⟩
  | succ j=>simp only[List.getElem?_cons_succ]at hj;exact ih h.2 hj
theorem Seen.good_of {a:Seen} {y:Mod.Ev} (h:a.good y=true):a.at' < y.at'/\(∃ i:Nat,y.who=(i:Int)/\i < a.busy.length/\a.busy[i]? =some y.ended/\(a.asks.length=a.busy.length->y.ended=true->a.asks[i]? =some y.ask)):=by
 unfold Seen.good at h;simp only[Bool.and_eq_true,decide_eq_true_eq,Bool.or_eq_true,Bool.not_eq_true',beq_iff_eq]at h;obtain⟨⟨⟨h1,h2,h3⟩,h4⟩,h5⟩:=h;have e:y.who=(y.who.toNat:Int):=ag
 have hl:y.who.toNat < a.busy.length:=ag
 refine⟨h1,y.who.toNat,e,hl,?_,fun hs he=>?_⟩
 ·rw[List.getD_eq_getElem?_getD,List.getElem?_eq_getElem hl]at h4;rw[List.getElem?_eq_getElem hl,<- h4];rfl
 ·rcases h5 with h5 | h5
  ·rw[he]at h5;cases h5
  ·have hl2:y.who.toNat < a.asks.length:=ag
   rw[List.getD_eq_getElem?_getD,List.getElem?_eq_getElem hl2]at h5;rw[List.getElem?_eq_getElem hl2,<- h5];rfl
theorem machineEnds_walk (W:World) (hL:Laid W) (hT:TabAt W) (g0 g1 g2 g3 g4:Int) (h0:0<=g0/\g0 < 256) (h1:0<=g1/\g1 < 256) (h2:0<=g2/\g2 < 256) (h3:0<=g3/\g3 < 256) (h4:0<=g4/\g4 < 256) (v:Value) (l:List Tn) (hl:o7 W v l):
  Calls prog 3 #[.agg #[.int .u8 g0,.int .u8 g1,.int .u8 g2,.int .u8 g3,.int .u8 g4],v] W fun e W'=>e=.returned (.bool true)/\Below W.heap.size W W':=by
 have haw:=fun w hL hT=>wC w hL hT
 have hcf:=fun w=>AP w g0 g1 g2 g3 g4 h0 h1 h2 h3 h4
 have hcr:=qM g0 g1 g2 g3 g4;generalize nP g0 g1 g2 g3 g4=c at *;have hsm:aA c:=uq hcr;clear h0 h1 h2 h3 h4;have HL2:=uH hl;obtain⟨ta,tc,rfl,Ai,htc⟩:=hl;clear Ai htc;have hW2:2 < W.heap.size:=dN (hT 0 aT);have hA:Below W.heap.size W (W.alloc (.cells #[.int .u8 g0,.int .u8 g1,.int .u8 g2,.int .u8 g3,.int .u8 g4] 23)):=bZ.alloc aQ _;have hg:af (W.alloc (.cells #[.int .u8 g0,.int .u8 g1,.int .u8 g2,.int .u8 g3,.int .u8 g4] 23)) W.heap.size #[.int .u8 g0,.int .u8 g1,.int .u8 g2,.int .u8 g3,.int .u8 g4] 23:=heap_alloc_new W _;have hL0:=hL.stable (hA.block 0 ag);have hT0:=hT.stable (hA.block 2 hW2);have HC:=uH (And.intro hL hT);clear hL hT
 go_enter func3,ntmps3
 go_upto_region 1 with(fail);generalize (W.alloc (.cells #[.int .u8 g0,.int .u8 g1,.int .u8 g2,.int .u8 g3,.int .u8 g4] 23))=w0 at *;go_wp2_with fail;refine(haw _ hL0 hT0).mono ?_;rintro e w1 ⟨rfl,hb1⟩;have HB1:=uH (hA.trans (hb1.mono hA.size));have HG:=uH (af.below hg hb1);clear haw hb1 hA hg hL0 hT0
 by_cases aab:400 < l.length
 ·have h8i:(400:Int) < (l.length:Int):=ag
  clear hcf hcr hsm HL2 HG HC;go_wp2_with fail;go_ret;exact⟨rfl,HB1.out⟩
 have h8i:¬ (400:Int) < (l.length:Int):=ag
 go_upto_region 4 with(fail);refine wp_region_lit ?_;refine grow HG.out 23 (.tmp 2) underlying23 (ay ?_)
 refine pX 19 #[.tmp 22] #[23] #[.agg #[.int .u8 g0,.int .u8 g1,.int .u8 g2,.int .u8 g3,.int .u8 g4]] (aH func19) ?_;refine(hcf _).mono ?_;rintro e w2 ⟨rfl,hb2⟩;refine⟨_,rfl,?_⟩;dsimp only;refine dU (ob:=.cells Fw 27) (Z:=Fw) (cs:=c.cells) (t:=27) 27 (.tmp 6) (.tmp 23) rfl (ay ?_)
 rw[aG];refine wpList_nil ?_;have hB2:=HB1.out.trans (hb2.mono HB1.out.size);have hB3:Below W.heap.size W (w2.alloc (.cells c.cells 27)):=hB2.alloc hB2.size _;have hr3:af (w2.alloc (.cells c.cells 27)) w2.heap.size c.cells 27:=heap_alloc_new w2 _;have hcb:w2.heap.size < (w2.alloc (.cells c.cells 27)).heap.size:=au
 have hcW:W.heap.size<=w2.heap.size:=hB2.size;generalize (w2.alloc (.cells c.cells 27))=w3 at *;generalize w2.heap.size=cb at *;have hL3:=HC.out.1.stable (hB3.block 0 ag);have XC:=HC.out.2.stable (hB3.block 2 hW2);have hnew:=wD w3 c hcr hL3 XC;clear hcf hb2 HB1 hB2 HG hL3 XC HC;go_upto_region 5 with(fail);refine wp_region_lit ?_;refine grow hr3 27 (.tmp 6) underlying27 (ay ?_)
 refine pX 20 #[.tmp 25] #[27] #[.agg c.cells] (aH func20) ?_;refine hnew.mono ?_;intro e w4 hp;obtain⟨p4,rfl,h4⟩:=Lb.first (K:=fun b=>b=cb) hp hsm hB3 hW2 (by rintro b rfl;exact hcb);have hr4:af w4 cb c.cells 27:=af.below hr3 (hp.pF);generalize p4.gb=gb at *;refine⟨_,rfl,?_⟩;dsimp only;refine gl (.tuple #[ptr gb,.i 0]) (ay ?_)
 refine gl (ptr gb) (ay ?_)
 refine gl (.i 0) (ay ?_)
 refine gl (ptr gb) (ay ?_)
 refine gl (.i 0) (ay ?_)
 refine wpList_nil ?_;have H4:RowKit.Hid (∃ p m K,Lb W K gb 0 w4 p m/\m.cf=c/\K cb/\af w4 cb c.cells 27/\Ends m):=uH ⟨p4,_,_,h4,rfl,rfl,hr4,.new c⟩;clear hnew hp h4 hr4 hr3 hB3;go_wp2_with fail
 go_loopw [9] (fun v wr=>∃ k:Nat,k<=l.length/\v=.i k/\RowKit.Hid (∃ p m K,Lb W K gb k wr p m/\m.cf=c/\K cb/\af wr cb c.cells 27/\Ends m)) (fun v _=>l.length - (intOf v).toNat)
 case atStart=>exact⟨0,ag,rfl,H4⟩
 case round=>
  obtain⟨k,hk,rfl,hM⟩:=hrel;clear H4;obtain⟨p,m,Kp,hB,hcf,hKc,hrc,hen⟩:=hM.out
  by_cases hlt:k < l.length
  rotate_left
  ·skip
   have hi:¬ (k:Int) < (l.length:Int):=ag
   obtain⟨n1,n8,hcw⟩:=ks_len hB.good.ok;rw[hcf]at hcw;have c0:wr.cell? ⟨cb,0,none⟩=some (.i (m.ks.length:Nat)):=by rw[<- hcw];exact af.cell hrc 0
   have hmk1:=make_bools wr m.ks.length ag;have hb1:Below wr.heap.size wr (wr.alloc (.cells (Array.replicate m.ks.length (.bool false)) 4)):=bZ.alloc aQ _;have c0':World.cell? (wr.alloc (.cells (Array.replicate m.ks.length (.bool false)) 4)) ⟨cb,0,none⟩=some (.i (m.ks.length:Nat)):=Field.ak hb1 c0;have hmk2:=mk_as m.ks.length n8 n1 (wr.alloc (.cells (Array.replicate m.ks.length (.bool false)) 4));have hbb:Below wr.heap.size wr (World.alloc (wr.alloc (.cells (Array.replicate m.ks.length (.bool false)) 4)) (.cells (rowsOf zAsk m.ks.length) 35)):=hb1.alloc hb1.size _;have hbr:BRow (World.alloc (wr.alloc (.cells (Array.replicate m.ks.length (.bool false)) 4)) (.cells (rowsOf zAsk m.ks.length) 35)) wr.heap.size (List.replicate m.ks.length false):=af.below (made_brow wr m.ks.length) (bZ.alloc aQ _)
   have has:AskAt (World.alloc (wr.alloc (.cells (Array.replicate m.ks.length (.bool false)) 4)) (.cells (rowsOf zAsk m.ks.length) 35)) (World.heap (wr.alloc (.cells (Array.replicate m.ks.length (.bool false)) 4))).size (List.replicate m.ks.length Mod.Ask.zero):=AskAt.new (heap_alloc_new _ _);have hab:(World.heap (wr.alloc (.cells (Array.replicate m.ks.length (.bool false)) 4))).size=wr.heap.size+1:=au
   rw[hab]at has hmk2;obtain⟨p2,K2,h2,hKo,hKn⟩:=hB.more hbb;have kc2:=hKo cb hKc;have hr2:=af.below hrc hbb;have kb2:=hKn wr.heap.size aQ (by simp;omega);have ka2:=hKn (wr.heap.size+1) ag au;have H2:=uH (And.intro h2 (And.intro kc2 (And.intro hr2 (And.intro kb2 ka2))));have HR:=uH (And.intro hbr has);have HE:=uH hen;have HCF:=uH (And.intro hcf (And.intro hB.pF.size (And.intro hbb.size (hB.keep cb hKc).2)));have HN:=uH (And.intro n1 (And.intro n8 hcw));clear hB hM hKc hrc hen hbb hbr has h2 kc2 hr2 kb2 ka2 hKo hKn hb1 hcf hcw HL2 n1 n8;go_upto_region 14 with(fail);generalize (World.alloc (wr.alloc (.cells (Array.replicate m.ks.length (.bool false)) 4)) (.cells (rowsOf zAsk m.ks.length) 35))=w2 at *;generalize hbbe:wr.heap.size=bb at *;clear hmk1 hmk2 c0 c0' hab;obtain⟨h2,kc2,hr2,kb2,ka2⟩:=H2.out;have hmo:=h2.good.ok
   have hel:m.evs.length<=400:=by have:=hmo.evs;omega
   have hev:=nT h2.at' (by have:=hmo.evs;omega);rw[h2.gb]at hev;clear h2 kc2 hr2 kb2 ka2 hmo;go_wp2_with fail;refine hev.mono ?_;rintro e w3 ⟨ea,ec,rfl,hoe,hfp,hb3⟩;obtain⟨h2,kc2,hr2,kb2,ka2⟩:=H2.out;obtain⟨p3,K3,h3,hKo,hKn⟩:=h2.more hb3;obtain⟨hbr,has⟩:=HR.out;have hb2lt:bb < w2.heap.size/\bb+1 < w2.heap.size:=⟨(h2.keep _ kb2).2,(h2.keep _ ka2).2⟩
   have hfk:∀ b,Fp (.slice ea m.evs.length ec) b->K3 b/\b≠bb/\b≠bb+1:=fun b hb=>⟨hKn b (hfp b hb) (bR.lt hoe hb),by have:=hfp b hb;omega,by have:=hfp b hb;omega⟩
   have H3:RowKit.Hid (∃ p K,Lb W K gb k w3 p m/\K cb/\af w3 cb c.cells 27/\K bb/\BRow w3 bb ((Seen.zero m.ks.length).run (m.evs.take 0)).busy/\K (bb+1)/\AskAt w3 (bb+1) ((Seen.zero m.ks.length).run (m.evs.take 0)).asks/\bR w3 (.slice ea m.evs.length ec) m.evs.length 18 (gL m.evs)/\(∀ b,Fp (.slice ea m.evs.length ec) b->K b/\b≠bb/\b≠bb+1)):=
    uH ⟨p3,K3,h3,hKo cb kc2,af.below hr2 hb3,hKo _ kb2,af.below hbr hb3,hKo _ ka2,AskAt.below has hb3 hb2lt.2,hoe,hfk⟩
   clear hev h2 kc2 hr2 kb2 ka2 h3 hKo hKn hfk hoe hfp hb3 hbr has hb2lt H2 HR;go_wp2_with fail
   go_loopw [13,14] (fun u v wr2=>∃ j:Nat,j<=m.evs.length/\u=.i ((Seen.zero m.ks.length).run (m.evs.take j)).at'/\v=.i j/\RowKit.Hid (∃ p K,Lb W K gb k wr2 p m/\K cb/\af wr2 cb c.cells 27/\K bb/\BRow wr2 bb ((Seen.zero m.ks.length).run (m.evs.take j)).busy/\K (bb+1)/\AskAt wr2 (bb+1) ((Seen.zero m.ks.length).run (m.evs.take j)).asks/\bR wr2 (.slice ea m.evs.length ec) m.evs.length 18 (gL m.evs)/\(∀ b,Fp (.slice ea m.evs.length ec) b->K b/\b≠bb/\b≠bb+1))) (fun _ v _=>m.evs.length - (intOf v).toNat)
   case atStart=>exact⟨0,ag,rfl,rfl,H3⟩
   case round=>
    obtain⟨j,hj,rfl,rfl,hM⟩:=hrel;clear H3
    by_cases hjl:j < m.evs.length
    rotate_left
    ·have hi2:¬ (j:Int) < (m.evs.length:Int):=ag
     obtain rfl:j=m.evs.length:=ag
     obtain⟨p4,K4,h4,kc4,hr4,kb4,hbr4,-,-,-,-⟩:=hM.out;rw[List.take_length]at hbr4 ⊢;have hat:=HE.out.at';generalize ha:(Seen.zero m.ks.length).run m.evs=a at *;have H5:RowKit.Hid (∃ p K,Lb W K gb k wr p m/\K cb/\af wr cb c.cells 27/\K bb/\BRow wr bb a.busy):=uH ⟨p4,K4,h4,kc4,hr4,kb4,hbr4⟩;have HAT:=uH (And.intro hat ha);clear hM h4 kc4 hr4 kb4 hbr4 hat;go_wp2_with fail
     go_loopw [16] (fun v wr3=>∃ q:Nat,q<=m.ks.length/\v=.i q/\RowKit.Hid (∃ p K,Lb W K gb k wr3 p m/\K cb/\af wr3 cb c.cells 27/\K bb/\BRow wr3 bb a.busy)) (fun v _=>m.ks.length - (intOf v).toNat)
     case atStart=>exact⟨0,ag,rfl,H5⟩
     case round=>
      obtain⟨q,hq,rfl,hM3⟩:=hrel;clear H5;obtain⟨p5,K5,h5,kc5,JK,kb5,hbr5⟩:=hM3.out;have c0:wr.cell? ⟨cb,0,none⟩=some (.i (m.ks.length:Nat)):=by rw[<- HN.out.2.2];exact af.cell JK 0
      by_cases WG:q < m.ks.length
      rotate_left
      ·have hi3:¬ (q:Int) < (m.ks.length:Int):=ag
       have hent:=zi h5.at';rw[h5.gb]at hent;have hlt2:decide (a.at' < (m.entries:Int))=true:=decide_eq_true HAT.out.1;have YH:=uH h5.pF;clear hM3 h5 kc5 JK kb5 hbr5;go_upto_region 32 with(fail);refine wp_region_lit ?_;refine gl (.bool true) (ay ?_)
       refine gl (.bool true) (ay ?_)
       refine gl (.i a.at') (ay ?_)
       refine gl (ptr gb) (ay ?_)
       refine pX 25 #[.tmp 140] #[29] #[ptr gb] (aH func25) ?_;refine hent.mono ?_;rintro e w6 ⟨rfl,hb6⟩;refine⟨_,rfl,?_⟩;dsimp only;have HB6:=uH (YH.out.trans (hb6.mono YH.out.size));clear hent hb6 YH;go_wp2_with fail;go_ret;exact⟨rfl,HB6.out⟩
      obtain⟨kw,hkw⟩:∃ kw,m.ks[q]? =some kw:=⟨_,List.getElem?_eq_getElem WG⟩
      have hbz:=HE.out.busy q kw hkw
      have hbz2:a.busy[q]? =some (decide (kw.st≠0)):=by
       have h1:=HE.out.busy q kw hkw;have h2:=Seen.OD (Seen.zero m.ks.length) m.evs;rw[HAT.out.2]at h1 h2;have h3:q < a.busy.length:=by rw[h2.1];simpa [Seen.zero] using WG
       rw[List.getElem?_eq_getElem h3,<- h1,List.getD_eq_getElem?_getD,List.getElem?_eq_getElem h3];rfl
      have hsm':m.state (q:Int)=(kw.st:Int):=by
       unfold Mc.state Mc.has Mc.worker;rw[if_pos (by simp;omega)];simp[hkw]
      have hst:=DJ (h5.at'.rest (Below.refl wr.heap.size wr).drew) (q:Int);rw[show({p5 with ow:=fun b=>if b < wr.heap.size then p5.ow b else 0}:Mp).gb=gb from h5.gb,hsm']at hst;have b0:(0:Int)<=(q:Int):=ag
      have b1:(q:Int) < (m.ks.length:Int):=ag
      have bq:wr.cell? ⟨bb,q,none⟩=some (.bool (decide (kw.st≠0))):=hbr5.get hbz2;generalize hB:decide (kw.st≠0)=B at *;generalize kw.st=st at *;go_upto_region 30 with(fail);refine jr (S:=fun w'=>w'.cell? ⟨bb,q,none⟩=some (.bool B)/\Below wr.heap.size wr w') (by exact⟨bq,bY⟩) (fun hHeld=>?_);refine tH 0 128 hHeld ?_;refine tH 1 129 hHeld ?_;refine tH 2 130 hHeld ?_;refine tH 3 131 hHeld ?_;refine tH 4 132 hHeld ?_;refine tH 5 133 hHeld ?_;refine aX (i:=6) ax <| bI 24 #[.tmp 132,.tmp 133] #[29,3] (some 134) none ax ax #[ptr gb,.i q] ax (aH func24) ?_
      refine hst.mono ?_;rintro e w4 ⟨rfl,hb4⟩;have Gd:Below wr.heap.size wr w4:=(Below.refl wr.heap.size wr).drew.trans hb4;refine⟨_,rfl,⟨Field.ak Gd bq,Gd⟩,fun hHeld=>ay ?_⟩
      have n8:=HN.out.2.1
      have hcs:(B=false/\st=0)\/(B=true/\((st:Int) != 0)=true):=by
       by_cases e:st=0
       ·exact .inl ⟨by rw[<- hB];simp[e],e⟩
       ·exact .inr ⟨by rw[<- hB];simp[e],by simp;omega⟩
      obtain⟨p6,K6,h6,hKo,-⟩:=h5.more Gd;have H6:RowKit.Hid (∃ p K,Lb W K gb k w4 p m/\K cb/\af w4 cb c.cells 27/\K bb/\BRow w4 bb a.busy):=uH ⟨p6,K6,h6,hKo _ kc5,af.below JK Gd,hKo _ kb5,af.below hbr5 Gd⟩;clear hst hM3 h5 kc5 JK kb5 hbr5 h6 hKo Gd hb4 c0 bq hbz2 hsm' hkw hbz hB
      rcases hcs with⟨rfl,rfl⟩ | ⟨rfl,hst0⟩
      all_goals
       refine tH 7 135 hHeld ?_;refine tH 8 136 hHeld ?_;refine iR ?_;clear hHeld;go_wp2_with fail;refine⟨⟨q+1,ag,by go_num,H6⟩,?_⟩
       first | (simp[intOf];done) | (simp[intOf];omega)
    obtain⟨p4,K4,h4,kc4,hr4,kb4,hbr4,ka4,has4,hoe4,hfk4⟩:=hM.out;obtain⟨y,hy⟩:∃ y,m.evs[j]? =some y:=⟨_,List.getElem?_eq_getElem hjl⟩
    obtain⟨hgood,hnext⟩:=Seen.all_at HE.out.all hy;obtain⟨hat,i,hwho,hil,hbi,hai⟩:=Seen.good_of hgood;have hrl:=Seen.OD (Seen.zero m.ks.length) (m.evs.take j);have hbl:((Seen.zero m.ks.length).run (m.evs.take j)).busy.length=m.ks.length:=by rw[hrl.1];simp[Seen.zero]
    have hal:((Seen.zero m.ks.length).run (m.evs.take j)).asks.length=m.ks.length:=by rw[hrl.2];simp[Seen.zero]
    have hai:=hai (hal.trans hbl.symm);clear hgood hrl;rw[hbl]at hil;obtain⟨g,off,rfl,hrg⟩:=GU (k:=0) hoe4 hy rfl;generalize (Seen.zero m.ks.length).run (m.evs.take j)=a at *;have j0:(0:Int)<=(j:Int):=ag
    have j1:(j:Int) < (m.evs.length:Int):=ag
    have i0:(0:Int)<=(i:Int):=ag
    have i1:(i:Int) < (m.ks.length:Int):=ag
    go_upto_region 19 with(fail);refine wp_region_lit ?_;refine gl (.slice (some ⟨g,off,none⟩) m.evs.length ec) (ay ?_)
    refine gl (.i j) (ay ?_)
    refine gl (.pointer (some ⟨g,off+j * 18,none⟩)) (ay ?_) (by go_simp;try rfl)
    refine VG hrg 48 (.tmp 67) underlying48 (ay ?_)
    refine dU (ob:=.cells Mod.Ev.zero.cells 48) (Z:=Mod.Ev.zero.cells) (cs:=y.cells) (t:=48) 48 (.tmp 15) (.tmp 68) rfl (ay ?_)
    rw[aG];refine wpList_nil ?_;have hA:Below wr.heap.size wr (wr.alloc (.cells y.cells 48)):=bZ.alloc aQ _;have xG:af (wr.alloc (.cells y.cells 48)) wr.heap.size y.cells 48:=heap_alloc_new wr _;have hne:bb < wr.heap.size/\bb+1 < wr.heap.size:=⟨(h4.keep _ kb4).2,(h4.keep _ ka4).2⟩
    have hAd:Below wr.heap.size wr (wr.alloc (.cells y.cells 48)).drew:=hA.drew;obtain⟨p5,K5,h5,hKo,-⟩:=h4.more hAd;have kc5:=hKo _ kc4;have JK:=af.below hr4 hAd;have kb5:=hKo _ kb4;have hbr5:=af.below hbr4 hAd;have ka5:=hKo _ ka4;have has5:=AskAt.below has4 hAd hne.2;have hoe5:=bR.stable hoe4 hAd.size (fun b e=>hAd.block b (bR.lt hoe4 e));have hfk5:∀ b,Fp (.slice (some ⟨g,off,none⟩) m.evs.length ec) b->K5 b/\b≠bb/\b≠bb+1:=fun b e=>⟨hKo _ (hfk4 b e).1,(hfk4 b e).2⟩
    have hsd:=af.drew xG;have hr0:=af.below hr4 hA;have c0:World.cell? (wr.alloc (.cells y.cells 48)) ⟨cb,0,none⟩=some (.i (m.ks.length:Nat)):=by rw[<- HN.out.2.2];exact af.cell hr0 0
    have hbr0:BRow (wr.alloc (.cells y.cells 48)) bb a.busy:=af.below hbr4 hA;have bq:=hbr0.get hbi;have e0:World.cell? (wr.alloc (.cells y.cells 48)) ⟨wr.heap.size,0,none⟩=some (.bool y.ended):=af.cell xG 0;have e1:World.cell? (wr.alloc (.cells y.cells 48)) ⟨wr.heap.size,1,none⟩=some (.i (i:Nat)):=by rw[<- hwho];exact af.cell xG 1
    have e2:World.cell? (wr.alloc (.cells y.cells 48)) ⟨wr.heap.size,2,none⟩=some (.i y.at'):=af.cell xG 2;have dq:=BRow.get (l:=a.busy) hbr5 hbi;have d0:World.cell? (World.drew (wr.alloc (.cells y.cells 48))) ⟨wr.heap.size,0,none⟩=some (.bool y.ended):=af.cell hsd 0;have d1:World.cell? (World.drew (wr.alloc (.cells y.cells 48))) ⟨wr.heap.size,1,none⟩=some (.i (i:Nat)):=by rw[<- hwho];exact af.cell hsd 1
    have d2:World.cell? (World.drew (wr.alloc (.cells y.cells 48))) ⟨wr.heap.size,2,none⟩=some (.i y.at'):=af.cell hsd 2
    have e3:World.rangeAt (wr.alloc (.cells y.cells 48)).drew wr.heap.size 3 y.ask.cells.toList:=fun q v hv=>by
     have hq:q < 7:=(List.getElem?_eq_some_iff.1 hv).1;rw[af.cell hsd];have hq2:q=0\/q=1\/q=2\/q=3\/q=4\/q=5\/q=6:=ag
     rcases hq2 with rfl | rfl | rfl | rfl | rfl | rfl | rfl<;>exact hv
    have ea:y.ended=true->World.rangeAt (wr.alloc (.cells y.cells 48)).drew (bb+1) (i * 7) y.ask.cells.toList:=fun e=>(has5 i _ (hai e)).1
    have Yd:wr.heap.size≠bb/\wr.heap.size≠bb+1:=ag
    have hlte:wr.heap.size < (World.drew (wr.alloc (.cells y.cells 48))).heap.size:=au
    generalize (wr.alloc (.cells y.cells 48))=wx at *;generalize wr.heap.size=eb at *;have n1:decide (y.at'<=a.at')=false:=decide_eq_false ag;have n2:decide ((i:Int) < 0)=false:=decide_eq_false ag;have n3:decide ((m.ks.length:Int)<=(i:Int))=false:=decide_eq_false ag;have H5:=uH (And.intro h5 (And.intro kc5 (And.intro JK (And.intro kb5 (And.intro hbr5 (And.intro ka5 (And.intro has5 (And.intro hoe5 hfk5))))))));have H6:=uH (And.intro hsd (And.intro Yd (And.intro hlte hne)));have HJ:=uH (And.intro hnext (And.intro hbl (And.intro hal hwho)));clear hM h4 kc4 hr4 kb4 hbr4 ka4 has4 hoe4 hfk4 h5 kc5 JK kb5 hbr5 ka5 has5 hoe5 hfk5 hKo hAd hA xG hsd hr0 hbr0 Yd hlte hne hnext hbl hal hwho hy hbi hai hat hil hrg;generalize hya:y.at'=ya at *;generalize hye:y.ended=en at *;have hself:=fun w=>ask_self w y.ask
    go_upto_region 22 with(fail);cases en
    ·skip
     refine jr (S:=fun w'=>w'.cell? ⟨eb,0,none⟩=some (.bool false)/\w'.cell? ⟨eb,1,none⟩=some (.i (i:Nat))/\w'.cell? ⟨bb,i,none⟩=some (.bool false)/\w'.rangeAt eb 3 y.ask.cells.toList) (by exact⟨e0,e1,bq,e3⟩) (fun hHeld=>?_);refine tH 0 85 hHeld ?_;refine tH 1 86 hHeld ?_;refine tH 2 87 hHeld ?_;refine tH 3 88 hHeld ?_;refine tH 4 89 hHeld ?_;refine tH 5 90 hHeld ?_;refine tH 6 91 hHeld ?_;refine tH 7 92 hHeld ?_;refine tH 8 93 hHeld ?_;refine tH 9 94 hHeld ?_;refine tH 10 95 hHeld ?_;refine tH 11 96 hHeld ?_;refine sH 12 (some 97) hHeld ?_;refine sH 13 (some 98) hHeld ?_;refine sH 14 (some 99) hHeld ?_;refine sH 15 (some 100) hHeld ?_;refine sH 16 (some 101) hHeld ?_;refine sH 17 (some 102) hHeld ?_;refine sH 18 (some 103) hHeld ?_;refine sH 19 (some 104) hHeld ?_;refine tH 20 105 hHeld ?_;refine tH 21 106 hHeld ?_;refine iR ?_
     clear hHeld;generalize wx.drew=wy at *;clear e0 e1 e2 bq c0;obtain⟨h5,kc5,JK,kb5,hbr5,ka5,has5,hoe5,hfk5⟩:=H5.out;obtain⟨hsd,Yd,hlte,hne⟩:=H6.out;obtain⟨hnext,hbl,hal,hwho⟩:=HJ.out;have fr:wy.frozen? ⟨bb,i,none⟩=false:=af.frozen hbr5 i;have hcz:aD (fun b=>b=bb\/b=bb+1) wy (World.setCell wy ⟨bb,i,none⟩ (.bool true)):=(aD.refl _ _).setCell _ _ (fun _=>.inl rfl);have g1:World.cell? (World.setCell wy ⟨bb,i,none⟩ (.bool true)) ⟨eb,1,none⟩=some (.i (i:Nat)):=(hcz.cell (p:=⟨eb,1,none⟩) hlte (by rintro(e | e);exact Yd.1 e;exact Yd.2 e)).trans d1;have g3:World.rangeAt (World.setCell wy ⟨bb,i,none⟩ (.bool true)) eb 3 y.ask.cells.toList:=fun q v hv=>(hcz.cell (p:=⟨eb,3+q,none⟩) hlte (by rintro(e | e);exact Yd.1 e;exact Yd.2 e)).trans (e3 q v hv)
     have hcz1:aD (fun b=>b=bb) wy (World.setCell wy ⟨bb,i,none⟩ (.bool true)):=(aD.refl _ _).setCell _ _ (fun _=>rfl);have haz:AskAt (World.setCell wy ⟨bb,i,none⟩ (.bool true)) (bb+1) a.asks:=has5.aK hcz1 (h5.keep _ ka5).2 ag;have hil:i < a.asks.length:=by rw[hal];omega
     have hth:=(haz i _ (List.getElem?_eq_getElem hil)).2;have hcq:aD (fun b=>b=bb\/b=bb+1) wy (World.setCells (World.setCell wy ⟨bb,i,none⟩ (.bool true)) (bb+1) (i * 7) y.ask.cells.toList):=aD.setCells _ (.inr rfl) _ _ _ hcz;have hsz:(World.setCells (World.setCell wy ⟨bb,i,none⟩ (.bool true)) (bb+1) (i * 7) y.ask.cells.toList).heap.size=wy.heap.size:=by rw[setCells_size];simp
     have h7:=h5.aK hcq (by rintro b (rfl | rfl);exact kb5;exact ka5) (by rintro b (rfl | rfl)<;>have:=HCF.out.2.1<;>omega) hsz
     have hbz:BRow (World.setCells (World.setCell wy ⟨bb,i,none⟩ (.bool true)) (bb+1) (i * 7) y.ask.cells.toList) bb (a.next y).busy:=by
      have h8:=BRow.set (l:=a.busy) hbr5 i (!false);have hz:BRow (World.setCell wy ⟨bb,i,none⟩ (.bool true)) bb (a.busy.set i (!false)):=h8;have e:(a.next y).busy=a.busy.set i (!false):=by show a.busy.set y.who.toNat (!y.ended)=_;rw[hwho,hye];rfl
      rw[e];exact af.aK hz (aD.setCells (F:=fun b=>b=bb+1) _ rfl _ _ _ (aD.refl _ _)) ag
     have haq:AskAt (World.setCells (World.setCell wy ⟨bb,i,none⟩ (.bool true)) (bb+1) (i * 7) y.ask.cells.toList) (bb+1) (a.next y).asks:=by
      have e:(a.next y).asks=a.asks.set i y.ask:=by show a.asks.set y.who.toNat y.ask=_;rw[hwho];rfl
      rw[e];exact haz.set hil y.ask
     have hoq:=bR.stable hoe5 hcq.size (fun b e=>hcq.block b (bR.lt hoe5 e) (by rintro(e2 | e2);exact(hfk5 b e).2.1 e2;exact(hfk5 b e).2.2 e2));have hrq:af (World.setCells (World.setCell wy ⟨bb,i,none⟩ (.bool true)) (bb+1) (i * 7) y.ask.cells.toList) cb c.cells 27:=af.aK JK hcq (by rintro(e2 | e2)<;>have:=HCF.out.2.2.2<;>omega)
     have H7:RowKit.Hid (∃ p K,Lb W K gb k (World.setCells (World.setCell wy ⟨bb,i,none⟩ (.bool true)) (bb+1) (i * 7) y.ask.cells.toList) p m/\K cb/\af (World.setCells (World.setCell wy ⟨bb,i,none⟩ (.bool true)) (bb+1) (i * 7) y.ask.cells.toList) cb c.cells 27/\K bb/\BRow (World.setCells (World.setCell wy ⟨bb,i,none⟩ (.bool true)) (bb+1) (i * 7) y.ask.cells.toList) bb ((Seen.zero m.ks.length).run (m.evs.take (j+1))).busy/\K (bb+1)/\AskAt (World.setCells (World.setCell wy ⟨bb,i,none⟩ (.bool true)) (bb+1) (i * 7) y.ask.cells.toList) (bb+1) ((Seen.zero m.ks.length).run (m.evs.take (j+1))).asks/\bR (World.setCells (World.setCell wy ⟨bb,i,none⟩ (.bool true)) (bb+1) (i * 7) y.ask.cells.toList) (.slice (some ⟨g,off,none⟩) m.evs.length ec) m.evs.length 18 (gL m.evs)/\(∀ b,Fp (.slice (some ⟨g,off,none⟩) m.evs.length ec) b->K b/\b≠bb/\b≠bb+1)):=by
      rw[<- hnext];exact uH ⟨p5,K5,h7,kc5,hrq,kb5,hbz,ka5,haq,hoq,hfk5⟩
     have hyat:ya=((Seen.zero m.ks.length).run (m.evs.take (j+1))).at':=by rw[<- hnext];exact hya.symm
     clear h5 kc5 JK kb5 hbr5 ka5 has5 hoe5 hfk5 hsd hnext hbl hal hwho hcz hcz1 haz hil hcq hsz h7 hbz haq hoq hrq H5 H6 HJ;have heb1:¬ eb=bb:=Yd.1;have aaU:¬ bb=eb:=fun e=>Yd.1 e.symm
     go_upto_region 26 with(fail);refine wp_region_lit ?_;refine gl (.slice (some ⟨bb+1,0,none⟩) m.ks.length m.ks.length) (ay ?_)
     refine gl (.pointer (some ⟨eb,1,none⟩)) (ay ?_) (by go_simp;try rfl)
     refine gl (.i (i:Nat)) (ay ?_) (by go_simp;try rfl)
     refine gl (.pointer (some ⟨eb,3,none⟩)) (ay ?_) (by go_simp;try rfl)
     refine VG g3 35 (.tmp 119) underlying35 (ay ?_)
     refine gl (.pointer (some ⟨bb+1,i * 7,none⟩)) (ay ?_) (by go_simp;try rfl)
     refine wpList_store_mid rfl 35 (.tmp 121) (.tmp 120) rfl (bb+1) (i * 7) y.ask.cells ax ax hth ax ax (ay ?_)
     refine wpList_nil ?_;generalize (World.setCells (World.setCell wy ⟨bb,i,none⟩ (.bool true)) (bb+1) (i * 7) y.ask.cells.toList)=wq at *;clear hth g1 g3 fr d0 d1 d2 dq e3 ea n1 n2 n3 hself;clear hya hye
     try rw[hyat]
     clear hyat;go_wp2_with fail;refine⟨⟨j+1,ag,rfl,by go_num,H7⟩,?_⟩
     first | (simp[intOf];done) | (simp[intOf];omega)
    ·skip
     refine jr (S:=fun w'=>w'.cell? ⟨eb,0,none⟩=some (.bool true)/\w'.cell? ⟨eb,1,none⟩=some (.i (i:Nat))/\w'.cell? ⟨bb,i,none⟩=some (.bool true)/\w'.rangeAt eb 3 y.ask.cells.toList/\w'.rangeAt (bb+1) (i * 7) y.ask.cells.toList) (by exact⟨e0,e1,bq,e3,ea rfl⟩) (fun hHeld=>?_);refine tH 0 85 hHeld ?_;refine tH 1 86 hHeld ?_;refine tH 2 87 hHeld ?_;refine tH 3 88 hHeld ?_;refine tH 4 89 hHeld ?_;refine tH 5 90 hHeld ?_;refine tH 6 91 hHeld ?_;refine tH 7 92 hHeld ?_;refine tH 8 93 hHeld ?_;refine tH 9 94 hHeld ?_;refine tH 10 95 hHeld ?_;refine tH 11 96 hHeld ?_;refine tH 12 97 hHeld ?_;refine tH 13 98 hHeld ?_;refine tH 14 99 hHeld ?_;refine tH 15 100 hHeld ?_
     refine iC (gd:=some (11,true)) 16 101 (.load 35 (.tmp 100)) (.agg y.ask.cells) (ru 35 (.tmp 100) (bb+1) (i * 7) y.ask.cells.toList _ ax underlying35 rfl ax (fun w h=>h.2.2.2.2)) hHeld (ay ?_)
     refine tH 17 102 hHeld ?_;refine iC (gd:=some (11,true)) 18 103 (.load 35 (.tmp 102)) (.agg y.ask.cells) (ru 35 (.tmp 102) eb 3 y.ask.cells.toList _ ax underlying35 rfl ax (fun w h=>h.2.2.2.1)) hHeld (ay ?_)
     refine tH 19 104 hHeld ?_;refine tH 20 105 hHeld ?_;refine tH 21 106 hHeld ?_;refine iR ?_;clear hHeld;generalize wx.drew=wy at *;clear e0 e1 e2 bq c0;obtain⟨h5,kc5,JK,kb5,hbr5,ka5,has5,hoe5,hfk5⟩:=H5.out;obtain⟨hsd,Yd,hlte,hne⟩:=H6.out;obtain⟨hnext,hbl,hal,hwho⟩:=HJ.out;have fr:wy.frozen? ⟨bb,i,none⟩=false:=af.frozen hbr5 i;have hcz:aD (fun b=>b=bb\/b=bb+1) wy (World.setCell wy ⟨bb,i,none⟩ (.bool false)):=(aD.refl _ _).setCell _ _ (fun _=>.inl rfl);have g1:World.cell? (World.setCell wy ⟨bb,i,none⟩ (.bool false)) ⟨eb,1,none⟩=some (.i (i:Nat)):=(hcz.cell (p:=⟨eb,1,none⟩) hlte (by rintro(e | e);exact Yd.1 e;exact Yd.2 e)).trans d1;have g3:World.rangeAt (World.setCell wy ⟨bb,i,none⟩ (.bool false)) eb 3 y.ask.cells.toList:=fun q v hv=>(hcz.cell (p:=⟨eb,3+q,none⟩) hlte (by rintro(e | e);exact Yd.1 e;exact Yd.2 e)).trans (e3 q v hv)
     have hcz1:aD (fun b=>b=bb) wy (World.setCell wy ⟨bb,i,none⟩ (.bool false)):=(aD.refl _ _).setCell _ _ (fun _=>rfl);have haz:AskAt (World.setCell wy ⟨bb,i,none⟩ (.bool false)) (bb+1) a.asks:=has5.aK hcz1 (h5.keep _ ka5).2 ag;have hil:i < a.asks.length:=by rw[hal];omega
     have hth:=(haz i _ (List.getElem?_eq_getElem hil)).2;have hcq:aD (fun b=>b=bb\/b=bb+1) wy (World.setCells (World.setCell wy ⟨bb,i,none⟩ (.bool false)) (bb+1) (i * 7) y.ask.cells.toList):=aD.setCells _ (.inr rfl) _ _ _ hcz;have hsz:(World.setCells (World.setCell wy ⟨bb,i,none⟩ (.bool false)) (bb+1) (i * 7) y.ask.cells.toList).heap.size=wy.heap.size:=by rw[setCells_size];simp
     have h7:=h5.aK hcq (by rintro b (rfl | rfl);exact kb5;exact ka5) (by rintro b (rfl | rfl)<;>have:=HCF.out.2.1<;>omega) hsz
     have hbz:BRow (World.setCells (World.setCell wy ⟨bb,i,none⟩ (.bool false)) (bb+1) (i * 7) y.ask.cells.toList) bb (a.next y).busy:=by
      have h8:=BRow.set (l:=a.busy) hbr5 i (!true);have hz:BRow (World.setCell wy ⟨bb,i,none⟩ (.bool false)) bb (a.busy.set i (!true)):=h8;have e:(a.next y).busy=a.busy.set i (!true):=by show a.busy.set y.who.toNat (!y.ended)=_;rw[hwho,hye];rfl
      rw[e];exact af.aK hz (aD.setCells (F:=fun b=>b=bb+1) _ rfl _ _ _ (aD.refl _ _)) ag
     have haq:AskAt (World.setCells (World.setCell wy ⟨bb,i,none⟩ (.bool false)) (bb+1) (i * 7) y.ask.cells.toList) (bb+1) (a.next y).asks:=by
      have e:(a.next y).asks=a.asks.set i y.ask:=by show a.asks.set y.who.toNat y.ask=_;rw[hwho];rfl
      rw[e];exact haz.set hil y.ask
     have hoq:=bR.stable hoe5 hcq.size (fun b e=>hcq.block b (bR.lt hoe5 e) (by rintro(e2 | e2);exact(hfk5 b e).2.1 e2;exact(hfk5 b e).2.2 e2));have hrq:af (World.setCells (World.setCell wy ⟨bb,i,none⟩ (.bool false)) (bb+1) (i * 7) y.ask.cells.toList) cb c.cells 27:=af.aK JK hcq (by rintro(e2 | e2)<;>have:=HCF.out.2.2.2<;>omega)
     have H7:RowKit.Hid (∃ p K,Lb W K gb k (World.setCells (World.setCell wy ⟨bb,i,none⟩ (.bool false)) (bb+1) (i * 7) y.ask.cells.toList) p m/\K cb/\af (World.setCells (World.setCell wy ⟨bb,i,none⟩ (.bool false)) (bb+1) (i * 7) y.ask.cells.toList) cb c.cells 27/\K bb/\BRow (World.setCells (World.setCell wy ⟨bb,i,none⟩ (.bool false)) (bb+1) (i * 7) y.ask.cells.toList) bb ((Seen.zero m.ks.length).run (m.evs.take (j+1))).busy/\K (bb+1)/\AskAt (World.setCells (World.setCell wy ⟨bb,i,none⟩ (.bool false)) (bb+1) (i * 7) y.ask.cells.toList) (bb+1) ((Seen.zero m.ks.length).run (m.evs.take (j+1))).asks/\bR (World.setCells (World.setCell wy ⟨bb,i,none⟩ (.bool false)) (bb+1) (i * 7) y.ask.cells.toList) (.slice (some ⟨g,off,none⟩) m.evs.length ec) m.evs.length 18 (gL m.evs)/\(∀ b,Fp (.slice (some ⟨g,off,none⟩) m.evs.length ec) b->K b/\b≠bb/\b≠bb+1)):=by
      rw[<- hnext];exact uH ⟨p5,K5,h7,kc5,hrq,kb5,hbz,ka5,haq,hoq,hfk5⟩
     have hyat:ya=((Seen.zero m.ks.length).run (m.evs.take (j+1))).at':=by rw[<- hnext];exact hya.symm
     clear h5 kc5 JK kb5 hbr5 ka5 has5 hoe5 hfk5 hsd hnext hbl hal hwho hcz hcz1 haz hil hcq hsz h7 hbz haq hoq hrq H5 H6 HJ;have heb1:¬ eb=bb:=Yd.1;have aaU:¬ bb=eb:=fun e=>Yd.1 e.symm
     go_upto_region 26 with(fail);refine wp_region_lit ?_;refine gl (.slice (some ⟨bb+1,0,none⟩) m.ks.length m.ks.length) (ay ?_)
     refine gl (.pointer (some ⟨eb,1,none⟩)) (ay ?_) (by go_simp;try rfl)
     refine gl (.i (i:Nat)) (ay ?_) (by go_simp;try rfl)
     refine gl (.pointer (some ⟨eb,3,none⟩)) (ay ?_) (by go_simp;try rfl)
     refine VG g3 35 (.tmp 119) underlying35 (ay ?_)
     refine gl (.pointer (some ⟨bb+1,i * 7,none⟩)) (ay ?_) (by go_simp;try rfl)
     refine wpList_store_mid rfl 35 (.tmp 121) (.tmp 120) rfl (bb+1) (i * 7) y.ask.cells ax ax hth ax ax (ay ?_)
     refine wpList_nil ?_;generalize (World.setCells (World.setCell wy ⟨bb,i,none⟩ (.bool false)) (bb+1) (i * 7) y.ask.cells.toList)=wq at *;clear hth g1 g3 fr d0 d1 d2 dq e3 ea n1 n2 n3 hself;clear hya hye
     try rw[hyat]
     clear hyat;go_wp2_with fail;refine⟨⟨j+1,ag,rfl,by go_num,H7⟩,?_⟩
     first | (simp[intOf];done) | (simp[intOf];omega)
  obtain⟨ta2,tc2,e0,Ai,htc⟩:=HL2.out;obtain⟨tn,htn⟩:∃ tn,l[k]? =some tn:=⟨_,List.getElem?_eq_getElem hlt⟩
  obtain⟨t0,t1,t2,t3,t4,t5⟩:=Ai tn (List.mem_of_getElem? htn)
  rcases htc with rfl | ⟨tg,MV,e1,htc⟩
  ·simp at hlt
  injection e0 with e0 e2 e3
  subst e3;subst e1;subst e0;have hrg:∀ w,(fun w'=>Below W.heap.size W w'/\af w' cb c.cells 27) w->w.rangeAt tg (MV+k * 6) tn.cells.toList:=fun w hS j u hu=>(hS.1.cell (dN (htc k tn htn j u (by rw[Array.getElem?_toList]at hu;exact hu)))).trans (htc k tn htn j u (by rw[Array.getElem?_toList]at hu;exact hu))
  have hrr:∀ w,(fun w'=>Below W.heap.size W w'/\af w' cb c.cells 27) w->af w cb c.cells 27:=fun w hS=>hS.2
  have UC:=hB.good.ok.evs;have hmo:=hB.good.ok;have hev:=nT (hB.at'.rest (Below.refl wr.heap.size wr).drew) ag;rw[show({p with ow:=fun b=>if b < wr.heap.size then p.ow b else 0}:Mp).gb=gb from hB.gb]at hev;have hent:=fun w (v:Value) hv=>yz w tn.k tn.w tn.o tn.s tn.g tn.n t0 t1 t2 t3 t4 t5 c hcr v m.evs ag hv
  have b0:(0:Int)<=(k:Int):=ag
  have b1:(k:Int) < (l.length:Int):=ag
  clear htc Ai htn t0 t1 t2 t3 t4 t5 UC;go_upto_region 11 with(fail);refine jr (S:=(fun w'=>Below W.heap.size W w'/\af w' cb c.cells 27)) (by exact⟨hB.pF.trans ((Below.refl wr.heap.size wr).drew.mono hB.pF.size),af.drew hrc⟩) (fun hHeld=>?_);refine tH 0 41 hHeld ?_;refine tH 1 42 hHeld ?_;refine tH 2 43 hHeld ?_;refine tH 3 44 hHeld ?_;refine iC (gd:=none) 4 45 (.load 40 (.tmp 44)) (.agg tn.cells.toList.toArray) (ru 40 (.tmp 44) tg (MV+k * 6) tn.cells.toList _ ax underlying40 rfl ax hrg) hHeld (ay ?_)
  refine iC (gd:=none) 5 46 (.load 27 (.tmp 6)) (.agg c.cells) (aM 27 (.tmp 6) cb 27 c.cells _ ax underlying27 rfl ax hrr) hHeld (ay ?_)
  refine tH 6 47 hHeld ?_;clear hrg hrr;refine aX (i:=7) ax <| bI 23 #[.tmp 47] #[29] (some 48) none ax ax #[ptr gb] ax (aH func23) ?_
  refine hev.mono ?_;rintro e we ⟨ea,ec,rfl,hoe,-,hbe⟩;have Gd:Below wr.heap.size wr we:=(Below.refl wr.heap.size wr).drew.trans hbe;refine⟨_,rfl,⟨hB.pF.trans (Gd.mono hB.pF.size),af.below hrc Gd⟩,fun hHeld=>ay ?_⟩
  refine aX (i:=8) ax <| bI 22 #[.tmp 45,.tmp 46,.tmp 48] #[40,27,41] (some 49) none ax ax #[.agg #[.int .u8 tn.k,.int .u8 tn.w,.int .u8 tn.o,.int .u8 tn.s,.int .u8 tn.g,.int .u8 tn.n],c.val,.slice ea m.evs.length ec] ax (aH func22) ?_
  refine(hent _ _ hoe).mono ?_;rintro e wn ⟨x,rfl,hx,hbn⟩;have hbN:Below wr.heap.size wr wn:=Gd.trans (hbn.mono Gd.size);refine⟨_,rfl,⟨hB.pF.trans (hbN.mono hB.pF.size),af.below hrc hbN⟩,fun hHeld=>ay ?_⟩
  obtain⟨p9,K9,h9,hKo,-⟩:=hB.more hbN;have Jr:=hKo cb hKc;have hd:=h9.do ag x ⟨by have:=hx.2;omega,by have:=hx.2;omega⟩
  have ym:=af.below hrc hbN;refine aX (i:=9) ax <| bI 21 #[.tmp 41,.tmp 49] #[29,37] (some 50) none ax ax #[ptr gb,.agg x.cells] ax (aH func21) ?_
  refine hd.mono ?_;rintro e dH ⟨rfl,p10,h10,nJ⟩;have E8:=nJ.row Jr ym;refine⟨_,rfl,⟨h10.pF,E8⟩,fun hHeld=>ay ?_⟩
  refine iR ?_;have Js:(m.lG x).2.cf=c:=(QV m x).trans hcf;clear hd nJ h9 ym hbN hbn Gd hbe hoe hev hent hKo hHeld;have hen2:=hen.lG hmo x
  clear hen hmo hM hB hrc hKc hcf;generalize (m.lG x).2=m2 at *;have H15:RowKit.Hid (∃ p m K,Lb W K gb (k+1) dH p m/\m.cf=c/\K cb/\af dH cb c.cells 27/\Ends m):=uH ⟨p10,m2,K9,h10,Js,Jr,E8,hen2⟩;clear h10 Jr E8 hen2;go_wp2_with fail
  go_roundw
  case rel=>exact⟨k+1,ag,by go_num,H15⟩
  case measure=>first | (simp[intOf];done) | (simp[intOf];omega)
end Mc
end Go.Proofs.YtpbambdakpomhaaGreatDoor
