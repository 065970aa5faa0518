/- Part 1 of the walks and plain laws that the last text joins. -/
import Derived.Test.YtbklamnimfmjkaaGreatDoorProg
import Derived.WalkKit
import Derived.ProofKit
import Derived.ArgAppend
import Derived.OwnWalkIn
import Derived.RangeFuncOwn
import Derived.Below
import Derived.Laws.Rows
import Derived.Laws.Tables
import Derived.Laws.ResultCell
import Derived.Laws.CopyOwn
import Derived.Deep.RegionHeld3
import Derived.Deep.MidRow
import Derived.OpenShut
import Derived.SliceStrings
import Derived.Deep.Grids
import Derived.Lib.Hide
import Derived.Deep.QuietTactic
import Derived.BigQuiet
import Derived.Deep.DeepCutAuto
import Derived.RangeFuncNested
import Derived.RangeFuncBound
import Derived.RangeFuncCalls
import Derived.RangeFuncLeaves
import Derived.Shelf.Abstract
import Derived.Shelf.RegionOpen
import Derived.TacticsInMore
import Derived.LoopNIn
import Derived.LoopIn
import Derived.Laws.BitsLemmas
set_option maxRecDepth 100000
set_option maxHeartbeats 16000000
set_option linter.all false
open Go.Proofs.Tryz
namespace Go.Proofs.YtbklamnimfmjkaaGreatDoor
open Go.RowKit
abbrev _root_.Go.Value.i (n : Int) : Value := .int .i64 n
abbrev Zv : Array Value := #[.bool false, .i 0, .i 0, .i 0, .i 0, .bool false, .bool false, .i 0, .i 0, .i 0, .i 0, .i 0, .i 0, .i 0, .i 0, .i 0, .i 0, .i 0]
abbrev Zw : Array Value := #[.bool false, .bool false, .i 0, .i 0, .i 0, .bool false, .bool false, .i 0, .i 0, .i 0]
abbrev Zs : Array Value := #[.i 0, .i 0, .i 0, .bool false, .bool false, .i 0, .i 0, .i 0, .i 0]
abbrev Zf : Array Value := #[.bool false, .i 0, .i 0, .i 0, .i 0, .bool false, .bool false, .i 0, .i 0, .i 0, .i 4, .i 0, .i 0, .i 0, .i 0, .i 0, .i 0, .i 0]
abbrev Zg : Array Value := #[.bool false, .i 0, .i 0, .i 0, .i 0, .bool false, .bool false, .i 0, .i 0, .i 0, .i 5, .i 0, .i 0, .i 0, .i 0, .i 0, .i 0, .i 0]
abbrev Aa (x0 : Int) (x1 : Int) (x2 : Int) (x3 : Bool) (x4 : Bool) (x5 : Int) (x6 : Int) (x7 : Int) (x8 : Int) : Array Value := #[.i x0, .i x1, .i x2, .bool x3, .bool x4, .i x5, .i x6, .i x7, .i x8]
abbrev Ab (x0 : Int) (x1 : Int) (x2 : Int) (x3 : Int) (x4 : Int) : Array Value := #[.i x0, .i x1, .i x2, .i x3, .i x4]
abbrev Ac (x0 : Int) (x1 : Int) (x2 : Int) (x3 : Int) (x4 : Int) (x5 : Int) (x6 : Int) (x7 : Int) (x8 : Int) (x9 : Int) (Bg : Int) (Vr : Int) (Vs : Int) (Vt : Int) (JF : Int) (Vu : Int) (Vv : Int) (Vw : Int) : Array Value := #[.i x0, .i x1, .i x2, .i x3, .i x4, .i x5, .i x6, .i x7, .i x8, .i x9, .i Bg, .i Vr, .i Vs, .i Vt, .i JF, .i Vu, .i Vv, .i Vw]
abbrev Ad (x0 : Int) (x1 : Int) (x2 : Int) (x3 : Int) (x4 : Int) (x5 : Int) (x6 : Int) (x7 : Int) (x8 : Int) : Array Value := #[.i x0, .i x1, .i x2, .i x3, .i x4, .i x5, .i x6, .i x7, .i x8]
abbrev Ae (x0 : Int) (x1 : Int) (x2 : Int) (x3 : Bool) (x4 : Bool) (x5 : Int) (x6 : Int) (x7 : Int) (x8 : Int) (x9 : Int) (Bg : Int) : Array Value := #[.i x0, .i x1, .i x2, .bool x3, .bool x4, .i x5, .i x6, .i x7, .i x8, .i x9, .i Bg]
abbrev Af (x0 : Int) (x1 : Int) (x2 : Int) (x3 : Int) (x4 : Int) (x5 : Int) (x6 : Int) (x7 : Int) (x8 : Int) (x9 : Bool) : Array Value := #[.i x0, .i x1, .i x2, .i x3, .i x4, .i x5, .i x6, .i x7, .i x8, .bool x9]
abbrev Ag (x0 : Int) (x1 : Int) (x2 : Bool) (x3 : Bool) (x4 : Int) (x5 : Int) (x6 : Int) : Array Value := #[.i x0, .i x1, .bool x2, .bool x3, .i x4, .i x5, .i x6]
abbrev Ah (x0 : Int) (x1 : Int) (x2 : Int) (x3 : Int) (x4 : Bool) (x5 : Bool) (x6 : Int) (x7 : Int) (x8 : Int) (x9 : Int) (Bg : Bool) : Array Value := #[.i x0, .i x1, .i x2, .i x3, .bool x4, .bool x5, .i x6, .i x7, .i x8, .i x9, .bool Bg]
namespace Hp
open Go.RowKit
def Fp (v:Value) (k:Nat):Prop:=∃ a n c,v=.slice (some a) n c/\a.block=k
theorem dP (k:Nat):¬ Fp (.slice none 0 0) k:=by rintro⟨a,n,c,h,_⟩;cases h
theorem fF (a:Addr) (n c k:Nat):Fp (.slice (some a) n c) k↔a.block=k:=
 ⟨by rintro⟨a',n',c',h,e⟩;cases h;exact e,fun h=>⟨a,n,c,rfl,h⟩⟩
structure aD (F:Nat->Prop) (w w':World):Prop where
 os:w'.os=w.os
 tape:w'.tape=w.tape
 output:w'.output=w.output
 size:w.heap.size<=w'.heap.size
 block:∀ k,k < w.heap.size->¬ F k->w'.heap[k]? =w.heap[k]?
section
variable {F G:Nat->Prop} {w w' a b c:World}
theorem aD.refl (F:Nat->Prop) (w:World):aD F w w:=⟨rfl,rfl,rfl,Nat.le_refl _,fun _ _ _=>rfl⟩
theorem aD.trans (h:aD F a b) (k:aD G b c) (hg:∀ i,i < a.heap.size->G i->F i):aD F a c:=
 ⟨k.os.trans h.os,k.tape.trans h.tape,k.output.trans h.output,Nat.le_trans h.size k.size,fun i hi hf=>
  (k.block i (Nat.lt_of_lt_of_le hi h.size) (fun hh=>hf (hg i hi hh))).trans (h.block i hi hf)⟩
theorem aD.mono (h:aD F a b) (hg:∀ i,i < a.heap.size->F i->G i):aD G a b:=
 ⟨h.os,h.tape,h.output,h.size,fun i hi hf=>h.block i hi (fun hh=>hf (hg i hi hh))⟩
theorem aD.drew (h:aD F a b):aD F a b.drew:=⟨h.os,h.tape,h.output,h.size,h.block⟩
theorem aD.alloc (h:aD F a b) (o:Obj):aD F a (b.alloc o):=
 ⟨h.os,h.tape,h.output,by have:=h.size;simp;omega,fun k hk hf=>(Below.heap_alloc _ _ _ (Nat.lt_of_lt_of_le hk h.size)).trans (h.block k hk hf)⟩
theorem aD.setCell (h:aD F a b) (p:Addr) (u:Value) (hp:p.block < a.heap.size->F p.block):aD F a (b.setCell p u):=
 ⟨h.os,h.tape,h.output,by have:=h.size;simpa [World.setCell] using this,fun k hk hf=>
  (Below.heap_setCell _ _ _ _ (fun e=>hf (by rw[e];exact hp (by rw[<- e];exact hk)))).trans (h.block k hk hf)⟩
theorem aD.aF (h:Below w.heap.size w w'):aD F w w':=⟨h.os,h.tape,h.output,h.size,fun k hk _=>h.block k hk⟩
theorem aD.below {B:Nat} (h:aD F w w') (hB:B<=w.heap.size) (hF:∀ k,F k->B<=k):Below B w w':=
 ⟨h.os,h.tape,h.output,h.size,fun k hk=>h.block k (Nat.lt_of_lt_of_le hk hB) (fun hh=>by have:=hF k hh;omega)⟩
theorem aD.cell (h:aD F w w') {p:Addr} (hp:p.block < w.heap.size) (hf:¬ F p.block):w'.cell? p=w.cell? p:=World.cell?_of_block (w:=w) (h.block _ hp hf)
theorem aD.frozen (h:aD F w w') {p:Addr} (hp:p.block < w.heap.size) (hf:¬ F p.block):w'.frozen? p=w.frozen? p:=World.frozen?_of_block (w:=w) (h.block _ hp hf)
end
def F6 (w:World) (g:Nat):Prop:=∃ o:Obj,w.heap[g]? =some o/\o.isCells=true
variable {w:World}
theorem F6.lt {g:Nat} (h:F6 w g):g < w.heap.size:=by obtain⟨o,h,_⟩:=h;exact(Array.getElem?_eq_some_iff.1 h).1
theorem F6.same {w':World} {g:Nat} (h:F6 w g) (e:w'.heap[g]? =w.heap[g]?):F6 w' g:=by obtain⟨o,h1,h2⟩:=h;exact⟨o,e.trans h1,h2⟩
theorem F6.setCell {g:Nat} (h:F6 w g) (p:Addr) (v:Value):F6 (w.setCell p v) g:=by
 obtain⟨o,h1,h2⟩:=h
 by_cases e:g=p.block
 ·subst e;refine⟨_,by simp only[World.setCell,Array.getElem?_modify,if_true,h1];rfl,?_⟩;cases o<;>simp_all [Obj.isCells]
 ·exact⟨o,(Below.heap_setCell w p v g e).trans h1,h2⟩
theorem F6.setCells {g:Nat} (b:Nat):∀ (vs:List Value) (o:Nat) {w:World} (h:F6 w g),F6 (w.setCells b o vs) g
 | [],_,_,h=>h
 | v :: r,o,_,h=>F6.setCells b r (o+1) (h.setCell _ _)
theorem F7 (w:World) (x:Value) (T:TypeId):∀ j u,[x][j]? =some u->(w.alloc (.cells #[x] T)).cell? ((⟨w.heap.size,0,none⟩:Addr).add j)=some u:=by
 intro j u hu
 cases j with
 | zero=>simp at hu;subst hu;simp[Addr.add]
 | succ j=>simp at hu
def bR (w:World) (v:Value) (n size:Nat) (xs:List Value):Prop:=
 xs.length=n * size/\((v=.slice none 0 0/\n=0)\/∃ g off cap,v=.slice (some ⟨g,off,none⟩) n cap/\n<=cap/\cap<=maxLen/\F6 w g/\
  (∀ j,j < cap * size->(w.cell? ⟨g,off+j,none⟩).isSome=true)/\(∀ j,j < cap * size->w.frozen? ⟨g,off+j,none⟩=false)/\∀ j u,xs[j]? =some u->w.cell? ⟨g,off+j,none⟩=some u)
section
variable {w w':World} {v:Value} {n size:Nat} {xs:List Value}
theorem fG (w:World) (size:Nat):bR w (.slice none 0 0) 0 size []:=⟨by simp,.inl ⟨rfl,rfl⟩⟩
theorem bR.lt (h:bR w v n size xs) {k:Nat} (hk:Fp v k):k < w.heap.size:=by
 rcases h.2 with⟨rfl,_⟩ | ⟨g,off,cap,rfl,_,_,hg,_⟩
 ·exact(dP _ hk).elim
 ·rw[fF]at hk;subst hk;exact hg.lt
theorem bR.stable (h:bR w v n size xs) (hs:w.heap.size<=w'.heap.size) (hb:∀ k,Fp v k->w'.heap[k]? =w.heap[k]?):bR w' v n size xs:=by
 refine⟨h.1,?_⟩
 rcases h.2 with h2 | ⟨g,off,cap,rfl,h1,h2,hg,h3,h4,h5⟩
 ·exact .inl h2
 ·have e:∀ j,w'.cell? ⟨g,off+j,none⟩=w.cell? ⟨g,off+j,none⟩:=fun j=>World.cell?_of_block (hb g ((fF _ _ _ _).2 rfl))
  have f:∀ j,w'.frozen? ⟨g,off+j,none⟩=w.frozen? ⟨g,off+j,none⟩:=fun j=>World.frozen?_of_block (hb g ((fF _ _ _ _).2 rfl))
  exact .inr ⟨g,off,cap,rfl,h1,h2,hg.same (hb g ((fF _ _ _ _).2 rfl)),fun j hj=>by rw[e];exact h3 j hj,fun j hj=>by rw[f];exact h4 j hj,fun j u hu=>by rw[e];exact h5 j u hu⟩
theorem bR.aK {F:Nat->Prop} (h:bR w v n size xs) (hc:aD F w w') (hf:∀ k,Fp v k->¬ F k):bR w' v n size xs:=
 h.stable hc.size fun k hk=>hc.block k (h.lt hk) (hf k hk)
theorem bR.alloc (h:bR w v n size xs) (o:Obj):bR (w.alloc o) v n size xs:=
 h.aK (F:=fun _=>False) ((aD.refl _ _).alloc o) (fun _ _=>id)
theorem bR.drew (h:bR w v n size xs):bR w.drew v n size xs:=h.stable (Nat.le_refl _) fun _ _=>rfl
theorem bR.len (h:bR w v n size xs):n<=9223372036854775807:=by
 rcases h.2 with⟨_,rfl⟩ | ⟨g,off,cap,rfl,h1,h2,_⟩
 ·omega
 ·unfold maxLen at h2;omega
theorem bR.form (h:bR w v n size xs):∃ a c,v=.slice a n c:=by
 rcases h.2 with⟨rfl,rfl⟩ | ⟨g,off,cap,rfl,_⟩
 ·exact⟨_,_,rfl⟩
 ·exact⟨_,_,rfl⟩
theorem bR.some (h:bR w v n size xs) (h0:0 < n):∃ g off cap,v=.slice (some ⟨g,off,none⟩) n cap/\n<=cap/\cap<=maxLen/\F6 w g/\
  (∀ j,j < cap * size->(w.cell? ⟨g,off+j,none⟩).isSome=true)/\(∀ j,j < cap * size->w.frozen? ⟨g,off+j,none⟩=false)/\∀ j u,xs[j]? =some u->w.cell? ⟨g,off+j,none⟩=some u:=by
 rcases h.2 with⟨_,rfl⟩ | r
 ·omega
 ·exact r
end
theorem nO {base:Nat} {e:TypeId} {size:Nat} {v:Value} {n:Nat} {xs:List Value} (h:w.ownsRow base e size v n xs):bR w v n size xs:=by
 refine⟨h.1,?_⟩
 rcases h.2 with h2 | ⟨g,cap,cur,rfl,hb,hg,h1,h2,h3,h4⟩
 ·exact .inl h2
 ·have hc:∀ j,w.cell? ⟨g,0+j,none⟩=cur[j]?:=fun j=>by rw[Nat.zero_add];exact cell_of_row w g j cur e (0,0) hg
  refine .inr ⟨g,0,cap,rfl,h1,h2,⟨_,hg,rfl⟩,fun j hj=>?_,fun j hj=>?_,fun j u hu=>?_⟩
  ·rw[hc,Array.getElem?_eq_getElem (by omega)];rfl
  ·simp[World.frozen?,hg]
  ·rw[hc];rw[<- h4,List.getElem?_take]at hu
   split at hu
   ·simpa using hu
   ·cases hu
theorem xq {w':World} {r:Option Nat} (h:w.grownBy w' r):aD (fun k=>r=some k) w w':=
 ⟨h.os,h.tape,h.output,h.size,fun k hk hf=>h.block k hk (fun e=>hf e.symm)⟩
theorem ek (b:Nat):∀ (vs:List Value) (o:Nat) (w:World),aD (fun k=>k=b) w (w.setCells b o vs)
 | [],_,w=>aD.refl _ w
 | v :: r,o,w=>aD.trans (G:=fun k=>k=b) ((aD.refl _ w).setCell ⟨b,o,none⟩ v (fun _=>rfl)) (ek b r (o+1) _) (fun _ _ h=>h)
theorem pR {P:Program} (w:World) (t ty e:TypeId) (i:TypeInfo) (z:Value) (size bytes:Nat) (h1:P.underlying t=some (.slice e)) (h2:P.info? e=some i) (h3:i.zero=some z) (h4:i.size=size) (h5:i.bytes=bytes) (h6:z.cells.size=size) (h7:0 < size)
  (v:Value) (n:Nat) (xs:List Value) (hown:bR w v n size xs)
  (ad:Addr) (m c:Nat) (news:List Value) (hn:news.length=m * size) (hc:∀ j u,news[j]? =some u->w.cell? (ad.add j)=some u) (h1c:∀ u ∈ news,u.oneCell'=true)
  (b1:n+m<=maxLen) (b2:(n+m) * bytes<=140737488355328):
  ∃ a' c' w',(Builtin.append_ #[t,t] ty #[v,.slice (some ad) m c]).run P w=.ok (.slice a' (n+m) c') w'/\bR w' (.slice a' (n+m) c') (n+m) size (xs ++ news)/\
   (∀ k,Fp (.slice a' (n+m) c') k->Fp v k\/w.heap.size<=k)/\aD (Fp v) w w':=by
 have fin:∀ (v':Value) (w':World),w'.ownsRow w.heap.size e size v' (n+m) (xs ++ news)->w.grownBy w' none->∃ a' c',v'=.slice a' (n+m) c'/\bR w' (.slice a' (n+m) c') (n+m) size (xs ++ news)/\
   (∀ k,Fp (.slice a' (n+m) c') k->Fp v k\/w.heap.size<=k)/\aD (Fp v) w w':=by
  intro v' w' ho hgr;have hO:=nO ho;obtain⟨a',c',rfl⟩:=hO.form;refine⟨a',c',rfl,hO,fun k hk=>.inr ?_,(xq hgr).mono (fun k _ h=>by cases h)⟩
  rcases hk with⟨aa,n1,c1,hv,he⟩
  cases hv;exact(ho.lt k (by simp[Value.ownBlock,he])).1
 rcases hown.2 with⟨rfl,rfl⟩ | ⟨g,off,cap,rfl,hn1,hc1,hgs,h8,h9,h10⟩
 ·obtain rfl:xs=[]:=List.eq_nil_of_length_eq_zero (by simpa using hown.1);obtain⟨v',w',hrun,r1,r2,_⟩:=run_append_own (P:=P) w w.heap.size t ty e i z size bytes h1 h2 h3 h4 h5 h6 h7 (.slice none 0 0) 0 [] (World.ownsRow_nil w _ e size) ad m c news hn hc h1c b1 b2 (Nat.le_refl _);obtain⟨a',c',rfl,q⟩:=fin v' w' r1 r2;exact⟨a',c',w',hrun,q⟩
 ·by_cases hr:n+m<=cap
  ·subst h4;have hle:n * i.size+m * i.size<=cap * i.size:=by rw[<- Nat.add_mul];exact Nat.mul_le_mul_right _ hr
   have hsp:∀ j,j < news.length->(w.cell? ⟨g,off+n * i.size+j,none⟩).isSome=true/\w.frozen? ⟨g,off+n * i.size+j,none⟩=false:=by
    intro j hj;have q1:=h8 (n * i.size+j) (by omega);have q2:=h9 (n * i.size+j) (by omega);rw[<- Nat.add_assoc]at q1 q2;exact⟨q1,q2⟩
   have hrun:=run_append_room_cells (P:=P) w t ty e i h1 h2 g off n cap ad m c news hn hc h1c hr (fun j hj=>(hsp j hj).1) (fun j hj=>(hsp j hj).2);have hch:=ek g news (off+n * i.size) w;refine⟨_,_,_,hrun,⟨by rw[List.length_append,hown.1,hn,Nat.add_mul],.inr ⟨g,off,cap,rfl,hr,hc1,hgs.setCells g news _,fun j hj=>?_,fun j hj=>?_,fun j u hu=>?_⟩⟩,fun k hk=>.inl ?_,hch.mono fun k _ h=>(fF _ _ _ _).2 h.symm⟩
   ·by_cases hin:n * i.size<=j/\j < n * i.size+news.length
    ·have hh:=World.cell?_setCells_in g news (off+n * i.size) w (fun q hq=>by
      have:=h8 (n * i.size+q) (by omega);rw[<- Nat.add_assoc]at this;exact this) (j - n * i.size) (by omega)
     rw[show off+n * i.size+(j - n * i.size)=off+j by omega]at hh;rw[hh];rfl
    ·rw[World.cell?_setCells_out g news (off+n * i.size) w ⟨g,off+j,none⟩ (fun _ _=>by simp only;omega)];exact h8 j hj
   ·rw[World.frozen?_setCells];exact h9 j hj
   ·rw[List.getElem?_append]at hu;have hxl:=hown.1
    split at hu
    ·rename_i hlt
     rw[World.cell?_setCells_out g news (off+n * i.size) w ⟨g,off+j,none⟩ (fun _ _=>by simp only;omega)];exact h10 j u hu
    ·rename_i hlt
     have hj2:j - xs.length < news.length:=(List.getElem?_eq_some_iff.1 hu).1
     have hh:=World.cell?_setCells_in g news (off+n * i.size) w (fun q hq=>by
      have:=h8 (n * i.size+q) (by omega);rw[<- Nat.add_assoc]at this;exact this) (j - xs.length) hj2
     rw[show off+n * i.size+(j - xs.length)=off+j by omega]at hh;rw[hh,<- hu,List.getElem?_eq_getElem hj2]
   ·rw[fF]at hk ⊢;exact hk
  ·obtain⟨v',w',hrun,r1,r2⟩:=run_append_arg_grows (P:=P) w t ty e i z size bytes h1 h2 h3 h4 h5 h6 h7 ⟨g,off,none⟩ n cap xs hown.1 (fun j u hj=>by rw[Addr.add_lit];exact h10 j u hj) ad m c news hn hc (by omega) b1 b2;obtain⟨a',c',rfl,q⟩:=fin v' w' r1 r2;exact⟨a',c',w',hrun,q⟩
theorem lD {P:Program} (w:World) {ops:Array Oper} {rest:List Oper} {o:Oper} {a:Act} {Q:Exit->Act->World->Prop}
  (hg:o.guard=none) (s x:Operand) (t:TypeId) (hop:o.op=Op.call {callee:=Callee.builtin Builtin.append,args:=#[s,x],argTypes:=#[t,t]})
  (e:TypeId) (i:TypeInfo) (z:Value) (size bytes:Nat) (h1:P.underlying t=some (.slice e)) (h2:P.info? e=some i) (h3:i.zero=some z) (h4:i.size=size) (h5:i.bytes=bytes) (h6:z.cells.size=size) (h7:0 < size)
  (v:Value) (n:Nat) (xs:List Value) (hs:a.eval s=v) (hown:bR w v n size xs)
  (ad:Addr) (m c:Nat) (news:List Value) (hx:a.eval x=.slice (some ad) m c) (hn:news.length=m * size) (hc:∀ j u,news[j]? =some u->w.cell? (ad.add j)=some u) (h1c:∀ u ∈ news,u.oneCell'=true)
  (b1:n+m<=maxLen) (b2:(n+m) * bytes<=140737488355328)
  (hK:∀ a' c' w',bR w' (.slice a' (n+m) c') (n+m) size (xs ++ news)->(∀ k,Fp (.slice a' (n+m) c') k->Fp v k\/w.heap.size<=k)->aD (Fp v) w w'->wpList P ops Q rest (a.put o.dst (.slice a' (n+m) c')) w'):
  wpList P ops Q (o :: rest) a w:=by
 refine wpList_plain hg fun K hK'=>?_
 obtain⟨a',c',w',hrun,r1,r2,r3⟩:=pR (P:=P) w t o.type e i z size bytes h1 h2 h3 h4 h5 h6 h7 v n xs hown ad m c news hn hc h1c b1 b2;unfold Oper.wp;simp[execOp,hop,resolve,invoke,builtin,hs,hx,hrun,Result.andThen];exact hK' _ _ (hK a' c' w' r1 r2 r3)
def SliceAt (w:World) (v:Value) (xs:List Value):Prop:=
 ∃ a c,v=.slice a xs.length c/\xs.length<=maxLen/\(xs=[]\/∃ g off,a=some ⟨g,off,none⟩/\∀ j u,xs[j]? =some u->w.cell? ⟨g,off+j,none⟩=some u)
theorem bR.at {v:Value} {n:Nat} {xs:List Value} (h:bR w v n 1 xs):SliceAt w v xs:=by
 obtain⟨h1,h2⟩:=h;obtain rfl:xs.length=n:=by omega
 rcases h2 with⟨rfl,h0⟩ | ⟨g,off,cap,rfl,a1,a2,a3,a4,a5,a6⟩
 ·obtain rfl:xs=[]:=List.eq_nil_of_length_eq_zero h0;exact⟨none,0,rfl,by simp,.inl rfl⟩
 ·exact⟨_,cap,rfl,Nat.le_trans a1 a2,.inr ⟨g,off,rfl,a6⟩⟩
theorem SliceAt.stable {w':World} {v:Value} {xs:List Value} (h:SliceAt w v xs) (hb:∀ p u,w.cell? p=some u->w'.cell? p=some u):SliceAt w' v xs:=by
 obtain⟨a,c,rfl,h1,h2⟩:=h;refine⟨a,c,rfl,h1,h2.imp id ?_⟩;rintro⟨g,off,rfl,h3⟩;exact⟨g,off,rfl,fun j u hu=>hb _ _ (h3 j u hu)⟩
theorem SliceAt.below {w':World} {v:Value} {xs:List Value} (h:SliceAt w v xs) (hb:Below w.heap.size w w'):SliceAt w' v xs:=h.stable fun p u hp=>(hb.cell (World.block_lt_of_cell? _ _ hp)).trans hp
end Hp
namespace ah
open Go.RowKit Hp
variable {P:Program}
def af (w:World) (g:Nat) (cs:Array Value) (t:TypeId):Prop:=w.heap[g]? =some (.cells cs t (0,0))
variable {w:World} {g:Nat} {cs:Array Value} {t:TypeId}
theorem af.lt (h:af w g cs t):g < w.heap.size:=(Array.getElem?_eq_some_iff.1 h).1
theorem af.below {w':World} (h:af w g cs t) (hb:Below w.heap.size w w'):af w' g cs t:=(hb.block g h.lt).trans h
theorem af.alloc (h:af w g cs t) (o:Obj):af (w.alloc o) g cs t:=(Below.heap_alloc _ _ _ h.lt).trans h
theorem af.new (w:World) (cs:Array Value) (t:TypeId):af (w.alloc (.cells cs t)) w.heap.size cs t:=heap_alloc_new w _
theorem af.cell (h:af w g cs t) (j:Nat):w.cell? ⟨g,j,none⟩=cs[j]?:=cell_of_row w g j cs t _ h
theorem af.aK {F:Nat->Prop} {w':World} (h:af w g cs t) (hb:aD F w w') (hf:¬ F g):af w' g cs t:=(hb.block g h.lt hf).trans h
theorem af.frozen (h:af w g cs t) (j:Nat):w.frozen? ⟨g,j,none⟩=false:=frozen_of_row w g j cs t h
theorem af.aB (h:af w g cs t) (i:Nat) (v:Value):af (w.setCell ⟨g,i,none⟩ v) g (cs.setIfInBounds i v) t:=heap_setCell_same w g i cs t v h
theorem af.drew (h:af w g cs t):af w.drew g cs t:=h
theorem vg (w:World) (g:Nat) (ty t:TypeId) (Z cs:Array Value) (h:af w g Z t) (hsz:Z.size=cs.size) (hi:(P.info? ty).map (·.size)=some cs.size) (h1:cs.all (·.oneCell')=true):
  (Instr.storeAt ty (.pointer (some ⟨g,0,none⟩)) (.agg cs)).run P w=.ok () (w.setRow g cs):=by
 simp only[Instr.storeAt,Instr.sureAddr,Sem.run_bind,Sem.run_pure,Result.andThen_ok,run_storeVar_row w g t ty Z cs h hi hsz h1]
theorem wp_store_row {op:Oper} {a:Act} {K:Act->World->Prop} {Q:Exit->Act->World->Prop} (ty:TypeId) (x y:Operand) (ho:op.op=.store ty x y)
  (g:Nat) (t:TypeId) (Z cs:Array Value) (hx:a.eval x=.pointer (some ⟨g,0,none⟩)) (hy:a.eval y=.agg cs)
  (ht:af w g Z t) (hsz:Z.size=cs.size) (hi:(P.info? ty).map (·.size)=some cs.size) (h1:cs.all (·.oneCell')=true)
  (h:K (a.put op.dst undef) (w.setRow g cs)):op.wp P a w K Q:=by
 unfold Oper.wp execOp;simp only[ho,hx,hy,Sem.run_bind,Sem.run_pure,vg w g ty t Z cs ht hsz hi h1,Result.andThen_ok];exact h
theorem wpList_store_row {ops:Array Oper} {rest:List Oper} {op:Oper} {a:Act} {Q:Exit->Act->World->Prop} (hgd:op.guard=none) (ty:TypeId) (x y:Operand) (ho:op.op=.store ty x y)
  (g:Nat) (t:TypeId) (Z cs:Array Value) (hx:a.eval x=.pointer (some ⟨g,0,none⟩)) (hy:a.eval y=.agg cs)
  (ht:af w g Z t) (hsz:Z.size=cs.size) (hi:(P.info? ty).map (·.size)=some cs.size) (h1:cs.all (·.oneCell')=true)
  (h:wpList P ops Q rest (a.put op.dst undef) (w.setRow g cs)):wpList P ops Q (op :: rest) a w:=
 wpList_plain hgd fun _ hK=>wp_store_row ty x y ho g t Z cs hx hy ht hsz hi h1 (hK _ _ h)
theorem af.set {Z:Array Value} (h:af w g Z t) (cs:Array Value):af (w.setRow g cs) g cs t:=setRow_heap w g Z cs t _ h
theorem mY {F:Nat->Prop} {w':World} (h:aD F w w') (g:Nat) (cs:Array Value) (hg:g < w.heap.size->F g):aD F w (w'.setRow g cs):=
 ⟨h.os,h.tape,h.output,by simpa using h.size,fun k hk hf=>by
  by_cases e:k=g
  ·subst e;exact absurd (hg hk) hf
  ·exact(setRow_other w' g k cs e).trans (h.block k hk hf)⟩
theorem uj {fn:Func} {p:Tmp} {ty:TypeId} (h:fn.results=#[.cell p ty]) (tmps:Array Value) (w:World) (g:Nat) (t:TypeId) (cs:Array Value) (d:TypeDesc)
  (hp:tmps.getD p undef=.pointer (some ⟨g,0,none⟩)) (hg:af w g cs t)
  (hu:P.underlying ty=some d) (hd:(match d with | .struct _ | .array _ _=>true | _=>false)=true) (hi:(P.info? ty).map (·.size)=some cs.size):
  (results fn tmps).run P w=.ok (.agg cs) w:=results_cell_row h tmps w g t cs (0,0) d hp hg hu hd hi
theorem jM {fn:Func} {p u:Tmp} {ty:TypeId} (h:fn.results=#[.cell p ty,.tmp u]) (tmps:Array Value) (w:World) (g:Nat) (t:TypeId) (cs:Array Value) (d:TypeDesc)
  (hp:tmps.getD p undef=.pointer (some ⟨g,0,none⟩)) (hg:af w g cs t)
  (hu:P.underlying ty=some d) (hd:(match d with | .struct _ | .array _ _=>true | _=>false)=true) (hi:(P.info? ty).map (·.size)=some cs.size):
  (results fn tmps).run P w=.ok (.tuple #[.agg cs,tmps.getD u undef]) w:=by
 rw[results_cell_tmp h tmps P w,hp];simp[asAddr,run_loadVar_row w g t ty cs (0,0) d hg hu hd hi]
end ah
namespace ah
open Go.RowKit Hp
section
variable {P:Program} {ops:Array Oper} {Q:Exit->Act->World->Prop} {md:Region.Mode} {S:World->Prop}
variable {i:Nat}
theorem nG {d:Option Tmp} {op:Op} {g:Option (Nat×Bool)} (ho:(ops[i]?).map (fun o=>(o.dst,o.op,o.guard))=some (d,op,g)):∃ o,ops[i]? =some o/\o.dst=d/\o.op=op/\o.guard=g:=by
 cases h:ops[i]? with
 | none=>rw[h]at ho;cases ho
 | some o=>
  rw[h]at ho;simp only[Option.map_some,Option.some.injEq,Prod.mk.injEq]at ho;exact⟨o,rfl,ho.1,ho.2.1,ho.2.2⟩
variable {fuel:Nat} {listed:Array Bool} {a:Act}
theorem dh {w:World} (hr:Region.ready md ops listed=[i]) (T:TypeId) (x y:Operand)
  (ho:(ops[i]?).map (fun o=>(o.dst,o.op,o.guard))=some (none,Op.store T x y,none))
  (g:Nat) (t:TypeId) (Z cs:Array Value) (hx:a.eval x=.pointer (some ⟨g,0,none⟩)) (hy:a.eval y=.agg cs)
  (ht:af w g Z t) (hsz:Z.size=cs.size) (hi:(P.info? T).map (·.size)=some cs.size) (h1:cs.all (·.oneCell')=true)
  (hS:S (w.setRow g cs)) (h:S (w.setRow g cs)->wpAnyH P md ops Q S fuel (listed.setIfInBounds i true) a (w.setRow g cs)):wpAnyH P md ops Q S (fuel+1) listed a w:=by
 obtain⟨o,sF,vO,vP,yU⟩:=nG ho;refine wpAnyH_ready hr (by simp) (AllReadyH.cons sF (fun K hK=>?_) AllReadyH.nil);rw[if_pos (by simp[Region.wanted,yU])];refine wp_store_row T x y vP g t Z cs hx hy ht hsz hi h1 ?_;rw[vO];exact hK.out _ _ hS h
theorem uT {w:World} (hr:Region.ready md ops listed=[i]) (T:TypeId) (x y:Operand)
  (ho:(ops[i]?).map (fun o=>(o.dst,o.op,o.guard))=some (none,Op.store T x y,none))
  (g off:Nat) (cs:Array Value) (hx:a.eval x=.pointer (some ⟨g,off,none⟩)) (hy:a.eval y=.agg cs)
  (ht:w.there g off cs.size) (hi:(P.info? T).map (·.size)=some cs.size) (h1:cs.all (·.oneCell')=true)
  (hS:S (w.setCells g off cs.toList)) (h:S (w.setCells g off cs.toList)->wpAnyH P md ops Q S fuel (listed.setIfInBounds i true) a (w.setCells g off cs.toList)):wpAnyH P md ops Q S (fuel+1) listed a w:=by
 obtain⟨o,sF,vO,vP,yU⟩:=nG ho;refine wpAnyH_ready hr (by simp) (AllReadyH.cons sF (fun K hK=>?_) AllReadyH.nil);rw[if_pos (by simp[Region.wanted,yU])];refine wp_store_mid T x y vP g off cs hx hy ht hi h1 ?_;rw[vO];exact hK.out _ _ hS h
theorem fD {w:World} {d:Option Tmp} {op:Op} {gd:Option (Nat×Bool)} {v:Value} (ho:(ops[i]?).map (fun o=>(o.dst,o.op,o.guard))=some (d,op,gd))
  (hs:Region.noSelect ops=true) (hf:Region.free md ops listed i=true) (hr:(Region.ready md ops listed).contains i=true)
  (hQ:∀ c a w,Q (.panic c) (a.put d v) w->Q (.panic c) a w)
  (hw:(ops[i]?).map (fun o=>Region.wanted o (yielded ops a.tmps))=some true) (hy:∀ o:Oper,o.op=op->∀ w,S w->(execOp a.eval o).run P w=.ok (.value v) w) (hS:S w)
  (h:wpAnyH P md ops Q S fuel (listed.setIfInBounds i true) (a.put d v) w):wpAnyH P md ops Q S (fuel+1) listed a w:=by
 obtain⟨o,sF,vO,vP,yU⟩:=nG ho;subst vO;rw[sF]at hw;exact wpAnyH_take sF hs hf hr hQ (Or.inl ⟨by simpa using hw,hy o vP⟩) hS h
theorem Qt {w:World} {d:Option Tmp} {v:Value} (ho:(ops[i]?).map (fun o=>o.dst)=some d)
  (hs:Region.noSelect ops=true) (hf:Region.free md ops listed i=true) (hr:(Region.ready md ops listed).contains i=true)
  (hQ:∀ c a w,Q (.panic c) (a.put d v) w->Q (.panic c) a w)
  (hw:(ops[i]?).map (fun o=>Region.wanted o (yielded ops a.tmps))=some true) (hy:∀ w,S w->((ops[i]?).map fun o=>(execOp a.eval o).run P w)=some (.ok (.value v) w)) (hS:S w)
  (h:wpAnyH P md ops Q S fuel (listed.setIfInBounds i true) (a.put d v) w):wpAnyH P md ops Q S (fuel+1) listed a w:=by
 cases h1:ops[i]? with
 | none=>rw[h1]at ho;cases ho
 | some o=>
  rw[h1]at ho hw;simp only[Option.map_some,Option.some.injEq]at ho hw;subst ho;exact wpAnyH_take h1 hs hf hr hQ (Or.inl ⟨hw,fun w h=>by have:=hy w h;rw[h1]at this;simpa using this⟩) hS h
theorem Fa {w:World} {d:Option Tmp} (ho:(ops[i]?).map (fun o=>o.dst)=some d)
  (hs:Region.noSelect ops=true) (hf:Region.free md ops listed i=true) (hr:(Region.ready md ops listed).contains i=true)
  (hQ:∀ c a w,Q (.panic c) (a.put d undef) w->Q (.panic c) a w)
  (hw:(ops[i]?).map (fun o=>Region.wanted o (yielded ops a.tmps))=some false) (hS:S w)
  (h:wpAnyH P md ops Q S fuel (listed.setIfInBounds i true) (a.put d undef) w):wpAnyH P md ops Q S (fuel+1) listed a w:=by
 cases h1:ops[i]? with
 | none=>rw[h1]at ho;cases ho
 | some o=>
  rw[h1]at ho hw;simp only[Option.map_some,Option.some.injEq]at ho hw;subst ho;exact wpAnyH_take h1 hs hf hr hQ (Or.inr ⟨hw,rfl⟩) hS h
theorem aM (T:TypeId) (x:Operand) (g:Nat) (t:TypeId) (cs:Array Value) (d:TypeDesc) (hx:a.eval x=.pointer (some ⟨g,0,none⟩)) (hu:P.underlying T=some d)
  (hd:(match d with | .struct _ | .array _ _=>true | _=>false)=true) (hi:(P.info? T).map (·.size)=some cs.size) (hg:∀ w,S w->af w g cs t):
  ∀ o:Oper,o.op=Op.load T x->∀ w,S w->(execOp a.eval o).run P w=.ok (.value (.agg cs)) w:=by
 intro o ho w hS;have hl:=run_loadVar_row (P:=P) w g t T cs (0,0) d (hg w hS) hu hd hi;unfold execOp;simp only[ho,hx];simp only[Instr.loadAt,Instr.sureAddr,Sem.run_bind,Sem.run_pure,Result.andThen_ok,hl]
theorem bD (x:Operand) (v:Value) (hx:a.eval x=v):∀ o:Oper,o.op=Op.move x->∀ w,S w->(execOp a.eval o).run P w=.ok (.value v) w:=by
 intro o ho w _;unfold execOp;simp only[ho,hx,Sem.run_pure]
theorem jb (x:Operand) (v:Value) (hx:a.eval x=v):∀ o:Oper,o.op=Op.assign x->∀ w,S w->(execOp a.eval o).run P w=.ok (.value v) w:=by
 intro o ho w _;unfold execOp;simp only[ho,hx,Sem.run_pure]
theorem aV (c x y:Operand) (b:Bool) (v:Value) (hc:a.eval c=.bool b) (hx:(if b then a.eval x else a.eval y)=v):∀ o:Oper,o.op=Op.pick c x y->∀ w,S w->(execOp a.eval o).run P w=.ok (.value v) w:=by
 intro o ho w _;have hA:∀ b:Bool,(asBool (.bool b)).run P w=.ok b w:=fun _=>rfl
 cases b
 ·have hx':a.eval y=v:=hx;unfold execOp;simp only[ho,hc,Sem.run_bind,hA,Result.andThen_ok,Sem.run_pure,Bool.false_eq_true,if_false,hx']
 ·have hx':a.eval x=v:=hx;unfold execOp;simp only[ho,hc,Sem.run_bind,hA,Result.andThen_ok,Sem.run_pure,if_true,hx']
theorem ng (T:TypeId) (x:Operand) (b:Bool) (hx:a.eval x=.bool b):∀ o:Oper,o.op=Op.unOp .not T x->∀ w,S w->(execOp a.eval o).run P w=.ok (.value (.bool (!b))) w:=by
 intro o ho w _;unfold execOp;simp only[ho,hx];simp[go_sem,Op.unary]
theorem Er {w:World} (hr:Region.ready md ops listed=[i]) (F:Nat) (args:Array Operand) (ats:Array TypeId) (d:Option Tmp) (gd:Option (Nat×Bool))
  (ho:(ops[i]?).map (fun o=>(o.dst,o.op,o.guard))=some (d,Op.call {callee:=Callee.value (Operand.func F),args:=args,argTypes:=ats},gd))
  (hw:(ops[i]?).map (fun o=>Region.wanted o (yielded ops a.tmps))=some true)
  (vals:Array Value) (hv:args.map a.eval=vals) (hE:∀ args w,(callFunc F args).run P w=.ok (.enter F args) w)
  (h:Calls P F vals w fun e w'=>∃ v,e=.returned v/\S w'/\(S w'->wpAnyH P md ops Q S fuel (listed.setIfInBounds i true) (a.put d v) w')):wpAnyH P md ops Q S (fuel+1) listed a w:=by
 obtain⟨o,sF,vO,vP,yU⟩:=nG ho;refine wpAnyH_ready hr (by simp) (AllReadyH.cons sF (fun K hK=>?_) AllReadyH.nil);rw[sF]at hw;rw[if_pos (by simpa using hw)]
 have hx:(execOp a.eval o).run P w=.ok (.enter F vals) w:=by
  unfold execOp;simp only[vP,resolve];simp[go_sem,hv,hE,Act.eval,invoke,Deferred.ofValue]
 unfold Oper.wp;rw[hx,Oper.upon_enter];refine h.mono ?_;rintro e w' ⟨v,rfl,hS,hk⟩;dsimp only;rw[vO];exact hK.out _ _ hS hk
end
theorem aG (w:World) (cs cs':Array Value) (t:TypeId):(w.alloc (.cells cs t)).setRow w.heap.size cs'=w.alloc (.cells cs' t):=by
 have h1:((w.alloc (.cells cs t)).setRow w.heap.size cs').heap=(w.alloc (.cells cs' t)).heap:=by
  apply Array.ext_getElem?
  intro i
  by_cases h:i=w.heap.size
  ·subst h;exact(setRow_heap _ _ cs cs' t (0,0) (heap_alloc_new w _)).trans (heap_alloc_new w _).symm
  ·rw[setRow_other _ _ _ _ h];simp only[World.alloc,Array.getElem?_push]
   split
   ·rename_i e;exact absurd e h
   ·rfl
 have h2:∀ a b:World,a.heap=b.heap->{a with heap:=b.heap}=a:=fun a b e=>by rw[<- e]
 have h3:=h2 _ _ h1;rw[<- h3];rfl
section
variable {P:Program} {ops:Array Oper} {Q:Exit->Act->World->Prop} {md:Region.Mode} {S:World->Prop}
def ko (P:Program) (md:Region.Mode) (ops:Array Oper) (Q:Exit->Act->World->Prop) (S:World->Prop) (fuel:Nat) (listed:Array Bool) (a:Act) (w:World) (i:Nat):Prop:=
 wpOp P ops Q i (fun a' w'=>S w'/\wpAnyH P md ops Q S fuel (listed.setIfInBounds i true) a' w') a w
variable {i fuel:Nat} {listed:Array Bool} {a:Act} {w:World}
theorem aX (hr:Region.ready md ops listed=[i]) (h:ko P md ops Q S fuel listed a w i):wpAnyH P md ops Q S (fuel+1) listed a w:=
 wpAnyH_all hr (by simp) fun j hj=>by
  obtain rfl:j=i:=by simpa using hj
  exact h
theorem gI {k:Nat} (hr:Region.ready md ops listed=[i,k]) (h:ko P md ops Q S fuel listed a w i) (h2:ko P md ops Q S fuel listed a w k):wpAnyH P md ops Q S (fuel+1) listed a w:=
 wpAnyH_all hr (by simp) fun j hj=>by
  simp only[List.mem_cons,List.not_mem_nil,or_false]at hj
  rcases hj with rfl | rfl
  ·exact h
  ·exact h2
theorem bI (F:Nat) (args:Array Operand) (ats:Array TypeId) (d:Option Tmp) (gd:Option (Nat×Bool))
  (ho:(ops[i]?).map (fun o=>(o.dst,o.op,o.guard))=some (d,Op.call {callee:=Callee.value (Operand.func F),args:=args,argTypes:=ats},gd))
  (hw:(ops[i]?).map (fun o=>Region.wanted o (yielded ops a.tmps))=some true)
  (vals:Array Value) (hv:args.map a.eval=vals) (hE:∀ args w,(callFunc F args).run P w=.ok (.enter F args) w)
  (h:Calls P F vals w fun e w'=>∃ v,e=.returned v/\S w'/\(S w'->wpAnyH P md ops Q S fuel (listed.setIfInBounds i true) (a.put d v) w')):ko P md ops Q S fuel listed a w i:=by
 obtain⟨o,sF,vO,vP,yU⟩:=nG ho;rw[sF]at hw;refine wpOp_step sF fun K hK=>?_
 rw[if_pos (by simpa using hw)]
 have hx:(execOp a.eval o).run P w=.ok (.enter F vals) w:=by
  unfold execOp;simp only[vP,resolve];simp[go_sem,hv,hE,Act.eval,invoke,Deferred.ofValue]
 unfold Oper.wp;rw[hx,Oper.upon_enter];refine h.mono ?_;rintro e w' ⟨v,rfl,hS,hk⟩;dsimp only;rw[vO];exact hK _ _ ⟨hS,hk hS⟩
theorem gp (T:TypeId) (x y:Operand)
  (ho:(ops[i]?).map (fun o=>(o.dst,o.op,o.guard))=some (none,Op.store T x y,none))
  (g:Nat) (t:TypeId) (Z cs:Array Value) (hx:a.eval x=.pointer (some ⟨g,0,none⟩)) (hy:a.eval y=.agg cs)
  (ht:af w g Z t) (hsz:Z.size=cs.size) (hi:(P.info? T).map (·.size)=some cs.size) (h1:cs.all (·.oneCell')=true)
  (hS:S (w.setRow g cs)) (h:S (w.setRow g cs)->wpAnyH P md ops Q S fuel (listed.setIfInBounds i true) a (w.setRow g cs)):ko P md ops Q S fuel listed a w i:=by
 obtain⟨o,sF,vO,vP,yU⟩:=nG ho;refine wpOp_step sF fun K hK=>?_
 rw[if_pos (by simp[Region.wanted,yU])];refine wp_store_row T x y vP g t Z cs hx hy ht hsz hi h1 ?_;rw[vO];exact hK _ _ ⟨hS,h hS⟩
theorem aY {w':World} (d:Option Tmp) (v:Value) (ho:(ops[i]?).map (fun o=>o.dst)=some d)
  (hw:(ops[i]?).map (fun o=>Region.wanted o (yielded ops a.tmps))=some true) (hr:((ops[i]?).map fun o=>(execOp a.eval o).run P w)=some (.ok (.value v) w'))
  (hS:S w') (h:S w'->wpAnyH P md ops Q S fuel (listed.setIfInBounds i true) (a.put d v) w'):ko P md ops Q S fuel listed a w i:=by
 cases h1:ops[i]? with
 | none=>rw[h1]at ho;cases ho
 | some o=>
  rw[h1]at ho hw hr;simp only[Option.map_some,Option.some.injEq]at ho hw hr;subst ho;refine wpOp_step h1 fun K hK=>?_
  rw[if_pos hw];unfold Oper.wp;rw[hr];exact hK _ _ ⟨hS,h hS⟩
theorem II {g:Nat} {Z:Array Value} {t:TypeId} (ht:af w g Z t) {o n:Nat} (h:o+n<=Z.size):w.there g o n:=by
 intro j hj;refine⟨?_,ht.frozen _⟩;rw[ht.cell,Array.getElem?_eq_getElem (by omega)];rfl
theorem bG (T:TypeId) (x y:Operand)
  (ho:(ops[i]?).map (fun o=>(o.dst,o.op,o.guard))=some (none,Op.store T x y,none)) (g off:Nat) (v:Value) (hx:a.eval x=.pointer (some ⟨g,off,none⟩)) (hy:a.eval y=v)
  (hv:∀ u,(Instr.storeAt T (.pointer (some ⟨g,off,none⟩)) v).run P w=.ok u (w.setCell ⟨g,off,none⟩ v))
  (hS:S (w.setCell ⟨g,off,none⟩ v)) (h:S (w.setCell ⟨g,off,none⟩ v)->wpAnyH P md ops Q S fuel (listed.setIfInBounds i true) a (w.setCell ⟨g,off,none⟩ v)):ko P md ops Q S fuel listed a w i:=by
 obtain⟨o,sF,vO,vP,yU⟩:=nG ho;refine wpOp_step sF fun K hK=>?_
 rw[if_pos (by simp[Region.wanted,yU])];unfold Oper.wp execOp;simp only[vP,hx,hy,Sem.run_bind,Sem.run_pure,hv (),Result.andThen_ok,Oper.upon_skip];rw[vO];exact hK _ _ ⟨hS,h hS⟩
theorem nX (T:TypeId) (x y:Operand)
  (ho:(ops[i]?).map (fun o=>(o.dst,o.op,o.guard))=some (none,Op.store T x y,none))
  (g off:Nat) (cs:Array Value) (hx:a.eval x=.pointer (some ⟨g,off,none⟩)) (hy:a.eval y=.agg cs)
  (ht:w.there g off cs.size) (hi:(P.info? T).map (·.size)=some cs.size) (h1:cs.all (·.oneCell')=true)
  (hS:S (w.setCells g off cs.toList)) (h:S (w.setCells g off cs.toList)->wpAnyH P md ops Q S fuel (listed.setIfInBounds i true) a (w.setCells g off cs.toList)):ko P md ops Q S fuel listed a w i:=by
 obtain⟨o,sF,vO,vP,yU⟩:=nG ho;refine wpOp_step sF fun K hK=>?_
 rw[if_pos (by simp[Region.wanted,yU])];refine wp_store_mid T x y vP g off cs hx hy ht hi h1 ?_;rw[vO];exact hK _ _ ⟨hS,h hS⟩
end
section
variable {P:Program} {ops:Array Oper} {Q:Exit->Act->World->Prop} {md:Region.Mode} {S:World->Prop}
theorem sA {α:Type _} (l:List α) (i:Nat) (a:α):l.toArray.setIfInBounds i a=(l.set i a).toArray:=List.setIfInBounds_toArray l i a
theorem sZ {α:Type _} (a b:α) (l:List α):(a :: l).set 0 b=b :: l:=rfl
theorem sS {α:Type _} (a b:α) (l:List α) (n:Nat):(a :: l).set (n+1) b=a :: l.set n b:=rfl
variable {fuel:Nat} {listed:Array Bool}
theorem VR {a:Act} {w:World} {v:Value} (i:Nat) (d:Nat) (hS:S w)
  (h:wpAnyH P md ops Q S fuel (listed.setIfInBounds i true) (a.put (some d) v) w)
  (hy:∀ w,S w->((ops[i]?).map fun o=>(execOp a.eval o).run P w)=some (.ok (.value v) w):=by intro w hSw;(try dsimp only at hSw);go_simp;(try with_reducible rfl))
  (ho:(ops[i]?).map (fun o=>o.dst)=some (some d):=by kernel_rfl)
  (hs:Region.noSelect ops=true:=by kernel_rfl) (hf:Region.free md ops listed i=true:=by kernel_rfl) (hr:(Region.ready md ops listed).contains i=true:=by kernel_rfl)
  (hQ:∀ c a w,Q (.panic c) (a.put (some d) v) w->Q (.panic c) a w:=by exact fun _ _ _ h=>h)
  (hw:(ops[i]?).map (fun o=>Region.wanted o (yielded ops a.tmps))=some true:=by kernel_rfl):wpAnyH P md ops Q S (fuel+1) listed a w:=
 Qt ho hs hf hr hQ hw hy hS h
theorem iC {a:Act} {w:World} {gd:Option (Nat×Bool)} (i:Nat) (d:Nat) (op:Op) (v:Value) (hy:∀ o:Oper,o.op=op->∀ w,S w->(execOp a.eval o).run P w=.ok (.value v) w) (hS:S w)
  (h:wpAnyH P md ops Q S fuel (listed.setIfInBounds i true) (a.put (some d) v) w)
  (ho:(ops[i]?).map (fun o=>(o.dst,o.op,o.guard))=some (some d,op,gd):=by kernel_rfl)
  (hs:Region.noSelect ops=true:=by kernel_rfl) (hf:Region.free md ops listed i=true:=by kernel_rfl) (hr:(Region.ready md ops listed).contains i=true:=by kernel_rfl)
  (hQ:∀ c a w,Q (.panic c) (a.put (some d) v) w->Q (.panic c) a w:=by exact fun _ _ _ h=>h)
  (hw:(ops[i]?).map (fun o=>Region.wanted o (yielded ops a.tmps))=some true:=by kernel_rfl):wpAnyH P md ops Q S (fuel+1) listed a w:=
 fD ho hs hf hr hQ hw hy hS h
theorem X8 {a:Act} {w:World} (i:Nat) (d:Option Tmp) (hS:S w)
  (h:wpAnyH P md ops Q S fuel (listed.setIfInBounds i true) (a.put d undef) w)
  (ho:(ops[i]?).map (fun o=>o.dst)=some d:=by kernel_rfl)
  (hs:Region.noSelect ops=true:=by kernel_rfl) (hf:Region.free md ops listed i=true:=by kernel_rfl) (hr:(Region.ready md ops listed).contains i=true:=by kernel_rfl)
  (hQ:∀ c a w,Q (.panic c) (a.put d undef) w->Q (.panic c) a w:=by exact fun _ _ _ h=>h)
  (hw:(ops[i]?).map (fun o=>Region.wanted o (yielded ops a.tmps))=some false:=by kernel_rfl):wpAnyH P md ops Q S (fuel+1) listed a w:=
 Fa ho hs hf hr hQ hw hS h
theorem mP {i:Nat} {a:Act} {w:World} (F:Nat) (args:Array Operand) (ats:Array TypeId) (d:Option Tmp) (gd:Option (Nat×Bool)) (vals:Array Value) (hE:∀ args w,(callFunc F args).run P w=.ok (.enter F args) w)
  (h:Calls P F vals w fun e w'=>∃ v,e=.returned v/\S w'/\(S w'->wpAnyH P md ops Q S fuel (listed.setIfInBounds i true) (a.put d v) w'))
  (hr:Region.ready md ops listed=[i]:=by kernel_rfl)
  (ho:(ops[i]?).map (fun o=>(o.dst,o.op,o.guard))=some (d,Op.call {callee:=Callee.value (Operand.func F),args:=args,argTypes:=ats},gd):=by kernel_rfl)
  (hw:(ops[i]?).map (fun o=>Region.wanted o (yielded ops a.tmps))=some true:=by kernel_rfl)
  (hv:args.map a.eval=vals:=by kernel_rfl):wpAnyH P md ops Q S (fuel+1) listed a w:=
 Er hr F args ats d gd ho hw vals hv hE h
end
section
variable {P:Program} {ops:Array Oper} {Q:Exit->Act->World->Prop} {rest:List Oper} {o:Oper} {a:Act} {w:World}
theorem gl (v:Value) (h:wpList P ops Q rest (a.put o.dst v) w) (hr:(execOp a.eval o).run P w=.ok (.value v) w:=by kernel_rfl) (hw:Region.wanted o (yielded ops a.tmps)=true:=by kernel_rfl):wpList P ops Q (o :: rest) a w:=by
 unfold wpList;rw[if_pos hw];exact .inl (by unfold Oper.wp;rw[hr];exact h)
theorem grow {g:Nat} {t:TypeId} {cs:Array Value} (hg:af w g cs t) (T:TypeId) (x:Operand) {d:TypeDesc} (hu:P.underlying T=some d) (h:wpList P ops Q rest (a.put o.dst (.agg cs)) w)
  (ho:o.op=.load T x:=by kernel_rfl) (hx:a.eval x=.pointer (some ⟨g,0,none⟩):=by kernel_rfl)
  (hd:(match d with | .struct _ | .array _ _=>true | _=>false)=true:=by rfl) (hi:(P.info? T).map (·.size)=some cs.size:=by kernel_rfl)
  (hw:Region.wanted o (yielded ops a.tmps)=true:=by kernel_rfl):wpList P ops Q (o :: rest) a w:=
 gl (.agg cs) h (aM (P:=P) (S:=fun w'=>w'=w) (a:=a) T x g t cs d hx hu hd hi (fun w' e=>by rw[e];exact hg) o ho w rfl) hw
theorem uR {g:Nat} {t:TypeId} {Z:Array Value} (hg:af w g Z t) (cs:Array Value) (T:TypeId) (x y:Operand) (h:wpList P ops Q rest (a.put o.dst undef) (w.setRow g cs))
  (ho:o.op=.store T x y:=by kernel_rfl) (hx:a.eval x=.pointer (some ⟨g,0,none⟩):=by kernel_rfl) (hy:a.eval y=.agg cs:=by kernel_rfl) (hgd:o.guard=none:=by kernel_rfl)
  (hsz:Z.size=cs.size:=by kernel_rfl) (hi:(P.info? T).map (·.size)=some cs.size:=by kernel_rfl) (h1:cs.all (·.oneCell')=true:=by kernel_rfl):wpList P ops Q (o :: rest) a w:=
 ah.wpList_store_row hgd T x y ho g t Z cs hx hy hg hsz hi h1 h
theorem dU {ob:Obj} {o2:Oper} {Z cs:Array Value} {t:TypeId} (T:TypeId) (x y:Operand) (eG:ob=.cells Z t) (h:wpList P ops Q rest ((a.put o.dst (.pointer (some ⟨w.heap.size,0,none⟩))).put o2.dst undef) ((w.alloc ob).setRow w.heap.size cs))
  (hr:(execOp a.eval o).run P w=.ok (.value (.pointer (some ⟨w.heap.size,0,none⟩))) (w.alloc ob):=by kernel_rfl) (hg:o.guard=none:=by kernel_rfl) (hg2:o2.guard=none:=by kernel_rfl)
  (ho:o2.op=.store T x y:=by kernel_rfl) (hx:(a.put o.dst (.pointer (some ⟨w.heap.size,0,none⟩))).eval x=.pointer (some ⟨w.heap.size,0,none⟩):=by kernel_rfl) (hy:(a.put o.dst (.pointer (some ⟨w.heap.size,0,none⟩))).eval y=.agg cs:=by kernel_rfl)
  (hsz:Z.size=cs.size:=by kernel_rfl) (hi:(P.info? T).map (·.size)=some cs.size:=by kernel_rfl) (h1:cs.all (·.oneCell')=true:=by kernel_rfl):wpList P ops Q (o :: o2 :: rest) a w:=by
 subst eG;refine wpList_plain hg fun K hK=>?_
 unfold Oper.wp;rw[hr];exact hK _ _ (ah.wpList_store_row hg2 T x y ho w.heap.size t Z cs hx hy (af.new w Z t) hsz hi h1 h)
end
section
variable {P:Program} {fn:Func} {R:Ending->World->Prop} {a:Act} {w:World} {p q:Tmp} {ty t:TypeId} {cs:Array Value} {d:TypeDesc}
theorem N7 (g:Nat) (hg:af w g cs t) (hu:P.underlying ty=some d) (hR:R (.returned (.agg cs)) w) (h:fn.results=#[.cell p ty]:=by rfl) (hp:a.tmps.getD p undef=.pointer (some ⟨g,0,none⟩):=by rfl)
  (hd:(match d with | .struct _ | .array _ _=>true | _=>false)=true:=by rfl) (hi:(P.info? ty).map (·.size)=some cs.size:=by kernel_rfl) (hde:a.defers=[]:=by rfl):bodyPost P fn R .ret a w:=
 bodyPost_ret (uj h _ _ g t cs d hp hg hu hd hi) hde hR
theorem jK (g:Nat) (hg:af w g cs t) (hu:P.underlying ty=some d) (hR:R (.returned (.tuple #[.agg cs,a.tmps.getD q undef])) w) (h:fn.results=#[.cell p ty,.tmp q]:=by rfl) (hp:a.tmps.getD p undef=.pointer (some ⟨g,0,none⟩):=by rfl)
  (hd:(match d with | .struct _ | .array _ _=>true | _=>false)=true:=by rfl) (hi:(P.info? ty).map (·.size)=some cs.size:=by kernel_rfl) (hde:a.defers=[]:=by rfl):bodyPost P fn R .ret a w:=
 bodyPost_ret (jM h _ _ g t cs d hp hg hu hd hi) hde hR
end
end ah
namespace Base
open Go.RowKit Go.ChangeShapes Go.WideShapes Go.ChangeAt
theorem pK {n:Int} (h:(Lit.int .i64 n).wf=true):-9223372036854775808<=n/\n<=9223372036854775807:=bounds_i64 h
theorem qK {n:Int} (h:(Lit.int .u8 n).wf=true):0<=n/\n<=255:=bounds_u8 h
theorem vk {k:IntKind} {a b:Int} (h:a=b):Ending.returned (.int k a)=.returned (.int k b):=by rw[h]
theorem aN {a b:Bool} (h:a=b):Ending.returned (.bool a)=.returned (.bool b):=by rw[h]
end Base
open Go.RowKit Hp ah
abbrev ptr (b : Nat) : Value:=.pointer (some ⟨b, 0, none⟩)
section
variable {w : World} {p : Addr} {b n : Nat}
theorem cC (v : Int) (h : w.cell? p = some (.i v)) : w.cell? p = some (.i v):=h
theorem cP (b : Nat) (h : w.cell? p = some (.pointer (some ⟨b, 0, none⟩))) : w.cell? p = some (.pointer (some ⟨b, 0, none⟩)):=h
theorem cV (v : Value) (h : w.cell? p = some v) : w.cell? p = some v:=h
theorem bY : Below n w w.drew:=(Below.refl _ _).drew
theorem bZ : Below n w w:=Below.refl _ _
end
theorem bP {P : Program} {fn : Func} {R : Ending -> World -> Prop} {a : Act} {w : World} (hR : R (.returned (.tuple #[])) w) (h : fn.results = #[]:=by rfl) (hd : a.defers = []:=by rfl) : bodyPost P fn R .ret a w:=bodyPost_ret (results_none h _ _ _) hd hR
theorem uH {P : Prop} (h : P) : RowKit.Hid P:=Lib.hid h
section
variable {P : Program} {ops : Array Oper} {Q : Exit -> Act -> World -> Prop} {md : Region.Mode} {S : World -> Prop}
theorem tH {Q' : Prop} {fuel : Nat} {listed : Array Bool} {a : Act} {w : World} {v : Value} (i : Nat) (d : Nat) (hS : S w) (q : Q')
  (hy : ∀ w, S w -> ((ops[i]?).map fun o => (execOp a.eval o).run P w) = some (.ok (.value v) w):=by intro w hSw; (try dsimp only at hSw); go_simp; (try with_reducible rfl))
  (ho : (ops[i]?).map (fun o => o.dst) = some (some d):=by kernel_rfl)
  (hs : Region.noSelect ops = true:=by kernel_rfl) (hf : Region.free md ops listed i = true:=by kernel_rfl) (hr : (Region.ready md ops listed).contains i = true:=by kernel_rfl)
  (hQ : ∀ c a w, Q (.panic c) (a.put (some d) v) w -> Q (.panic c) a w:=by exact fun _ _ _ h => h)
  (hw : (ops[i]?).map (fun o => Region.wanted o (yielded ops a.tmps)) = some true:=by kernel_rfl)
  (e : Q' -> wpAnyH P md ops Q S fuel (listed.setIfInBounds i true) (a.put (some d) v) w:=by intro q'; (try simp only[Act.put, sA, sZ, sS]); exact q') : wpAnyH P md ops Q S (fuel + 1) listed a w :=
 Qt ho hs hf hr hQ hw hy hS (e q)
theorem sH {Q' : Prop} {fuel : Nat} {listed : Array Bool} {a : Act} {w : World} (i : Nat) (d : Option Tmp) (hS : S w) (q : Q')
  (ho : (ops[i]?).map (fun o => o.dst) = some d:=by kernel_rfl)
  (hs : Region.noSelect ops = true:=by kernel_rfl) (hf : Region.free md ops listed i = true:=by kernel_rfl) (hr : (Region.ready md ops listed).contains i = true:=by kernel_rfl)
  (hQ : ∀ c a w, Q (.panic c) (a.put d undef) w -> Q (.panic c) a w:=by exact fun _ _ _ h => h)
  (hw : (ops[i]?).map (fun o => Region.wanted o (yielded ops a.tmps)) = some false:=by kernel_rfl)
  (e : Q' -> wpAnyH P md ops Q S fuel (listed.setIfInBounds i true) (a.put d undef) w:=by intro q'; (try simp only[Act.put, sA, sZ, sS]); exact q') : wpAnyH P md ops Q S (fuel + 1) listed a w :=
 Fa ho hs hf hr hQ hw hS (e q)
end
theorem ay {P Q' : Prop} (q : Q') (e : Q' -> P:=by intro q'; (try simp only[Act.put, sA, sZ, sS]); exact q') : P:=e q
theorem ax {P : Prop} (h : P:=by kernel_rfl) : P:=h
theorem ag {P : Prop} (h : P:=by omega) : P:=h
theorem au {P : Prop} (h : P:=by simp) : P:=h
theorem aI {P : Prop} (h : P:=by assumption) : P:=h
theorem aT {P : Prop} (h : P:=by decide) : P:=h
theorem aQ {n : Nat} : n <= n:=Nat.le_refl n
theorem dN {w : World} {a : Addr} {u : Value} (h : w.cell? a = some u) : a.block < w.heap.size:=World.block_lt_of_cell? _ _ h
theorem aH {P : Program} {f : FuncId} {fn : Func} {c : Code} (hf : P.funcs[f]? = some fn) (hn : (fn.name == "runtime.NumGoroutine") = false:=by kernel_rfl) (hb : fn.body = some c:=by exact rfl) : ∀ (args : Array Value) (w : World), (callFunc f args).run P w = .ok (.enter f args) w:=enters_of hf hn hb
section
variable {P : Program} {ops : Array Oper} {Q : Exit -> Act -> World -> Prop} {md : Region.Mode} {S : World -> Prop}
theorem iR {listed : Array Bool} {a : Act} {w : World} {fuel : Nat} (h : Q .normal a w) (hr : Region.ready md ops listed = []:=by kernel_rfl) : wpAnyH P md ops Q S fuel listed a w:=wpAnyH_done hr h fuel
theorem jr {id : Nat} {a : Act} {w : World} (hS : S w.drew) (h : S w.drew -> wpAnyH P .any ops Q S ops.size (Array.replicate ops.size false) a w.drew) (hm : P.follows .mixedOrders = true:=by kernel_rfl) : (Code.region id ops true).wp P Q a w:=wp_region_held_drew hm hS h
end
namespace Cl
open Go.RowKit Hp ah
def mR (W:World) (g:Nat) (l:List Int):Prop:=af W g ⟨l.map (Value.int .i64)⟩ 3
theorem mR.get {W:World} {g:Nat} {l:List Int} (h:mR W g l) {i:Nat} {x:Int} (hx:l[i]? =some x):W.cell? ⟨g,i,none⟩=some (.i x):=by
 rw[af.cell h i];simp[hx]
theorem mR.set {W:World} {g:Nat} {l:List Int} (h:mR W g l) (i:Nat) (x:Int):mR (W.setCell ⟨g,i,none⟩ (.i x)) g (l.set i x):=by
 have h1:=af.aB h i (.i x);unfold mR
 have e:(⟨l.map (Value.int .i64)⟩:Array Value).setIfInBounds i (.i x)=⟨(l.set i x).map (Value.int .i64)⟩:=by
  rw[List.map_set];simp
 rw[<- e];exact h1
structure bB (W:World) (mb wb:Nat) (ws:List Int) (tc:Int):Prop where
 c0:W.cell? ⟨mb,0,none⟩=some (.slice (some ⟨wb,0,none⟩) ws.length ws.length)
 c1:W.cell? ⟨mb,1,none⟩=some (.i tc)
 f1:W.frozen? ⟨mb,1,none⟩=false
 row:mR W wb ws
 ne:mb≠wb
 len:1<=ws.length/\ws.length<=4096
section
variable {W W':World} {mb wb:Nat} {ws:List Int} {tc:Int}
theorem bB.lt (h:bB W mb wb ws tc):mb < W.heap.size/\wb < W.heap.size:=⟨dN h.c0,af.lt h.row⟩
theorem bB.stable (h:bB W mb wb ws tc) (h1:W'.heap[mb]? =W.heap[mb]?) (h2:W'.heap[wb]? =W.heap[wb]?):bB W' mb wb ws tc:=
 ⟨(World.cell?_of_block (w:=W) h1).trans h.c0,(World.cell?_of_block (w:=W) h1).trans h.c1,(World.frozen?_of_block (w:=W) h1).trans h.f1,h2.trans h.row,h.ne,h.len⟩
theorem bB.below (h:bB W mb wb ws tc) (hb:Below W.heap.size W W'):bB W' mb wb ws tc:=h.stable (hb.block _ h.lt.1) (hb.block _ h.lt.2)
theorem bB.aK {F:Nat->Prop} (h:bB W mb wb ws tc) (hc:aD F W W') (h1:¬ F mb) (h2:¬ F wb):bB W' mb wb ws tc:=h.stable (hc.block _ h.lt.1 h1) (hc.block _ h.lt.2 h2)
def dJ (mb wb k:Nat):Prop:=k=mb\/k=wb
theorem bB.touch (h:bB W mb wb ws tc) (n:Int):bB (W.setCell ⟨mb,1,none⟩ (.i n)) mb wb ws n:=by
 have hne:=h.ne;refine⟨?_,?_,?_,(heap_setCell_other W _ _ _ (by simpa using fun e=>hne e.symm)).trans h.row,hne,h.len⟩
 ·rw[World.cell?_setCell_other _ _ _ _ au];exact h.c0
 ·exact World.cell?_setCell_same' _ _ _ (by rw[h.c1];rfl)
 ·rw[World.frozen?_setCell];exact h.f1
theorem bB.put (h:bB W mb wb ws tc) (i:Nat) (x:Int):bB (W.setCell ⟨wb,i,none⟩ (.i x)) mb wb (ws.set i x) tc:=by
 have hne:=h.ne;refine⟨?_,?_,?_,h.row.set i x,hne,by simpa using h.len⟩
 ·rw[World.cell?_setCell_far _ _ _ _ (fun e=>hne e.symm),List.length_set];exact h.c0
 ·rw[World.cell?_setCell_far _ _ _ _ (fun e=>hne e.symm)];exact h.c1
 ·rw[World.frozen?_setCell];exact h.f1
theorem bB.frozen (h:bB W mb wb ws tc) (i:Nat):W.frozen? ⟨wb,i,none⟩=false:=af.frozen h.row i
end
theorem Gp (W:World) (p:Addr) (x:Int) (h:W.cell? p=some (.i x)):Calls prog 75 #[.pointer (some p)] W fun e W'=>e=.returned (.i x)/\W=W':=by
 go_enter func75,ntmps75
 go_wp2_with fail;go_ret;exact⟨rfl,rfl⟩
theorem Dj (W:World) (p q:Addr) (x y:Int) (h:W.cell? p=some (.i x)) (hf:W.frozen? p=false) (hq:W.cell? q=some (.i y)):Calls prog 77 #[.pointer (some p),.pointer (some q)] W fun e W'=>e=.returned (.bool true)/\W.setCell p (.i y)=W':=by
 go_enter func77,ntmps77
 go_wp2_with fail;go_ret;exact⟨rfl,rfl⟩
theorem Nq (W:World) (p q r:Addr) (x z:Int) (h:W.cell? p=some (.i x)) (hf:W.frozen? p=false) (hq:W.cell? q=some (.i x)) (hr:W.cell? r=some (.i z)):
  Calls prog 222 #[.pointer (some p),.pointer (some q),.pointer (some r)] W fun e W'=>e=.returned (.bool true)/\∃ n,(W.drewN n).setCell p (.i z)=W':=by
 go_enter func222,ntmps222
 go_wp2_with fail
 go_quiet (fail)
 go_wp2_with fail;go_ret;exact⟨rfl,nq,rfl⟩
theorem Nr (W:World) (p q r:Addr) (x y z:Int) (h:W.cell? p=some (.i x)) (hf:W.frozen? p=false) (hq:W.cell? q=some (.i y)) (hr:W.cell? r=some (.i z)) (hne:x≠y):
  Calls prog 222 #[.pointer (some p),.pointer (some q),.pointer (some r)] W fun e W'=>e=.returned (.bool false)/\∃ n,W.drewN n=W':=by
 have e2:(x != y)=true:=by simpa using hne
 go_enter func222,ntmps222
 go_wp2_with fail
 go_quiet (fail)
 go_wp2_with fail;go_ret;exact⟨rfl,nq,rfl⟩
section
variable {W:World} {mb wb:Nat} {ws:List Int} {tc:Int}
def kR (W:World) (mb wb:Nat) (ans:Value) (aC:List Int) (eX:Int) (e:Ending) (W':World):Prop:=e=.returned ans/\bB W' mb wb aC eX/\aD (dJ mb wb) W W'
theorem aU (h:bB W mb wb ws tc) (ht:0<=tc/\tc<=4000000000000000000) (i:Nat) (x:Int) (hx:ws[i]? =some x):Calls prog 56 #[ptr mb,.i i] W (kR W mb wb (.i x) ws (tc+1)):=by
 have hw:Calls prog 74 #[ptr mb,.i i,.func (.func 75) #[] #[]] W (kR W mb wb (.i x) ws (tc+1)):=by
  have hi:i < ws.length:=(List.getElem?_eq_some_iff.1 hx).1;have n0:(0:Int)<=(i:Int):=ag
  have n1:(i:Int) < (ws.length:Int):=ag
  have n2:(i:Int)<=(ws.length:Int) - 1:=ag
  have n3:¬ (i:Int) < 0:=ag
  have n4:¬ (ws.length:Int)<=(i:Int):=ag
  have hwr:IntKind.i64.wrap (tc+1)=tc+1:=by rw[IntKind.wrap_i64];omega
  have c0:=h.c0;have c1:=h.c1;have f1:=h.f1;have h2:=h.touch (tc+1);have hC:aD (dJ mb wb) W (W.setCell ⟨mb,1,none⟩ (.i (tc+1))):=(aD.refl _ W).setCell _ _ (fun _=>.inl rfl);have hcell:=h2.row.get hx
  go_enter func74,ntmps74
  go_upto_region 5 with(fail);generalize W.setCell ⟨mb,1,none⟩ (.i (tc+1))=W2 at *;have d0:=h2.c0;clear c0 c1 f1;go_wp2_with fail;refine(Gp W2 _ x hcell).mono ?_;rintro e w3 ⟨rfl,rfl⟩;go_wp2_with fail;go_ret;exact⟨rfl,h2,hC⟩
 go_enter func56,ntmps56
 go_wp2_with fail;refine hw.mono ?_;rintro e w3 ⟨rfl,h2,hC⟩;go_wp2_with fail;go_ret;exact⟨rfl,h2,hC⟩
end
theorem eO {B:Nat} {a w:World} (h:Below B a w) (n:Nat):Below B a (w.drewN n):=⟨h.os,h.tape,h.output,h.size,h.block⟩
theorem JO (W:World) (p q:Addr) (x d:Int) (h:W.cell? p=some (.i x)) (hf:W.frozen? p=false) (hq:W.cell? q=some (.i d)) (hpq:p≠q):Calls prog 280 #[.pointer (some p),.pointer (some q)] W fun e W'=>e=.returned (.i x)/\(W.setCell p (.i (wrap64 (x+d)))).drew=W':=by
 go_enter func280,ntmps280
 go_wp2_with fail;go_region;go_wp2_with fail;go_ret;exact⟨rfl,rfl⟩
section
variable {W:World} {mb wb:Nat} {ws:List Int} {tc:Int}
theorem gu (h:bB W mb wb ws tc) (ht:0<=tc/\tc<=4000000000000000000) (i:Nat) (x:Int) (hx:ws[i]? =some x) (v:Int):Calls prog 57 #[ptr mb,.i i,.i v] W (kR W mb wb (.bool true) (ws.set i v) (tc+1)):=by
 have hB:Below W.heap.size W (W.alloc (.cells #[.i v] 3)):=bZ.alloc aQ _;have b0:(W.alloc (.cells #[.i v] 3)).cell? ⟨W.heap.size,0,none⟩=some (.i v):=au
 have hs0:W.heap.size<=(W.alloc (.cells #[.i v] 3)).heap.size:=hB.size;have hlt:=h.lt;have h1:=h.below hB
 have hw:∀ W1,bB W1 mb wb ws tc->Below W.heap.size W W1->W1.cell? ⟨W.heap.size,0,none⟩=some (.i v)->Calls prog 76 #[ptr mb,.i i,.func (.func 77) #[] #[ptr W.heap.size]] W1 (kR W1 mb wb (.bool true) (ws.set i v) (tc+1)):=by
  intro W1 h hB1 q0;have hi:i < ws.length:=(List.getElem?_eq_some_iff.1 hx).1;have n0:(0:Int)<=(i:Int):=ag
  have n1:(i:Int) < (ws.length:Int):=ag
  have n2:(i:Int)<=(ws.length:Int) - 1:=ag
  have n3:¬ (i:Int) < 0:=ag
  have n4:¬ (ws.length:Int)<=(i:Int):=ag
  have hwr:IntKind.i64.wrap (tc+1)=tc+1:=by rw[IntKind.wrap_i64];omega
  have c0:=h.c0;have c1:=h.c1;have f1:=h.f1;have h2:=h.touch (tc+1);have hC:aD (dJ mb wb) W1 (W1.setCell ⟨mb,1,none⟩ (.i (tc+1))):=(aD.refl _ W1).setCell _ _ (fun _=>.inl rfl);have hcell:=h2.row.get hx;have hfz:=h2.frozen i;have r0:(W1.setCell ⟨mb,1,none⟩ (.i (tc+1))).cell? ⟨W.heap.size,0,none⟩=some (.i v):=(World.cell?_setCell_far _ _ _ _ (by simp;omega)).trans q0
  go_enter func76,ntmps76
  go_upto_region 5 with(fail);generalize W1.setCell ⟨mb,1,none⟩ (.i (tc+1))=W2 at *;have d0:=h2.c0;clear c0 c1 f1;go_wp2_with fail;refine(Dj W2 _ _ x v hcell hfz r0).mono ?_;rintro e w3 ⟨rfl,rfl⟩;go_wp2_with fail;go_ret;exact⟨rfl,h2.put i v,hC.setCell _ _ (fun _=>.inr rfl)⟩
 have hg:=hw _ h1 hB b0;clear hw
 go_enter func57,ntmps57
 go_wp2_with fail;refine hg.mono ?_;rintro e w3 ⟨rfl,h2,hC⟩;go_wp2_with fail;go_ret;exact⟨rfl,h2,(aD.aF (F:=dJ mb wb) hB).trans hC (fun _ _ h=>h)⟩
theorem jv (h:bB W mb wb ws tc) (ht:0<=tc/\tc<=4000000000000000000) (i:Nat) (x:Int) (hx:ws[i]? =some x) (z:Int):Calls prog 166 #[ptr mb,.i i,.i x,.i z] W (kR W mb wb (.bool true) (ws.set i z) (tc+1)):=by
 have hB:Below W.heap.size W ((W.alloc (.cells #[.i x] 3)).alloc (.cells #[.i z] 3)):=(bZ.alloc aQ _).alloc au _;have b0:((W.alloc (.cells #[.i x] 3)).alloc (.cells #[.i z] 3)).cell? ⟨W.heap.size,0,none⟩=some (.i x):=au
 have b1:((W.alloc (.cells #[.i x] 3)).alloc (.cells #[.i z] 3)).cell? ⟨W.heap.size+1,0,none⟩=some (.i z):=au
 have hs0:W.heap.size<=((W.alloc (.cells #[.i x] 3)).alloc (.cells #[.i z] 3)).heap.size:=hB.size;have hlt:=h.lt;have h1:=h.below hB
 have hw:∀ W1,bB W1 mb wb ws tc->Below W.heap.size W W1->W1.cell? ⟨W.heap.size,0,none⟩=some (.i x)->W1.cell? ⟨W.heap.size+1,0,none⟩=some (.i z)->Calls prog 76 #[ptr mb,.i i,.func (.func 222) #[] #[ptr W.heap.size,ptr (W.heap.size+1)]] W1 (kR W1 mb wb (.bool true) (ws.set i z) (tc+1)):=by
  intro W1 h hB1 q0 q1;have hi:i < ws.length:=(List.getElem?_eq_some_iff.1 hx).1;have n0:(0:Int)<=(i:Int):=ag
  have n1:(i:Int) < (ws.length:Int):=ag
  have n2:(i:Int)<=(ws.length:Int) - 1:=ag
  have n3:¬ (i:Int) < 0:=ag
  have n4:¬ (ws.length:Int)<=(i:Int):=ag
  have hwr:IntKind.i64.wrap (tc+1)=tc+1:=by rw[IntKind.wrap_i64];omega
  have c0:=h.c0;have c1:=h.c1;have f1:=h.f1;have h2:=h.touch (tc+1);have hC:aD (dJ mb wb) W1 (W1.setCell ⟨mb,1,none⟩ (.i (tc+1))):=(aD.refl _ W1).setCell _ _ (fun _=>.inl rfl);have hcell:=h2.row.get hx;have hfz:=h2.frozen i;have r0:(W1.setCell ⟨mb,1,none⟩ (.i (tc+1))).cell? ⟨W.heap.size,0,none⟩=some (.i x):=(World.cell?_setCell_far _ _ _ _ (by simp;omega)).trans q0;have r1:(W1.setCell ⟨mb,1,none⟩ (.i (tc+1))).cell? ⟨W.heap.size+1,0,none⟩=some (.i z):=(World.cell?_setCell_far _ _ _ _ (by simp;omega)).trans q1
  go_enter func76,ntmps76
  go_upto_region 5 with(fail);generalize W1.setCell ⟨mb,1,none⟩ (.i (tc+1))=W2 at *;have d0:=h2.c0;clear c0 c1 f1;go_wp2_with fail;refine(Nq W2 _ _ _ x z hcell hfz r0 r1).mono ?_;rintro e w3 ⟨rfl,n,rfl⟩;go_wp2_with fail;go_ret;exact⟨rfl,(h2.below (eO bZ n)).put i z,(hC.trans (aD.aF (F:=dJ mb wb) (eO bZ n)) (fun _ _ h=>h)).setCell _ _ (fun _=>.inr rfl)⟩
 have hg:=hw _ h1 hB b0 b1;clear hw
 go_enter func166,ntmps166
 go_wp2_with fail;refine hg.mono ?_;rintro e w3 ⟨rfl,h2,hC⟩;go_wp2_with fail;go_ret;exact⟨rfl,h2,(aD.aF (F:=dJ mb wb) hB).trans hC (fun _ _ h=>h)⟩
theorem jw (h:bB W mb wb ws tc) (ht:0<=tc/\tc<=4000000000000000000) (i:Nat) (x:Int) (hx:ws[i]? =some x) (y z:Int) (hne:x≠y):Calls prog 166 #[ptr mb,.i i,.i y,.i z] W (kR W mb wb (.bool false) (ws) (tc+1)):=by
 have hB:Below W.heap.size W ((W.alloc (.cells #[.i y] 3)).alloc (.cells #[.i z] 3)):=(bZ.alloc aQ _).alloc au _;have b0:((W.alloc (.cells #[.i y] 3)).alloc (.cells #[.i z] 3)).cell? ⟨W.heap.size,0,none⟩=some (.i y):=au
 have b1:((W.alloc (.cells #[.i y] 3)).alloc (.cells #[.i z] 3)).cell? ⟨W.heap.size+1,0,none⟩=some (.i z):=au
 have hs0:W.heap.size<=((W.alloc (.cells #[.i y] 3)).alloc (.cells #[.i z] 3)).heap.size:=hB.size;have hlt:=h.lt;have h1:=h.below hB
 have hw:∀ W1,bB W1 mb wb ws tc->Below W.heap.size W W1->W1.cell? ⟨W.heap.size,0,none⟩=some (.i y)->W1.cell? ⟨W.heap.size+1,0,none⟩=some (.i z)->Calls prog 76 #[ptr mb,.i i,.func (.func 222) #[] #[ptr W.heap.size,ptr (W.heap.size+1)]] W1 (kR W1 mb wb (.bool false) (ws) (tc+1)):=by
  intro W1 h hB1 q0 q1;have hi:i < ws.length:=(List.getElem?_eq_some_iff.1 hx).1;have n0:(0:Int)<=(i:Int):=ag
  have n1:(i:Int) < (ws.length:Int):=ag
  have n2:(i:Int)<=(ws.length:Int) - 1:=ag
  have n3:¬ (i:Int) < 0:=ag
  have n4:¬ (ws.length:Int)<=(i:Int):=ag
  have hwr:IntKind.i64.wrap (tc+1)=tc+1:=by rw[IntKind.wrap_i64];omega
  have c0:=h.c0;have c1:=h.c1;have f1:=h.f1;have h2:=h.touch (tc+1);have hC:aD (dJ mb wb) W1 (W1.setCell ⟨mb,1,none⟩ (.i (tc+1))):=(aD.refl _ W1).setCell _ _ (fun _=>.inl rfl);have hcell:=h2.row.get hx;have hfz:=h2.frozen i;have r0:(W1.setCell ⟨mb,1,none⟩ (.i (tc+1))).cell? ⟨W.heap.size,0,none⟩=some (.i y):=(World.cell?_setCell_far _ _ _ _ (by simp;omega)).trans q0;have r1:(W1.setCell ⟨mb,1,none⟩ (.i (tc+1))).cell? ⟨W.heap.size+1,0,none⟩=some (.i z):=(World.cell?_setCell_far _ _ _ _ (by simp;omega)).trans q1
  go_enter func76,ntmps76
  go_upto_region 5 with(fail);generalize W1.setCell ⟨mb,1,none⟩ (.i (tc+1))=W2 at *;have d0:=h2.c0;clear c0 c1 f1;go_wp2_with fail;refine(Nr W2 _ _ _ x y z hcell hfz r0 r1 hne).mono ?_;rintro e w3 ⟨rfl,n,rfl⟩;go_wp2_with fail;go_ret;exact⟨rfl,h2.below (eO bZ n),hC.trans (aD.aF (F:=dJ mb wb) (eO bZ n)) (fun _ _ h=>h)⟩
 have hg:=hw _ h1 hB b0 b1;clear hw
 go_enter func166,ntmps166
 go_wp2_with fail;refine hg.mono ?_;rintro e w3 ⟨rfl,h2,hC⟩;go_wp2_with fail;go_ret;exact⟨rfl,h2,(aD.aF (F:=dJ mb wb) hB).trans hC (fun _ _ h=>h)⟩
theorem Ns (h:bB W mb wb ws tc) (ht:0<=tc/\tc<=4000000000000000000) (i:Nat) (x:Int) (hx:ws[i]? =some x) (d:Int):Calls prog 279 #[ptr mb,.i i,.i d] W (kR W mb wb (.i x) (ws.set i (wrap64 (x+d))) (tc+1)):=by
 have hB:Below W.heap.size W (W.alloc (.cells #[.i d] 3)):=bZ.alloc aQ _;have b0:(W.alloc (.cells #[.i d] 3)).cell? ⟨W.heap.size,0,none⟩=some (.i d):=au
 have hs0:W.heap.size<=(W.alloc (.cells #[.i d] 3)).heap.size:=hB.size;have hlt:=h.lt;have h1:=h.below hB
 have hw:∀ W1,bB W1 mb wb ws tc->Below W.heap.size W W1->W1.cell? ⟨W.heap.size,0,none⟩=some (.i d)->Calls prog 74 #[ptr mb,.i i,.func (.func 280) #[] #[ptr W.heap.size]] W1 (kR W1 mb wb (.i x) (ws.set i (wrap64 (x+d))) (tc+1)):=by
  intro W1 h hB1 q0;have hi:i < ws.length:=(List.getElem?_eq_some_iff.1 hx).1;have n0:(0:Int)<=(i:Int):=ag
  have n1:(i:Int) < (ws.length:Int):=ag
  have n2:(i:Int)<=(ws.length:Int) - 1:=ag
  have n3:¬ (i:Int) < 0:=ag
  have n4:¬ (ws.length:Int)<=(i:Int):=ag
  have hwr:IntKind.i64.wrap (tc+1)=tc+1:=by rw[IntKind.wrap_i64];omega
  have c0:=h.c0;have c1:=h.c1;have f1:=h.f1;have h2:=h.touch (tc+1);have hC:aD (dJ mb wb) W1 (W1.setCell ⟨mb,1,none⟩ (.i (tc+1))):=(aD.refl _ W1).setCell _ _ (fun _=>.inl rfl);have hcell:=h2.row.get hx;have hfz:=h2.frozen i;have r0:(W1.setCell ⟨mb,1,none⟩ (.i (tc+1))).cell? ⟨W.heap.size,0,none⟩=some (.i d):=(World.cell?_setCell_far _ _ _ _ (by simp;omega)).trans q0
  go_enter func74,ntmps74
  go_upto_region 5 with(fail);generalize W1.setCell ⟨mb,1,none⟩ (.i (tc+1))=W2 at *;have d0:=h2.c0;clear c0 c1 f1;go_wp2_with fail;refine(JO W2 _ _ x d hcell hfz r0 (by simp<;>omega)).mono ?_;rintro e w3 ⟨rfl,rfl⟩;go_wp2_with fail;go_ret;exact⟨rfl,(h2.put i _).below bY,(hC.setCell _ _ (fun _=>.inr rfl)).drew⟩
 have hg:=hw _ h1 hB b0;clear hw
 go_enter func279,ntmps279
 go_wp2_with fail;refine hg.mono ?_;rintro e w3 ⟨rfl,h2,hC⟩;go_wp2_with fail;go_ret;exact⟨rfl,h2,(aD.aF (F:=dJ mb wb) hB).trans hC (fun _ _ h=>h)⟩
end
end Cl
namespace Field
open Go.RowKit Hp
abbrev AV (a b:Nat):Value:=.agg #[.i a,.i b]
def R (a b:Nat):Prop:=1<=b/\a+b<=62
theorem eP (w:World) (a b:Nat) (h:R a b):Calls prog 130 #[AV a b] w fun e w'=>e=.returned (.bool true)/\Below w.heap.size w w':=by
 obtain⟨h1,h2⟩:=h
 go_enter func130,ntmps130
 go_wp2
 go_ret;exact⟨Base.aN (by simp;omega),bZ.alloc aQ _⟩
def mx (b:Nat):Nat:=2 ^ b - 1
theorem JV {b:Nat} (h:b<=62):mx b+1<=4611686018427387904:=by
 have h1:2 ^ b<=2 ^ 62:=Nat.pow_le_pow_right aT h;have h2:1<=2 ^ b:=Nat.one_le_two_pow;unfold mx;omega
theorem qN {n:Int} (h:-9223372036854775808<=n) (h2:n<=9223372036854775807):wrap64 n=n:=by
 unfold wrap64;omega
theorem mU (w:World) (a b:Nat) (h:R a b):Calls prog 151 #[AV a b] w fun e w'=>e=.returned (.i (mx b))/\Below w.heap.size w w':=by
 have hr:=fun w=>eP w a b h
 obtain⟨h3,h4⟩:=h;have hm:=JV (show b<=62 by omega)
 have hp:((2:Int) ^ b)=(mx b:Int)+1:=by
  have h2:1<=2 ^ b:=Nat.one_le_two_pow;have:((2 ^ b:Nat):Int)=(2:Int) ^ b:=by push_cast;rfl
  rw[<- this];unfold mx;omega
 have Hp:=uH hp;clear hp
 go_enter func151,ntmps151
 go_wp2_with fail;refine(hr _).mono ?_;rintro e w' ⟨rfl,hb⟩;have hc:w'.cell? ⟨w.heap.size,1,none⟩=some (.i b):=by rw[hb.cell au];simp
 have hB:Below w.heap.size w w':=(bZ.alloc aQ _).trans (hb.mono au);clear hb;go_wp2_with fail;go_ret;refine⟨Base.vk ?_,hB⟩;rw[Hp.out,qN (n:=(mx b:Int)+1) ag ag,qN ag ag];omega
theorem qO (w:World) (a b:Nat) (h:R a b):Calls prog 213 #[AV a b] w fun e w'=>e=.returned (.i (mx b * 2 ^ a))/\Below w.heap.size w w':=by
 have hr:=fun w=>mU w a b h
 obtain⟨h3,h4⟩:=h
 have hm:(mx b:Int) * 2 ^ a<=9223372036854775807:=by
  have h1:2 ^ b * 2 ^ a<=2 ^ 62:=by rw[<- Nat.pow_add];exact Nat.pow_le_pow_right aT ag
  have h2:mx b * 2 ^ a<=2 ^ b * 2 ^ a:=Nat.mul_le_mul_right _ (by unfold mx;exact Nat.sub_le _ _);have h3:((mx b * 2 ^ a:Nat):Int)=(mx b:Int) * 2 ^ a:=by push_cast;rfl
  rw[<- h3];exact Int.le_trans (Int.ofNat_le.2 (Nat.le_trans h2 h1)) aT
 have hm0:0<=(mx b:Int) * 2 ^ a:=Int.mul_nonneg ag (Int.pow_nonneg aT);have Hm:=uH hm;have Hm0:=uH hm0;clear hm hm0
 go_enter func213,ntmps213
 go_wp2_with fail;have hr1:=hr (w.alloc (.cells #[.i a,.i b] 136)).drew
 go_region_held3 (fun w'=>w'.cell? ⟨w.heap.size,0,none⟩=some (.i a)/\w'.cell? ⟨w.heap.size,1,none⟩=some (.i b)) (first | go_keep | assumption | exact⟨aI,aI⟩)
  ((first
  | (go_at_call 151;refine(hr _).mono ?_;rintro e w6 ⟨rfl,hb6⟩;have hc0:w6.cell? ⟨w.heap.size,0,none⟩=some (.i a):=(by rw[hb6.cell au];simp);have hc1:w6.cell? ⟨w.heap.size,1,none⟩=some (.i b):=(by rw[hb6.cell au];simp))))
 have hB:Below w.heap.size w w6:=((bZ.alloc aQ _).drew).trans (hb6.mono au);have Yt:=Hm0.out;have Yu:=Hm.out
 have hwr:IntKind.i64.wrap ((mx b:Int) * 2 ^ a)=(mx b:Int) * 2 ^ a:=by
  generalize (mx b:Int) * 2 ^ a=z at *;rw[IntKind.wrap_i64];omega
 clear Yt Yu;clear hc0 hc1 hb6;go_wp2_with fail;go_ret;exact⟨Base.vk hwr,hB⟩
theorem NB (w:World) (n:Int) (a b:Nat) (x:Int) (h:R a b):Calls prog 152 #[.i n,AV a b,.i x] w fun e w'=>(∃ z,e=.returned (.i z))/\Below w.heap.size w w':=by
 have hr:=fun w=>eP w a b h
 have hm:=fun w=>mU w a b h
 have hk:=fun w=>qO w a b h
 go_enter func152,ntmps152
 go_wp2_with fail;refine(hr _).mono ?_;rintro e w5 ⟨rfl,hb5⟩;have hc0:w5.cell? ⟨w.heap.size,0,none⟩=some (.i a):=by rw[hb5.cell au];simp
 have hc1:w5.cell? ⟨w.heap.size,1,none⟩=some (.i b):=by rw[hb5.cell au];simp
 have hB:Below w.heap.size w w5:=(bZ.alloc aQ _).trans (hb5.mono au);have hlt:w.heap.size < w5.heap.size:=dN hc0;clear hb5;go_wp2_with fail
 go_region_held3 (fun w'=>w'.cell? ⟨w.heap.size,0,none⟩=some (.i a)/\w'.cell? ⟨w.heap.size,1,none⟩=some (.i b)) (first | go_keep | assumption | exact⟨aI,aI⟩)
  ((first
  | (go_at_call 213;refine(hk _).mono ?_;rintro e w6 ⟨rfl,hb6⟩;have hc2:=(hb6.cell hlt).trans hc0;have hc3:=(hb6.cell hlt).trans hc1;have kS:=hB.drew.trans (hb6.mono (Nat.le_of_lt hlt)))
  | (go_at_call 151;refine(hm _).mono ?_;rintro e w7 ⟨rfl,cB⟩;have Dp:=Nat.lt_of_lt_of_le hlt hb6.size;have hc4:=(cB.cell (p:=⟨w.heap.size,0,none⟩) Dp).trans hc2;have gz:=(cB.cell (p:=⟨w.heap.size,1,none⟩) Dp).trans hc3;have kN:=kS.trans (cB.mono (Nat.le_of_lt Dp)))))
 go_wp2_with fail;go_ret;exact⟨⟨_,rfl⟩,kN⟩
end Field
namespace je
open Go.RowKit Hp
structure dK (B:Nat) (W W':World):Prop where
 os:W'.os=W.os
 tape:W'.tape=W.tape
 output:W'.output=W.output
 size:W.heap.size<=W'.heap.size
 block:∀ k,k < B->k < W.heap.size->W'.heap[k]? =W.heap[k]?
 cells:∀ (k:Nat) (o:Obj),W.heap[k]? =some o->o.isCells=true->W'.heap[k]? =some o
theorem dK.refl (B:Nat) (W:World):dK B W W:=⟨rfl,rfl,rfl,Nat.le_refl _,fun _ _ _=>rfl,fun _ _ h _=>h⟩
variable {W':World}
theorem dK.alloc {B:Nat} {W:World} (h:dK B W W') (o:Obj):dK B W (W'.alloc o):=
 ⟨h.os,h.tape,h.output,by have:=h.size;simp;omega,fun k hk hs=>(Below.heap_alloc _ _ _ (Nat.lt_of_lt_of_le hs h.size)).trans (h.block k hk hs),
  fun k o hk hc=>(Below.heap_alloc _ _ _ (Array.getElem?_eq_some_iff.1 (h.cells k o hk hc)).1).trans (h.cells k o hk hc)⟩
theorem dK.putObj {B:Nat} {W:World} (h:dK B W W') {l:Nat} {o:Obj} (o':Obj) (hl:B<=l) (ho:W'.heap[l]? =some o) (hc:o.isCells=false):dK B W (W'.putObj l o'):=
 ⟨h.os,h.tape,h.output,by have:=h.size;simpa using this,fun k hk hs=>(World.putObj_heap_other (by omega)).trans (h.block k hk hs),
  fun k o2 hk hc2=>by
   have h1:=h.cells k o2 hk hc2;refine(World.putObj_heap_other (fun e=>?_)).trans h1;subst e;rw[ho]at h1;cases h1;rw[hc]at hc2;cases hc2⟩
theorem dK.below {B A:Nat} {w W:World} (h:dK B W W') (hb:Below A w W) (hA:A<=B) (hw:A<=w.heap.size):Below A w W':=
 hb.trans ⟨h.os,h.tape,h.output,h.size,fun k hk=>h.block k (by omega) (by have:=hb.size;omega)⟩
theorem dK.cell {B:Nat} {W:World} (h:dK B W W') {p:Addr} {v:Value} (hc:W.cell? p=some v):W'.cell? p=some v:=by
 obtain⟨o,ho,hoc⟩:=cells_of_cell hc;exact(World.cell?_of_block ((h.cells _ _ ho hoc).trans ho.symm)).trans hc
theorem dK.frozen {B:Nat} {W:World} (h:dK B W W') {p:Addr} {v:Value} (hc:W.cell? p=some v):W'.frozen? p=W.frozen? p:=by
 obtain⟨o,ho,hoc⟩:=cells_of_cell hc;exact World.frozen?_of_block ((h.cells _ _ ho hoc).trans ho.symm)
theorem _root_.Hp.SliceAt.turn {B:Nat} {w w':World} {v:Value} {xs:List Value} (h:SliceAt w v xs) (ht:dK B w w'):SliceAt w' v xs:=h.stable fun p u hp=>ht.cell hp
end je
namespace je
open Go.RowKit Hp
structure gY (Ww:Nat->Prop) (W W':World):Prop where
 size:W.heap.size<=W'.heap.size
 same:∀ k,k < W.heap.size->¬ Ww k->W'.heap[k]? =W.heap[k]?
theorem gY.pU {Ww F:Nat->Prop} {W W':World} (h:aD F W W') (hF:∀ k,k < W.heap.size->F k->Ww k):gY Ww W W':=
 ⟨h.size,fun k hk hn=>h.block k hk fun hf=>hn (hF k hk hf)⟩
def RJ {σ α:Type} (P:Program) (gf:Nat) (lb:Array Value) (encs:α->Array Value) (Ww Wr:Nat->Prop) (qP:σ->World->σ->Prop) (Yields:σ->World->α->σ->Prop) (Done:σ->World->Prop) (s0:σ) (W:World):Prop:=
 ∀ (l:Nat) (J:σ->World->Prop) (Jx:World->Prop),
  (∀ s W W',J s W->aD Wr W W'->J s W')->(∀ s s' W,J s W->qP s W s'->J s' W)->
  (∀ s x s' W,J s W->Yields s W x s'->YieldAt Fence.wide 7 P l (encs x) W fun e W'=>
   (e=.returned (.bool true)/\J s' W'/\gY Ww W W')\/(e=.returned (.bool false)/\Jx W'))->
  J s0 W->
  CallsIn Fence.wide 8 P gf (#[.func (.yield l) #[] #[]] ++ lb) W fun e W'=>(∃ v,e=.returned v)/\((∃ s,Done s W'/\J s W')\/Jx W')
def IW (Ww:Nat->Prop) (K:World->Prop) (Kx:Code->World->Prop) (W:World):Exit->Act->World->Prop
 | .normal,_,W'=>gY Ww W W'/\K W'
 | .ret,_,W'=>gY Ww W W'/\Kx .ret W'
 | .exit id,_,W'=>gY Ww W W'/\Kx (.exit id) W'
 | .goto t,_,W'=>gY Ww W W'/\Kx (.goto t) W'
 | .panic _,_,_=>False
 | .outgrown,_,_=>False
theorem jg {σ α:Type} {P:Program} {g:Operand} {ps:Array Tmp} {assign body:Code} {Q:Exit->Act->World->Prop} {a:Act} {w:World}
  {gf:Nat} {lb:Array Value} (hg:a.eval g=.func (.func gf) #[] lb) (eg:∀ args w,(callFunc gf args).run P w=.ok (.enter gf args) w)
  {encs:α->Array Value} {Ww Wr:Nat->Prop} {qP:σ->World->σ->Prop} {Yields:σ->World->α->σ->Prop} {Done:σ->World->Prop} {s0:σ}
  (hps:∀ x,(encs x).size=ps.size) (Fg:∀ k,Ww k\/Wr k->k < w.heap.size)
  (hseq:∀ W1,dK w.heap.size w W1->RJ P gf lb encs Ww Wr qP Yields Done s0 W1)
  (K:σ->World->Prop) (Kx:Code->World->Prop)
  (hKs:∀ s W W',K s W->aD Wr W W'->K s W') (hKk:∀ s s' W,K s W->qP s W s'->K s' W)
  (hKt:∀ s W W',K s W->dK w.heap.size W W'->K s W') (xP:∀ c W W',Kx c W->dK w.heap.size W W'->Kx c W') (hYt:∀ s x s' W W',Yields s W x s'->dK w.heap.size W W'->Yields s W' x s')
  (hDt:∀ s W W',Done s W->dK w.heap.size W W'->Done s W')
  (hYc:∀ s x s' W W',Yields s W x s'->aD (fun _=>False) W W'->Yields s W' x s')
  (h0:K s0 w)
  (Ub:∀ (l:Nat) (s:σ) (x:α) (s':σ) (W:World),w.heap.size < l->l < W.heap.size->K s W->Yields s W x s'->
   assign.wpIn (Fence.wide.inRound l) 7 P (Exit.then (fun a' W'=>aD (fun _=>False) W W'/\∀ W2:World,dK w.heap.size W' W2->(∃ r,W2.heap[l]? =some (.loop r))->K s W2->Yields s W2 x s'->
    body.wpIn (Fence.wide.inRound l) 7 P (IW Ww (K s') Kx W2) a' W2) (fun _ _ _=>False)) {tmps:=(ps.zip (encs x)).foldl (fun t (p,v)=>t.setIfInBounds p v) a.tmps,defers:=[]} W)
  (hdone:∀ (D:Nat) (s:σ) (W:World),w.heap.size<=D->Done s W->K s W->W.heap[D]? =some (.deferred (some []))->Q .normal {a with defers:={target:=.collected D,args:=#[]} :: a.defers} W)
  (hstop:∀ (D:Nat) (c:Code) (W:World),w.heap.size<=D->Kx c W->W.heap[D]? =some (.deferred (some []))->c.wpIn Fence.wide 9 P Q {a with defers:={target:=.collected D,args:=#[]} :: a.defers} W):
  (Code.rangeFunc g ps assign body).wpIn Fence.wide 9 P Q a w:=by
 refine wpIn_rangeFunc ?_;intro fn hfn;obtain⟨rec,hrec⟩:∃ rec:LoopState->Option Code->Loop,rec=fun st pe=>{state:=st,pending:=pe,fn,tmps:=a.tmps,params:=ps,assign,body,defers:=w.heap.size}:=⟨_,rfl⟩
 obtain⟨W1,hW1⟩:∃ W1,(w.alloc (.deferred (some []))).alloc (.loop (rec .ready none))=W1:=⟨_,rfl⟩
 have hL1:W1.heap[w.heap.size+1]? =some (.loop (rec .ready none)):=by
  rw[<- hW1];have:=World.alloc_heap_new (w.alloc (.deferred (some []))) (.loop (rec .ready none));rwa [World.size_alloc]at this
 have hK1:W1.heap[w.heap.size]? =some (.deferred (some [])):=by
  rw[<- hW1];exact(Below.heap_alloc _ _ _ (by simp)).trans (World.alloc_heap_new w _)
 have hT1:dK w.heap.size w W1:=by rw[<- hW1];exact((dK.refl _ _).alloc _).alloc _
 refine⟨w.heap.size+1,[{target:=.collected w.heap.size,args:=#[]}],W1,{target:=.fn (.func gf) lb,args:=#[.func (.yield (w.heap.size+1)) #[] #[]]},W1,gf,
  #[.func (.yield (w.heap.size+1)) #[] #[]] ++ lb,W1,?_,?_,?_,?_,fun h=>by simp[Fence.wide]at h,?_⟩
 ·rw[<- hW1,hrec];exact run_enterLoop_outer _ _ _ _ _
 ·simp only[resolve,hg];simp[go_sem]
 ·intro f' hf';exact trivial
 ·simp[invoke,go_sem,eg]
 ·refine((hseq W1 hT1) (w.heap.size+1)
   (fun s W=>K s W/\W.heap[w.heap.size+1]? =some (.loop (rec .ready none))/\W.heap[w.heap.size]? =some (.deferred (some [])))
   (fun W=>∃ c,Kx c W/\W.heap[w.heap.size+1]? =some (.loop (rec .done (some c)))/\W.heap[w.heap.size]? =some (.deferred (some [])))
   (fun s W W' h hc=>⟨hKs s W W' h.1 hc,(hc.block _ (Array.getElem?_eq_some_iff.1 h.2.1).1 (fun hw=>by have:=Fg _ (.inr hw);omega)).trans h.2.1,(hc.block _ (Array.getElem?_eq_some_iff.1 h.2.2).1 (fun hw=>by have:=Fg _ (.inr hw);omega)).trans h.2.2⟩)
   (fun s s' W h hs=>⟨hKk s s' W h.1 hs,h.2⟩)
   ?_ ⟨hKt _ _ _ h0 hT1,hL1,hK1⟩).mono ?_
  ·rintro s x s' W ⟨hi,hl,hk⟩ hyl;have hlt:w.heap.size+1 < W.heap.size:=(Array.getElem?_eq_some_iff.1 hl).1;have hy:=run_yield (P:=P) (args:=encs x) hl (by rw[hrec];exact hps x);rw[hrec]at hy;refine⟨fn,_,assign,body,hy,roundIn_of_wpIn hfn (wpIn_mono (Ub _ s x s' W (by omega) hlt hi hyl) ?_)⟩;clear hy;rintro e a' W' he
   cases e with
   | normal=>?_
   | ret=>exact he
   | exit id=>exact he
   | goto t=>exact he
   | panic ch=>exact he
   | outgrown=>exact he
   obtain⟨hch,hbody⟩:=he;have hl0:=hl;have hl:W'.heap[w.heap.size+1]? =some (.loop (rec .ready none)):=(hch.block _ hlt id).trans hl0;have hk:W'.heap[w.heap.size]? =some (.deferred (some [])):=(hch.block _ (by omega) id).trans hk;have hi:K s W':=hKs s W W' hi (hch.mono fun _ _ h=>h.elim);have hyl:Yields s W' x s':=hYc _ _ _ _ _ hyl hch;have DX:=hlt;have hlt:w.heap.size+1 < W'.heap.size:=Nat.lt_of_lt_of_le DX hch.size;refine⟨_,run_beginRound hl (by rw[hrec]),?_⟩;have hl2:(W'.putObj (w.heap.size+1) (.loop {rec .ready none with state:=.busy})).heap[w.heap.size+1]? =some (.loop {rec .ready none with state:=.busy}):=World.putObj_heap_same hlt;have hk2:(W'.putObj (w.heap.size+1) (.loop {rec .ready none with state:=.busy})).heap[w.heap.size]? =some (.deferred (some [])):=(World.putObj_heap_other (by omega)).trans hk
   have vQ:dK w.heap.size W' (W'.putObj (w.heap.size+1) (.loop {rec .ready none with state:=.busy})):=(dK.refl _ _).putObj _ (by omega) hl rfl;refine wpIn_mono (hbody _ vQ ⟨_,hl2⟩ (hKt _ _ _ hi vQ) (hYt _ _ _ _ _ hyl vQ)) ?_
   have fin:∀ (jump:Option Code) (W3:World),gY Ww (W'.putObj (w.heap.size+1) (.loop {rec .ready none with state:=.busy})) W3->
     (Instr.endRound (w.heap.size+1) jump).run P W3=.ok (.bool jump.isNone) (W3.putObj (w.heap.size+1) (.loop (rec (if jump.isNone then .ready else .done) jump)))/\
     W3.heap[w.heap.size+1]? =some (.loop {rec .ready none with state:=.busy})/\
     (W3.putObj (w.heap.size+1) (.loop (rec (if jump.isNone then .ready else .done) jump))).heap[w.heap.size+1]? =some (.loop (rec (if jump.isNone then .ready else .done) jump))/\
     (W3.putObj (w.heap.size+1) (.loop (rec (if jump.isNone then .ready else .done) jump))).heap[w.heap.size]? =some (.deferred (some [])):=fun jump W3 hk3=>by
    have hl3:=(hk3.same _ (Array.getElem?_eq_some_iff.1 hl2).1 (fun hw=>by have:=Fg _ (.inl hw);omega)).trans hl2;have:=run_endRound (P:=P) jump hl3;rw[hrec]at this ⊢;exact⟨this,by rw[hrec]at hl3;exact hl3,World.putObj_heap_same (Array.getElem?_eq_some_iff.1 hl3).1,(World.putObj_heap_other (by omega)).trans ((hk3.same _ (Array.getElem?_eq_some_iff.1 hk2).1 (fun hw=>by have:=Fg _ (.inl hw);omega)).trans hk2)⟩
   rintro e a3 W3 hp
   cases e with
   | normal=>
    obtain⟨hk3,hi3⟩:=hp;obtain⟨hr,hl3,hl4,hk4⟩:=fin none W3 hk3;refine⟨_,_,hr,.inl ⟨rfl,⟨hKt _ _ _ hi3 ((dK.refl _ _).putObj _ (by omega) hl3 rfl),hl4,hk4⟩,?_,fun k hkk hn=>?_⟩⟩
    ·have:=hk3.size;have:=hch.size;simp at *;omega
    ·by_cases hkl:k=w.heap.size+1
     ·subst hkl;exact hl4.trans hl0.symm
     ·have hkW:k < W'.heap.size:=Nat.lt_of_lt_of_le hkk hch.size;exact(World.putObj_heap_other (by omega)).trans ((hk3.same k (by simpa using hkW) hn).trans ((World.putObj_heap_other (by omega)).trans (hch.block k hkk id)))
   | ret=>
    obtain⟨hk3,hi3⟩:=hp;obtain⟨hr,hl3,hl4,hk4⟩:=fin (some .ret) W3 hk3;exact⟨_,_,hr,.inr ⟨rfl,.ret,xP _ _ _ hi3 ((dK.refl _ _).putObj _ (by omega) hl3 rfl),hl4,hk4⟩⟩
   | exit id=>
    obtain⟨hk3,hi3⟩:=hp;obtain⟨hr,hl3,hl4,hk4⟩:=fin (some (.exit id)) W3 hk3;exact⟨_,_,hr,.inr ⟨rfl,.exit id,xP _ _ _ hi3 ((dK.refl _ _).putObj _ (by omega) hl3 rfl),hl4,hk4⟩⟩
   | goto t=>
    obtain⟨hk3,hi3⟩:=hp;obtain⟨hr,hl3,hl4,hk4⟩:=fin (some (.goto t)) W3 hk3;exact⟨_,_,hr,.inr ⟨rfl,.goto t,xP _ _ _ hi3 ((dK.refl _ _).putObj _ (by omega) hl3 rfl),hl4,hk4⟩⟩
   | panic ch=>exact hp.elim
   | outgrown=>exact hp.elim
  ·rintro e W2 ⟨⟨v,rfl⟩,(⟨s,hD,hi,hl,hk⟩ | ⟨c,hi,hl,hk⟩)⟩
   ·have hT:dK w.heap.size W2 (W2.putObj (w.heap.size+1) (.loop {rec .ready none with state:=.exhausted})):=(dK.refl _ _).putObj _ (by omega) hl rfl;exact⟨none,_,by have:=run_endLoop (P:=P) hl (by rw[hrec];simp);rw[hrec]at this;exact this,hdone _ s _ (Nat.le_refl _) (by rw[hrec]at hT;exact hDt _ _ _ hD hT) (by rw[hrec]at hT;exact hKt _ _ _ hi hT) ((World.putObj_heap_other (by omega)).trans hk)⟩
   ·have hT:dK w.heap.size W2 (W2.putObj (w.heap.size+1) (.loop {rec .done (some c)with state:=.exhausted})):=(dK.refl _ _).putObj _ (by omega) hl rfl;exact⟨some c,_,by have:=run_endLoop (P:=P) hl (by rw[hrec];simp);rw[hrec]at this;exact this,hstop _ c _ (Nat.le_refl _) (by rw[hrec]at hT;exact xP _ _ _ hi hT) ((World.putObj_heap_other (by omega)).trans hk)⟩
end je
namespace Field
open Go.RowKit Go.Shelf Hp je
attribute [local go_sem] Oper.semAt_some
def uQ (w:World) (g:Nat) (l:List (Nat×Nat)):Prop:=
 ∀ i x,l[i]? =some x->w.cell? ⟨g,i * 2,none⟩=some (.i x.1)/\w.cell? ⟨g,i * 2+1,none⟩=some (.i x.2)
theorem uQ.stable {w w':World} {g:Nat} {l:List (Nat×Nat)} (h:uQ w g l) (hb:w'.heap[g]? =w.heap[g]?):uQ w' g l:=fun i x hx=>
 ⟨(World.cell?_of_block (w:=w) hb).trans (h i x hx).1,(World.cell?_of_block (w:=w) hb).trans (h i x hx).2⟩
theorem uQ.turn {B:Nat} {w w':World} {g:Nat} {l:List (Nat×Nat)} (h:uQ w g l) (ht:dK B w w'):uQ w' g l:=fun i x hx=>
 ⟨ht.cell (h i x hx).1,ht.cell (h i x hx).2⟩
theorem uQ.lt {w:World} {g:Nat} {l:List (Nat×Nat)} (h:uQ w g l) (hl:0 < l.length):g < w.heap.size:=dN (h 0 l[0] (List.getElem?_eq_getElem hl)).1
theorem Gv (w:World) (g n:Nat):Calls prog 212 #[.slice (some ⟨g,0,none⟩) n n] w fun e w'=>
  e=.returned (.func (.func 253) #[] #[ptr w.heap.size])/\w'=w.alloc (.cells #[.slice (some ⟨g,0,none⟩) n n] 139):=by
 go_enter func212,ntmps212
 go_wp2
 go_ret;exact⟨rfl,rfl⟩
def NC (x:(Nat×Nat)×(Nat×Nat)):Array Value:=#[AV x.1.1 x.1.2,AV x.2.1 x.2.2]
def JY (l:List (Nat×Nat)) (s:Nat×Nat) (_:World) (s':Nat×Nat):Prop:=s.1 < l.length/\l.length<=s.1+1+s.2/\s'=(s.1+1,0)
def Ff (l:List (Nat×Nat)) (s:Nat×Nat) (_:World) (x:(Nat×Nat)×(Nat×Nat)) (s':Nat×Nat):Prop:=l[s.1]? =some x.1/\l[s.1+1+s.2]? =some x.2/\s'=(s.1,s.2+1)
theorem Gx (bx g:Nat) (l:List (Nat×Nat)) (Ww:Nat->Prop) (W:World) (hl:l.length<=1000) (h:uQ W g l) (hb:W.cell? ⟨bx,0,none⟩=some (.slice (some ⟨g,0,none⟩) l.length l.length))
  (hg:g < W.heap.size) (h1:¬ Ww g) (h2:¬ Ww bx) (h3:∀ k,Ww k->k < W.heap.size):
  RJ prog 253 #[ptr bx] NC Ww (fun _=>False) (JY l)
   (Ff l) (fun s _=>s.1=l.length) (0,0) W:=by
 intro L J Jx hJs Yz hY h0;refine callsIn_of_wp func253 rfl trivial ?_ rfl;simp only[ntmps253,List.size_toArray,List.length_cons,List.length_nil,Nat.reduceAdd,Nat.reduceSub,Array.replicate_succ,Array.replicate_zero,List.push_toArray,List.append_toArray,List.nil_append,List.cons_append];have hbs:bx < W.heap.size:=dN hb
 gi_wp2
 gi_loopw [9] (fun i wr=>∃ k:Nat,k<=l.length/\i=.i k/\uQ wr g l/\wr.cell? ⟨bx,0,none⟩=some (.slice (some ⟨g,0,none⟩) l.length l.length)/\J (k,0) wr/\W.heap.size<=wr.heap.size) (fun i _=>l.length - (intOf i).toNat)
 case atStart=>exact⟨0,ag,rfl,h,hb,h0,Nat.le_refl _⟩
 case round=>
  obtain⟨k,hk,rfl,hat,hbx,hj,hsz⟩:=hrel
  by_cases hlt:k < l.length
  ·obtain⟨x,hx⟩:∃ x,l[k]? =some x:=⟨_,List.getElem?_eq_getElem hlt⟩
   obtain⟨hc0,hc1⟩:=hat k x hx;have Hx:=uH hx;clear hx;have hbl:bx < wr.heap.size:=dN hbx;obtain⟨fb,UN⟩:∃ fb,fb=wr.heap.size:=⟨_,rfl⟩
   have hA:=(aD.refl (fun _=>False) wr).alloc (.cells #[.i x.1,.i x.2] 136);have hjA:=hJs _ _ _ hj hA;have Vf:=hat.stable (hA.block g ag id);have Vg:=(hA.cell (p:=⟨bx,0,none⟩) hbl id).trans hbx
   by_cases hlast:l.length=k+1
   ·have hj2:=Yz (k,0) (k+1,0) _ hjA ⟨hlt,ag,rfl⟩
    gi_wp2
    gi_loopw [19] (fun i wr2=>i=.i 0/\wr2=wr.alloc (.cells #[.i x.1,.i x.2] 136)) (fun i _=>0)
    case atStart=>exact⟨rfl,rfl⟩
    case round=>
     obtain⟨rfl,rfl⟩:=hrel
     gi_wp2
     go_roundw
     case rel=>exact⟨k+1,ag,by go_num,Vf,Vg,hj2,by simp;omega⟩
     case measure=>simp[intOf];omega
   ·have hf0:(wr.alloc (.cells #[.i x.1,.i x.2] 136)).cell? ⟨fb,0,none⟩=some (.i x.1):=by rw[UN];simp
    have hf1:(wr.alloc (.cells #[.i x.1,.i x.2] 136)).cell? ⟨fb,1,none⟩=some (.i x.2):=by rw[UN];simp
    have hsA:W.heap.size<=(wr.alloc (.cells #[.i x.1,.i x.2] 136)).heap.size:=by simp;omega
    have hfW:W.heap.size<=fb:=ag
    gi_wp2
    rw[<- UN];generalize wr.alloc (.cells #[.i x.1,.i x.2] 136)=wa at *;clear UN hA hbl hsz hc0 hc1 hat hbx hj
    gi_loopw [19] (fun i wr2=>∃ j:Nat,i=.i j/\j<=l.length - (k+1)/\uQ wr2 g l/\wr2.cell? ⟨bx,0,none⟩=some (.slice (some ⟨g,0,none⟩) l.length l.length)/\J (k,j) wr2/\W.heap.size<=wr2.heap.size/\
     wr2.cell? ⟨fb,0,none⟩=some (.i x.1)/\wr2.cell? ⟨fb,1,none⟩=some (.i x.2)) (fun i _=>l.length - (intOf i).toNat)
    case atStart=>exact⟨0,rfl,ag,Vf,Vg,hjA,hsA,hf0,hf1⟩
    case round=>
     obtain⟨j,rfl,hj,Gy,NG,hj2,hsz2,hq0,hq1⟩:=hrel
     by_cases hlt2:j < l.length - (k+1)
     ·obtain⟨y,hy⟩:∃ y,l[k+1+j]? =some y:=⟨_,List.getElem?_eq_getElem ag⟩
      obtain⟨hd0,hd1⟩:=Gy _ y hy;rw[Nat.add_mul]at hd0 hd1;have Hy:=uH hy;clear hy;have hA2:=(aD.refl (fun _=>False) wr).alloc (.cells #[.i y.1,.i y.2] 136);have hfl:fb < wr.heap.size:=dN hq0;have YA:bx < wr.heap.size:=dN NG;have hr0:(wr.alloc (.cells #[.i y.1,.i y.2] 136)).cell? ⟨fb,0,none⟩=some (.i x.1):=(hA2.cell (p:=⟨fb,0,none⟩) hfl id).trans hq0;have hr1:(wr.alloc (.cells #[.i y.1,.i y.2] 136)).cell? ⟨fb,1,none⟩=some (.i x.2):=(hA2.cell (p:=⟨fb,1,none⟩) hfl id).trans hq1;have YB:=hJs _ _ _ hj2 hA2;have Vh:=Gy.stable (hA2.block g ag id);have Vi:=(hA2.cell (p:=⟨bx,0,none⟩) YA id).trans NG;obtain⟨fn,tmps,assign,body,hy,hR⟩:=hY (k,j) (x,y) (k,j+1) _ YB ⟨Hx.out,Hy.out,rfl⟩;simp only[NC]at hy;have YC:=uH hr0;have YD:=uH hr1;clear hr0 hr1
      gi_wp2_with (simp only[YC.out,YD.out])
      have hszA:W.heap.size<=(wr.alloc (.cells #[.i y.1,.i y.2] 136)).heap.size:=by simp;omega
      have YE:fb < (wr.alloc (.cells #[.i y.1,.i y.2] 136)).heap.size:=by simp;omega
      generalize wr.alloc (.cells #[.i y.1,.i y.2] 136)=wc at *;clear hd0 hd1 hq0 hq1 hA2 Gy NG hj2 hfl;refine hR.mono ?_;rintro e W3 (⟨rfl,hJ3,hs3,hk3⟩ | ⟨rfl,hJx3⟩)
      ·have YF:=Vh.stable (hk3 g ag h1);have YG:W3.cell? ⟨bx,0,none⟩=some (.slice (some ⟨g,0,none⟩) l.length l.length):=(World.cell?_of_block (w:=wc) (hk3 bx ag h2)).trans Vi;have RL:=hk3 fb YE (fun hw=>by have:=h3 fb hw;omega);have hq0:W3.cell? ⟨fb,0,none⟩=some (.i x.1):=(World.cell?_of_block (w:=wc) RL).trans YC.out;have hq1:W3.cell? ⟨fb,1,none⟩=some (.i x.2):=(World.cell?_of_block (w:=wc) RL).trans YD.out;clear YC YD hk3 RL
       gi_wp2
       go_roundw
       case rel=>exact⟨j+1,by go_num,ag,YF,YG,hJ3,ag,hq0,hq1⟩
       case measure=>simp[intOf];omega
      ·gi_wp2
       refine bP ?_;exact⟨⟨_,rfl⟩,.inr hJx3⟩
     ·have oD:=Yz (k,j) (k+1,0) _ hj2 ⟨hlt,ag,rfl⟩;clear hq0 hq1 hj2
      gi_wp2
      go_roundw
      case rel=>exact⟨k+1,ag,by go_num,Gy,NG,oD,hsz2⟩
      case measure=>simp[intOf];omega
  ·gi_wp2
   go_end0
   exact⟨⟨_,rfl⟩,.inl ⟨(k,0),ag,hj⟩⟩
end Field
namespace Field
open Go.RowKit Go.Shelf Hp je
attribute [local go_sem] Oper.semAt_some
def mk (x:Nat×Nat):Int:=mx x.2 * 2 ^ x.1
def JW (l:List (Nat×Nat)):Prop:=∀ (i j:Nat) (x y:Nat×Nat),l[i]? =some x->l[j]? =some y->i < j->bits .and .i64 (mk x) (mk y)=0
def JX (l:List (Nat×Nat)):Prop:=∀ x ∈ l,R x.1 x.2
theorem ak {W W':World} {p:Addr} {v:Value} (h:Below W.heap.size W W') (hc:W.cell? p=some v):W'.cell? p=some v:=(h.cell (dN hc)).trans hc
theorem gW {W W':World} {p:Addr} {v:Value} {b:Bool} (h:Below W.heap.size W W') (hc:W.cell? p=some v) (hz:W.frozen? p=b):W'.frozen? p=b:=(h.frozen (dN hc)).trans hz
def UM (w:World) (g:Nat) (l:List (Nat×Nat)) (W:World):Prop:=
  uQ W g l/\Below w.heap.size w W/\W.cell? ⟨w.heap.size,0,none⟩=some (.bool false)/\W.frozen? ⟨w.heap.size,0,none⟩=false
theorem UM.later {w:World} {g:Nat} {l:List (Nat×Nat)} {W W':World} (h:UM w g l W) (hg:g < w.heap.size) (hb:Below W.heap.size W W'):UM w g l W':=by
  obtain⟨h1,h2,h3,h4⟩:=h;exact⟨h1.stable (hb.block g (Nat.lt_of_lt_of_le hg h2.size)),h2.trans (hb.mono h2.size),ak hb h3,gW hb h3 h4⟩
theorem Gu {W W':World} (hc:aD (fun _=>False) W W'):Below W.heap.size W W':=hc.below aQ fun _ h=>h.elim
theorem yo (w:World) (g:Nat) (l:List (Nat×Nat)) (hl:l.length<=1000) (h:uQ w g l) (hg:g < w.heap.size) (hR:JX l) (hD:JW l):
    Calls prog 150 #[.slice (some ⟨g,0,none⟩) l.length l.length] w fun e w'=>e=.returned (.bool true)/\Below w.heap.size w w':=by
  refine(callsIn_wide (n:=9)).1 ?_;refine callsIn_of_wp_marks func150 rfl trivial ?_;simp only[ntmps150,List.size_toArray,List.length_cons,List.length_nil,Nat.reduceAdd,Nat.reduceSub,Array.replicate_succ,Array.replicate_zero,List.push_toArray,List.append_toArray,List.nil_append,List.cons_append]
  gi_wp2
  have hB0:Below w.heap.size w (w.alloc (.cells #[.bool false] 4)):=bZ.alloc aQ _;have hF0:uQ (w.alloc (.cells #[.bool false] 4)) g l:=h.stable (hB0.block g hg);have hc0:(w.alloc (.cells #[.bool false] 4)).cell? ⟨w.heap.size,0,none⟩=some (.bool false):=au
  have hz0:(w.alloc (.cells #[.bool false] 4)).frozen? ⟨w.heap.size,0,none⟩=false:=au
  have HR:=uH hR;have HD:=uH hD;clear hR hD
  gi_loopw [9] (fun i wr=>∃ k:Nat,k<=l.length/\i=.i k/\uQ wr g l/\Below w.heap.size w wr/\wr.cell? ⟨w.heap.size,0,none⟩=some (.bool false)/\wr.frozen? ⟨w.heap.size,0,none⟩=false) (fun i _=>l.length - (intOf i).toNat)
  case atStart=>exact⟨0,ag,rfl,hF0,hB0,hc0,hz0⟩
  case round=>
    obtain⟨k,hk,rfl,hat,hB,hc,hz⟩:=hrel;have hlr:w.heap.size < wr.heap.size:=dN hc
    by_cases hlt:k < l.length
    · obtain⟨x,hx⟩:∃ x,l[k]? =some x:=⟨_,List.getElem?_eq_getElem hlt⟩
      obtain⟨hd0,hd1⟩:=hat k x hx;have hr:=HR.out x (List.mem_of_getElem? hx);clear hx
      gi_wp2_with fail
      refine⟨trivial,(callsIn_wide.2 (eP _ _ _ hr)).mono ?_⟩;rintro e w5 ⟨rfl,hb5⟩;have hb6:Below wr.heap.size wr w5:=(bZ.alloc aQ _).trans (hb5.mono au);have Yv:=hat.stable (hb6.block g ag);have gz:=(hb6.cell (p:=⟨w.heap.size,0,none⟩) hlr).trans hc;have JE:=(hb6.frozen (p:=⟨w.heap.size,0,none⟩) hlr).trans hz;have kM:=hB.trans (hb6.mono (Nat.le_of_lt hlr));clear hb5 hb6 hd0 hd1
      gi_wp2
      go_roundw
      case rel=>exact⟨k+1,ag,by go_num,Yv,kM,gz,JE⟩
      case measure=>simp[intOf];omega
    · clear hF0 hB0 hc0 hz0
      gi_wp2_with (refine⟨trivial,?_⟩;gi_at_call 212;refine(callsIn_wide.2 (Gv _ _ _)).mono ?_;rintro e w' ⟨rfl,rfl⟩)
      have pQ:UM w g l (wr.alloc (.cells #[.slice (some ⟨g,0,none⟩) l.length l.length] 139)):=UM.later ⟨hat,hB,hc,hz⟩ hg (bZ.alloc aQ _);have hbx:(wr.alloc (.cells #[.slice (some ⟨g,0,none⟩) l.length l.length] 139)).cell? ⟨wr.heap.size,0,none⟩=some (.slice (some ⟨g,0,none⟩) l.length l.length):=au
      generalize wr.alloc (.cells #[.slice (some ⟨g,0,none⟩) l.length l.length] 139)=wq at *;generalize wr.heap.size=bx at *;clear hat hB hc hz hlr;have hmo:prog.follows .mixedOrders=true:=ax
      refine jg (gf:=253) (lb:=#[ptr bx]) rfl (aH func253) (encs:=NC)
        (Ww:=fun _=>False) (Wr:=fun _=>False) (qP:=JY l) (Yields:=Ff l) (Done:=fun s _=>s.1=l.length) (s0:=(0,0))
        ?hps ?Fg ?hseq (fun _=>UM w g l) (fun c W=>False) ?hKs (fun _ _ _ h _=>h) ?hKt (fun _ _ _ h _=>h) (fun _ _ _ _ _ h _=>h) (fun _ _ _ h _=>h) (fun _ _ _ _ _ h _=>h) ?h0
        ?round ?done ?stop
      case round=>
        intro L s x s' W hL Yw hk hy;simp only[NC]
        gi_wp2
        refine⟨((aD.refl _ _).alloc _).alloc _,?_⟩;intro W2 vQ _ hk2 hy2;have hx0:W2.cell? ⟨W.heap.size,0,none⟩=some (.i x.1.1):=vQ.cell (by go_simp);have hx1:W2.cell? ⟨W.heap.size,1,none⟩=some (.i x.1.2):=vQ.cell (by go_simp);have hy0:W2.cell? ⟨W.heap.size+1,0,none⟩=some (.i x.2.1):=vQ.cell (by go_simp);have hy1:W2.cell? ⟨W.heap.size+1,1,none⟩=some (.i x.2.2):=vQ.cell (by go_simp);obtain⟨q1,q2,rfl⟩:=hy2;have Gw:=HR.out x.1 (List.mem_of_getElem? q1);have hRy:=HR.out x.2 (List.mem_of_getElem? q2);have hxy:bits .and .i64 ((mx x.1.2:Int) * 2 ^ x.1.1) ((mx x.2.2:Int) * 2 ^ x.2.1)=0:=HD.out _ _ _ _ q1 q2 ag;have Bb:Below W2.heap.size W2 W2.drew:=bY;clear q1 q2 vQ hy hk Yw hL;generalize W.heap.size=p0 at *
        gi_wp2_with fail
        gi_region_with_o (first
          | (refine⟨trivial,?_⟩;gi_at_call 213;first
             | (refine(CallsIn.inRound L (callsIn_wide.2 (qO _ _ _ Gw))).mono ?_;rintro e w6 ⟨rfl,hb6⟩;have hx0:=ak hb6 hx0;have hx1:=ak hb6 hx1;have hy0:=ak hb6 hy0;have hy1:=ak hb6 hy1;have Bb:=Bb.trans (hb6.mono Bb.size))
             | (refine(CallsIn.inRound L (callsIn_wide.2 (qO _ _ _ hRy))).mono ?_;rintro e w6 ⟨rfl,hb6⟩;have hx0:=ak hb6 hx0;have hx1:=ak hb6 hx1;have hy0:=ak hb6 hy0;have hy1:=ak hb6 hy1;have Bb:=Bb.trans (hb6.mono Bb.size))))
        all_goals gi_wp2
        all_goals exact⟨gY.pU (aD.aF Bb) (fun _ _ h=>h),hk2.later hg Bb⟩
      case hps=>intro x;rfl
      case Fg=>rintro k (hk | hk)<;>exact hk.elim
      case hseq=>
        intro W1 hT;exact Gx bx g l _ W1 hl (pQ.1.turn hT) (hT.cell hbx) (Nat.lt_of_lt_of_le (Nat.lt_of_lt_of_le hg pQ.2.1.size) hT.size) id id (fun _ h=>h.elim)
      case hKs=>exact fun s W W' h hc=>h.later hg (Gu hc)
      case hKt=>exact fun s W W' h ht=>⟨h.1.turn ht,ht.below h.2.1 pQ.2.1.size aQ,ht.cell h.2.2.1,(ht.frozen h.2.2.1).trans h.2.2.2⟩
      case h0=>exact pQ
      case done=>
        rintro D s W hD _ ⟨k1,k2,k3,k4⟩ Ay
        gi_wp2
        have hsz:D≠w.heap.size:=fun e=>by have:=pQ.2.1.size;have:=dN pQ.2.2.1;simp at this;omega
        have hK2:(W.setCell ⟨w.heap.size,0,none⟩ (.bool true)).heap[D]? =some (.deferred (some [])):=(Below.heap_setCell _ _ _ _ (by simpa using hsz)).trans Ay;have h7:=k2.setCell (p:=⟨w.heap.size,0,none⟩) au (.bool true);have h8:=World.cell?_setCell_same _ _ (.bool true) k3;generalize W.setCell ⟨w.heap.size,0,none⟩ (.bool true)=W3 at *;have hT:dK wq.heap.size W3 (W3.putObj D (.deferred none)):=(dK.refl _ _).putObj _ hD hK2 rfl;have hc:=hT.cell h8;refine⟨au,.inl ⟨_,_,rfl,run_takeDeferred hK2,?_⟩⟩;exact⟨.bool true,by simp[results,results150,go_sem,hc],rfl,hT.below h7 pQ.2.1.size aQ⟩
      case stop=>exact fun D c W hD h hK=>h.elim
end Field
namespace Field
open Go.RowKit Hp
def gZ:List (Nat×Nat)->List Int->Bool
 | x :: l,v :: vs=>decide (0<=v) && (decide (v<=(mx x.2:Int)) && gZ l vs)
 | _,_=>true
theorem AX {l:List (Nat×Nat)} {xs:List Int} {k:Nat} {x:Nat×Nat} {v:Int} (hx:l[k]? =some x) (hv:xs[k]? =some v):
  gZ (l.drop k) (xs.drop k)=(decide (0<=v) && (decide (v<=(mx x.2:Int)) && gZ (l.drop (k+1)) (xs.drop (k+1)))):=by
 obtain⟨h1,rfl⟩:=List.getElem?_eq_some_iff.1 hx;obtain⟨h2,rfl⟩:=List.getElem?_eq_some_iff.1 hv;rw[List.drop_eq_getElem_cons h1,List.drop_eq_getElem_cons h2];rfl
def Fh (w:World) (g:Nat) (l:List (Nat×Nat)) (g2:Nat) (o2:Nat) (xs:List Int) (W:World):Prop:=
 uQ W g l/\(∀ i x,xs[i]? =some x->W.cell? ⟨g2,o2+i,none⟩=some (.i x))/\Below w.heap.size w W
theorem Fh.later {w:World} {g g2 o2:Nat} {l:List (Nat×Nat)} {xs:List Int} {W W':World} (h:Fh w g l g2 o2 xs W) (hg:g < w.heap.size) (hb:Below W.heap.size W W'):Fh w g l g2 o2 xs W':=by
 obtain⟨h1,h2,h3⟩:=h;exact⟨h1.stable (hb.block g (Nat.lt_of_lt_of_le hg h3.size)),fun i x hx=>ak hb (h2 i x hx),h3.trans (hb.mono h3.size)⟩
theorem JZ (w:World) (g:Nat) (l:List (Nat×Nat)) (g2 o2 c2:Nat) (xs:List Int) (hl:l.length<=1000) (h:uQ w g l) (hg:g < w.heap.size) (hR:JX l) (hD:JW l)
  (hx:∀ i x,xs[i]? =some x->w.cell? ⟨g2,o2+i,none⟩=some (.i x)) (hxl:xs.length=l.length) (hlo:∀ x ∈ xs,-9223372036854775808<=x/\x<=9223372036854775807):
  Calls prog 98 #[.slice (some ⟨g,0,none⟩) l.length l.length,.slice (some ⟨g2,o2,none⟩) l.length c2] w fun e w'=>
   ∃ z,e=.returned (.tuple #[.i z,.bool (gZ l xs)])/\Below w.heap.size w w':=by
 have hap:=fun W (hk:Fh w g l g2 o2 xs W)=>yo W g l hl hk.1 (Nat.lt_of_lt_of_le hg hk.2.2.size) hR hD
 have hK:Fh w g l g2 o2 xs w:=⟨h,hx,Below.refl _ _⟩
 have HR:=uH hR;have HL:=uH hxl;clear hR hD hxl h hx;have hne:((l.length:Int) != (l.length:Int))=false:=au
 go_enter func98,ntmps98
 go_wp2_with fail;refine(hap _ hK).mono ?_;rintro e w6 ⟨rfl,hb6⟩;have kT:=hK.later hg hb6;clear hK hb6 hap;go_wp2_with fail
 go_loopw [6,21] (fun zv iv wr=>∃ (k:Nat) (z:Int),zv=.i z/\iv=.i k/\k<=l.length/\RowKit.Hid (gZ l xs=gZ (l.drop k) (xs.drop k))/\Fh w g l g2 o2 xs wr) (fun _ iv _=>l.length - (intOf iv).toNat)
 case atStart=>exact⟨0,0,rfl,rfl,ag,rfl,kT⟩
 case round=>
  obtain⟨k,z,rfl,rfl,hk,hP,hKr⟩:=hrel
  by_cases hlt:k < l.length
  ·obtain⟨x,hx⟩:∃ x,l[k]? =some x:=⟨_,List.getElem?_eq_getElem hlt⟩
   obtain⟨v,hv⟩:∃ v,xs[k]? =some v:=⟨_,List.getElem?_eq_getElem (by have:=HL.out;omega)⟩
   obtain⟨hd0,hd1⟩:=hKr.1 k x hx;have hcv:=hKr.2.1 k v hv;obtain⟨hv0,hv1⟩:=hlo v (List.mem_of_getElem? hv);have Gw:=HR.out x (List.mem_of_getElem? hx);have hP2:=uH (hP.out.trans (AX hx hv));have hA:=(Below.refl wr.heap.size wr).alloc aQ (.cells #[.i x.1,.i x.2] 136);have AY:=hKr.later hg hA;have hcA:=AY.2.1 k v hv;have hf0:(wr.alloc (.cells #[.i x.1,.i x.2] 136)).cell? ⟨wr.heap.size,0,none⟩=some (.i x.1):=au
   have hf1:(wr.alloc (.cells #[.i x.1,.i x.2] 136)).cell? ⟨wr.heap.size,1,none⟩=some (.i x.2):=au
   have hmx:=JV (show x.2<=62 by unfold R at Gw;omega);clear hx hv hP hcv
   by_cases hneg:v < 0
   ·have hP3:gZ l xs=false:=by rw[hP2.out];simp;omega
    clear hP2;have RG:=uH hP3;clear hP3;go_wp2_with fail;generalize wr.alloc (.cells #[.i x.1,.i x.2] 136)=wa at *;generalize wr.heap.size=fb at *;have iT:Fh w g l g2 o2 xs wa.drew:=⟨AY.1,AY.2.1,AY.2.2.drew⟩
    have ND:decide (v < 0)=true:=by simpa using hneg
    go_region;go_wp2_with fail;go_ret2;exact⟨0,by rw[RG.out];rfl,iT.2.2⟩
   ·go_wp2_with fail;generalize wr.alloc (.cells #[.i x.1,.i x.2] 136)=wa at *;generalize wr.heap.size=fb at *;have iT:Fh w g l g2 o2 xs wa.drew:=⟨AY.1,AY.2.1,AY.2.2.drew⟩
    have ND:decide (v < 0)=false:=by simpa using hneg
    by_cases hbig:(mx x.2:Int) < v
    ·have hbg:decide ((mx x.2:Int) < v)=true:=by simpa using hbig
     have hP3:gZ l xs=false:=by rw[hP2.out];simp;omega
     clear hP2;have RG:=uH hP3;clear hP3
     go_region_held3 (fun w'=>w'.cell? ⟨g2,o2+k,none⟩=some (.i v)/\w'.cell? ⟨fb,0,none⟩=some (.i x.1)/\w'.cell? ⟨fb,1,none⟩=some (.i x.2)) (first | go_keep | exact⟨aI,aI,aI⟩)
      ((first
      | (go_at_call 151;refine(mU _ _ _ Gw).mono ?_;rintro e w7 ⟨rfl,cB⟩;have AU:=iT.later hg cB;have hcA:=ak cB hcA;have hf0:=ak cB hf0;have hf1:=ak cB hf1)))
     go_wp2_with fail;go_ret2;exact⟨0,by rw[RG.out];rfl,AU.2.2⟩
    ·have hbg:decide ((mx x.2:Int) < v)=false:=by simpa using hbig
     have hP3:gZ l xs=gZ (l.drop (k+1)) (xs.drop (k+1)):=by rw[hP2.out,decide_eq_true (by omega:0<=v),decide_eq_true (by omega:v<=(mx x.2:Int))];rfl
     have RG:=uH hP3;clear hP2 hP3
     go_region_held3 (fun w'=>w'.cell? ⟨g2,o2+k,none⟩=some (.i v)/\w'.cell? ⟨fb,0,none⟩=some (.i x.1)/\w'.cell? ⟨fb,1,none⟩=some (.i x.2)) (first | go_keep | exact⟨aI,aI,aI⟩)
      ((first
      | (go_at_call 151;refine(mU _ _ _ Gw).mono ?_;rintro e w7 ⟨rfl,cB⟩;have AU:=iT.later hg cB;have hcB:=ak cB hcA;have hf2:=ak cB hf0;have hf3:=ak cB hf1)))
     have J2:Fh w g l g2 o2 xs w7.drew:=⟨AU.1,AU.2.1,AU.2.2.drew⟩
     clear hcA hf0 hf1 cB AY iT hKr AU kT;go_wp2_with fail
     go_region_held3 (fun w'=>w'.cell? ⟨g2,o2+k,none⟩=some (.i v)/\w'.cell? ⟨fb,0,none⟩=some (.i x.1)/\w'.cell? ⟨fb,1,none⟩=some (.i x.2)) (first | go_keep | exact⟨aI,aI,aI⟩)
      ((first
      | (go_at_call 152;refine(NB _ _ _ _ _ Gw).mono ?_;rintro e w8 ⟨⟨z2,rfl⟩,cZ⟩;have Nj:=J2.later hg cZ;have hcC:=ak cZ hcB;have Yx:=ak cZ hf2;have sG:=ak cZ hf3)))
     clear hcB hf2 hf3 hcC Yx sG cZ J2;go_wp2_with fail
     go_roundw
     case rel=>exact⟨k+1,z2,by go_num,by go_num,ag,RG,Nj⟩
     case measure=>simp[intOf];omega
  ·have hP3:gZ l xs=true:=by rw[hP.out,List.drop_eq_nil_of_le ag];rfl
   have RG:=uH hP3;clear hP hP3;go_wp2_with fail;go_ret2;exact⟨z,by rw[RG.out];rfl,hKr.2.2⟩
end Field
namespace Bt
open Go.RowKit Hp
theorem vo (n:Int) (h₀:0<=n) (h₁:n < 2 ^ 62):IntKind.i64.wrap n=n:=by
 rw[IntKind.wrap_i64];omega
theorem Vb {n:Nat} (h:n < 2 ^ 62):(n:Int) < 2 ^ 62:=by omega
theorem vL (x:Int) (b:Nat) (hb:b<=62):bits .and .i64 x ((2 ^ b - 1:Nat):Int)=x % 2 ^ b:=by
 have hp:2 ^ b<=2 ^ 62:=Nat.pow_le_pow_right (by decide) hb;have hpos:0 < 2 ^ b:=Nat.two_pow_pos b;have e0:bits .and .i64 x ((2 ^ b - 1:Nat):Int)=IntKind.i64.wrap (((BitVec.ofInt 64 x &&& BitVec.ofInt 64 ((2 ^ b - 1:Nat):Int)).toNat:Nat):Int):=rfl
 have hm:(2 ^ b - 1) % 2 ^ 64=2 ^ b - 1:=Nat.mod_eq_of_lt (by
  have:(2:Nat) ^ 62<=2 ^ 64:=by decide
  omega)
 have e:bits .and .i64 x ((2 ^ b - 1:Nat):Int)=IntKind.i64.wrap (((x % 18446744073709551616).toNat % 2 ^ b:Nat):Int):=by
  rw[e0,BitVec.toNat_and,BitVec.toNat_ofInt,BitVec.ofInt_natCast,BitVec.toNat_ofNat,hm,Nat.and_two_pow_sub_one_eq_mod];rfl
 have hlt:(x % 18446744073709551616).toNat % 2 ^ b < 2 ^ b:=Nat.mod_lt _ hpos;rw[e,vo _ (Int.natCast_nonneg _) (Vb (Nat.lt_of_lt_of_le hlt hp))];have h0:0<=x % 18446744073709551616:=Int.emod_nonneg _ (by decide);rw[Int.natCast_emod,Int.toNat_of_nonneg h0,Int.natCast_pow]
 exact Int.emod_emod_of_dvd x (by
  have:(18446744073709551616:Int)=2 ^ b * 2 ^ (64 - b):=by rw[<- Int.pow_add];rw[show b+(64 - b)=64 by omega];rfl
  exact⟨_,this⟩)
theorem Di (x:Int) (a b:Nat) (h0:0<=x) (h1:x < 2 ^ a) (hab:a+b<=62):bits .andNot .i64 x (((2 ^ b - 1) * 2 ^ a:Nat):Int)=x:=by
 obtain⟨n,rfl⟩:=Int.eq_ofNat_of_zero_le h0;have hn:n < 2 ^ a:=by exact_mod_cast h1
 have hpa:2 ^ a<=2 ^ 62:=Nat.pow_le_pow_right (by decide) (by omega)
 have hm:(2 ^ b - 1) * 2 ^ a < 2 ^ 62:=by
  have h2:2 ^ b * 2 ^ a<=2 ^ 62:=by rw[<- Nat.pow_add];exact Nat.pow_le_pow_right (by decide) (by omega)
  have h3:(2 ^ b - 1) * 2 ^ a+2 ^ a=2 ^ b * 2 ^ a:=by
   have:0 < 2 ^ b:=Nat.two_pow_pos b;rw[<- Nat.succ_mul]
   congr 1
   omega
  have:0 < 2 ^ a:=Nat.two_pow_pos a;omega
 have key:∀ N:Nat,N < 2 ^ a->∀ i,(N &&& (2 ^ 64 - 1 - (2 ^ b - 1) * 2 ^ a)).testBit i=N.testBit i:=by
  intro N hN i;rw[Nat.testBit_and]
  by_cases hi:i < a
  ·have:(2 ^ 64 - 1 - (2 ^ b - 1) * 2 ^ a).testBit i=true:=by
    rw[show 2 ^ 64 - 1 - (2 ^ b - 1) * 2 ^ a=2 ^ 64 - ((2 ^ b - 1) * 2 ^ a+1) by omega,Nat.testBit_two_pow_sub_succ (by omega)]
    have:((2 ^ b - 1) * 2 ^ a).testBit i=false:=by
     rw[Nat.mul_comm,Nat.testBit_two_pow_mul];simp;omega
    simp[this];omega
   rw[this,Bool.and_true]
  ·rw[Nat.testBit_lt_two_pow (Nat.lt_of_lt_of_le hN (Nat.pow_le_pow_right (by decide) (by omega)))];rfl
 have e0:bits .andNot .i64 (n:Int) (((2 ^ b - 1) * 2 ^ a:Nat):Int)=IntKind.i64.wrap (((BitVec.ofInt 64 (n:Int) &&& ~~~ BitVec.ofInt 64 (((2 ^ b - 1) * 2 ^ a:Nat):Int)).toNat:Nat):Int):=rfl;have h64:(2:Nat) ^ 62<=2 ^ 64:=by decide
 have e:bits .andNot .i64 (n:Int) (((2 ^ b - 1) * 2 ^ a:Nat):Int)=IntKind.i64.wrap ((n &&& (2 ^ 64 - 1 - (2 ^ b - 1) * 2 ^ a):Nat):Int):=by
  rw[e0,BitVec.toNat_and,BitVec.toNat_not,BitVec.ofInt_natCast,BitVec.ofInt_natCast,BitVec.toNat_ofNat,BitVec.toNat_ofNat,Nat.mod_eq_of_lt (by omega),Nat.mod_eq_of_lt (by omega)]
 rw[e,Nat.eq_of_testBit_eq (key n hn)];exact vo _ (Int.natCast_nonneg _) (Vb (by omega))
theorem AJ (x v:Int) (a b:Nat) (h0:0<=x) (h1:x < 2 ^ a) (hv:0<=v) (hvb:v < 2 ^ b) (hab:a+b<=62):bits .or .i64 x (v * 2 ^ a)=x+v * 2 ^ a:=by
 have hpa:(2:Int) ^ a<=2 ^ 62:=by exact_mod_cast Nat.pow_le_pow_right (by decide:1<=2) (by omega:a<=62)
 have h2:v * 2 ^ a < 2 ^ 62:=by
  have h3:(2:Int) ^ b * 2 ^ a<=2 ^ 62:=by rw[<- Int.pow_add];exact_mod_cast Nat.pow_le_pow_right (by decide:1<=2) (by omega:b+a<=62)
  have h4:(0:Int) < 2 ^ a:=Int.pow_pos (by decide);have h5:v * 2 ^ a < 2 ^ b * 2 ^ a:=Int.mul_lt_mul_of_pos_right hvb h4;omega
 have h6:0<=v * 2 ^ a:=Int.mul_nonneg hv (Int.pow_nonneg (by decide))
 have hc:bits .or .i64 x (v * 2 ^ a)=bits .or .i64 (v * 2 ^ a) x:=by
  simp only[bits];rw[BitVec.or_comm]
 rw[hc,bits_join .i64 62 (by decide) vo a (v * 2 ^ a) x h6 (Int.mul_emod_left v _) h2 h0 h1 (by omega)];omega
end Bt
namespace Field
open Go.RowKit Hp
theorem yV (b:Nat):(mx b:Int)=((2 ^ b - 1:Nat):Int):=rfl
theorem J4 (n x:Int) (a b:Nat) (h:R a b) (h0:0<=n) (h1:n < 2 ^ a) (x0:0<=x) (x1:x < 2 ^ b):
  bits BinOp.or IntKind.i64 (bits BinOp.andNot IntKind.i64 n ((mx b:Int) * 2 ^ a)) (IntKind.i64.wrap (bits BinOp.and IntKind.i64 x (mx b:Int) * 2 ^ min a 64))=n+x * 2 ^ a:=by
 obtain⟨h3,h4⟩:=h;have e1:min a 64=a:=ag
 have e2:bits BinOp.and IntKind.i64 x (mx b:Int)=x:=by
  rw[yV,Bt.vL x b ag];exact Int.emod_eq_of_lt x0 x1
 have e3:bits BinOp.andNot IntKind.i64 n ((mx b:Int) * 2 ^ a)=n:=by
  have:=Bt.Di n a b h0 h1 h4;rw[Int.natCast_mul,Int.natCast_pow]at this;exact this
 have h5:(2:Int) ^ b * 2 ^ a<=2 ^ 62:=by
  rw[<- Int.pow_add]
  exact_mod_cast Nat.pow_le_pow_right (by decide:1<=2) (by omega:b+a<=62)
 have h6:(0:Int) < 2 ^ a:=Int.pow_pos aT;have h7:x * 2 ^ a < 2 ^ b * 2 ^ a:=Int.mul_lt_mul_of_pos_right x1 h6;have h8:0<=x * 2 ^ a:=Int.mul_nonneg x0 ag;rw[e1,e2,e3,Bt.vo _ h8 ag,Bt.AJ n x a b h0 h1 x0 x1 h4]
theorem NF (w:World) (n:Int) (a b:Nat) (x:Int) (h:R a b) (h0:0<=n) (h1:n < 2 ^ a) (x0:0<=x) (x1:x < 2 ^ b):Calls prog 152 #[.i n,AV a b,.i x] w fun e w'=>e=.returned (.i (n+x * 2 ^ a))/\Below w.heap.size w w':=by
 have H0:=uH h0;have H1:=uH h1;have X0:=uH x0;have X1:=uH x1;have HR:=uH h;clear h0 h1 x0 x1;have hr:=fun w=>eP w a b h
 have hm:=fun w=>mU w a b h
 have hk:=fun w=>qO w a b h
 go_enter func152,ntmps152
 go_wp2_with fail;refine(hr _).mono ?_;rintro e w5 ⟨rfl,hb5⟩;have hc0:w5.cell? ⟨w.heap.size,0,none⟩=some (.i a):=by rw[hb5.cell au];simp
 have hc1:w5.cell? ⟨w.heap.size,1,none⟩=some (.i b):=by rw[hb5.cell au];simp
 have hB:Below w.heap.size w w5:=(bZ.alloc aQ _).trans (hb5.mono au);have hlt:w.heap.size < w5.heap.size:=dN hc0;clear hb5;go_wp2_with fail
 go_region_held3 (fun w'=>w'.cell? ⟨w.heap.size,0,none⟩=some (.i a)/\w'.cell? ⟨w.heap.size,1,none⟩=some (.i b)) (first | go_keep | assumption | exact⟨aI,aI⟩)
  ((first
  | (go_at_call 213;refine(hk _).mono ?_;rintro e w6 ⟨rfl,hb6⟩;have hc2:=(hb6.cell hlt).trans hc0;have hc3:=(hb6.cell hlt).trans hc1;have kS:=hB.drew.trans (hb6.mono (Nat.le_of_lt hlt)))
  | (go_at_call 151;refine(hm _).mono ?_;rintro e w7 ⟨rfl,cB⟩;have Dp:=Nat.lt_of_lt_of_le hlt hb6.size;have hc4:=(cB.cell (p:=⟨w.heap.size,0,none⟩) Dp).trans hc2;have gz:=(cB.cell (p:=⟨w.heap.size,1,none⟩) Dp).trans hc3;have kN:=kS.trans (cB.mono (Nat.le_of_lt Dp)))))
 go_wp2_with fail;go_ret;refine⟨Base.vk ?_,kN⟩;exact J4 n x a b h H0.out H1.out X0.out X1.out
theorem NH (w:World) (n:Int) (a b:Nat) (h:R a b):Calls prog 131 #[.i n,AV a b] w fun e w'=>e=.returned (.i (n / 2 ^ a % 2 ^ b))/\Below w.heap.size w w':=by
 have HR:=uH h;have hr:=fun w=>eP w a b h
 have hm:=fun w=>mU w a b h
 have ha:(a:Int) < 64:=by have:=h.2;omega
 have ha0:(0:Int)<=a:=ag
 go_enter func131,ntmps131
 go_wp2_with fail;refine(hr _).mono ?_;rintro e w5 ⟨rfl,hb5⟩;have hc0:w5.cell? ⟨w.heap.size,0,none⟩=some (.i a):=by rw[hb5.cell au];simp
 have hc1:w5.cell? ⟨w.heap.size,1,none⟩=some (.i b):=by rw[hb5.cell au];simp
 have hB:Below w.heap.size w w5:=(bZ.alloc aQ _).trans (hb5.mono au);have hlt:w.heap.size < w5.heap.size:=dN hc0;clear hb5;go_wp2_with fail
 go_region_held3 (fun w'=>w'.cell? ⟨w.heap.size,0,none⟩=some (.i a)/\w'.cell? ⟨w.heap.size,1,none⟩=some (.i b)) (first | go_keep | assumption | exact⟨aI,aI⟩)
  ((go_at_call 151;refine(hm _).mono ?_;rintro e w6 ⟨rfl,hb6⟩;have hc2:=(hb6.cell (p:=⟨w.heap.size,0,none⟩) hlt).trans hc0;have hc3:=(hb6.cell (p:=⟨w.heap.size,1,none⟩) hlt).trans hc1;have kS:=hB.drew.trans (hb6.mono (Nat.le_of_lt hlt))))
 go_wp2_with fail;go_ret;refine⟨Base.vk ?_,kS⟩;rw[yV,Bt.vL _ b (by have:=HR.out.2;omega)]
def pw (l:List (Nat×Nat)) (xs:List Int):Nat->Int
 | 0=>0
 | k+1=>pw l xs k+xs.getD k 0 * 2 ^ (l.getD k (0,0)).1
theorem RI (b:Nat):(mx b:Int) < 2 ^ b:=by
 have h:0 < 2 ^ b:=Nat.two_pow_pos b;have h2:((2 ^ b - 1:Nat):Int)=(2:Int) ^ b - 1:=by rw[Int.natCast_sub ag];simp
 rw[yV,h2];omega
theorem J3 (w:World) (g:Nat) (l:List (Nat×Nat)) (g2 o2 c2:Nat) (xs:List Int) (hl:l.length<=1000) (h:uQ w g l) (hg:g < w.heap.size) (hR:JX l) (hD:JW l)
  (hx:∀ i x,xs[i]? =some x->w.cell? ⟨g2,o2+i,none⟩=some (.i x)) (hxl:xs.length=l.length) (hin:∀ (k:Nat) (x:Nat×Nat) (v:Int),l[k]? =some x->xs[k]? =some v->0<=v/\v<=(mx x.2:Int)) (Ve:∀ (k:Nat) (x:Nat×Nat),l[k]? =some x->0<=pw l xs k/\pw l xs k < 2 ^ x.1):
  Calls prog 98 #[.slice (some ⟨g,0,none⟩) l.length l.length,.slice (some ⟨g2,o2,none⟩) l.length c2] w fun e w'=>
   e=.returned (.tuple #[.i (pw l xs l.length),.bool true])/\Below w.heap.size w w':=by
 have Yy:=uH hin;have HAS:=uH Ve;clear hin Ve;have hap:=fun W (hk:Fh w g l g2 o2 xs W)=>yo W g l hl hk.1 (Nat.lt_of_lt_of_le hg hk.2.2.size) hR hD
 have hK:Fh w g l g2 o2 xs w:=⟨h,hx,Below.refl _ _⟩
 have HR:=uH hR;have HL:=uH hxl;clear hR hD hxl h hx;have hne:((l.length:Int) != (l.length:Int))=false:=au
 go_enter func98,ntmps98
 go_wp2_with fail;refine(hap _ hK).mono ?_;rintro e w6 ⟨rfl,hb6⟩;have kT:=hK.later hg hb6;clear hK hb6 hap;go_wp2_with fail
 go_loopw [6,21] (fun zv iv wr=>∃ (k:Nat) (z:Int),zv=.i z/\iv=.i k/\k<=l.length/\RowKit.Hid (z=pw l xs k)/\Fh w g l g2 o2 xs wr) (fun _ iv _=>l.length - (intOf iv).toNat)
 case atStart=>exact⟨0,0,rfl,rfl,ag,uH rfl,kT⟩
 case round=>
  obtain⟨k,z,rfl,rfl,hk,hP,hKr⟩:=hrel
  by_cases hlt:k < l.length
  ·obtain⟨x,hx⟩:∃ x,l[k]? =some x:=⟨_,List.getElem?_eq_getElem hlt⟩
   obtain⟨v,hv⟩:∃ v,xs[k]? =some v:=⟨_,List.getElem?_eq_getElem (by have:=HL.out;omega)⟩
   obtain⟨hd0,hd1⟩:=hKr.1 k x hx;have hcv:=hKr.2.1 k v hv;obtain⟨q0,q1⟩:=Yy.out k x v hx hv;obtain⟨z0,z1⟩:=HAS.out k x hx;rw[<- hP.out]at z0 z1;have Gw:=HR.out x (List.mem_of_getElem? hx);have hP2:=uH (show z+v * 2 ^ x.1=pw l xs (k+1) by rw[pw,<- hP.out,List.getD_eq_getElem?_getD,hv,List.getD_eq_getElem?_getD,hx];rfl);have hx1:=RI x.2;have v1:v < 2 ^ x.2:=ag
   have HPV:=uH (fun W=>NF W z x.1 x.2 v Gw z0 z1 q0 v1);have hA:=(Below.refl wr.heap.size wr).alloc aQ (.cells #[.i x.1,.i x.2] 136);have AY:=hKr.later hg hA;have hcA:=AY.2.1 k v hv;have hf0:(wr.alloc (.cells #[.i x.1,.i x.2] 136)).cell? ⟨wr.heap.size,0,none⟩=some (.i x.1):=au
   have hf1:(wr.alloc (.cells #[.i x.1,.i x.2] 136)).cell? ⟨wr.heap.size,1,none⟩=some (.i x.2):=au
   have hmx:=JV (show x.2<=62 by unfold R at Gw;omega);clear hx hv hP hcv;have hneg:¬ v < 0:=ag
   have hbig:¬ (mx x.2:Int) < v:=ag
   clear z0 z1 q0 q1 v1 hx1
   ·go_wp2_with fail;generalize wr.alloc (.cells #[.i x.1,.i x.2] 136)=wa at *;generalize wr.heap.size=fb at *;have iT:Fh w g l g2 o2 xs wa.drew:=⟨AY.1,AY.2.1,AY.2.2.drew⟩
    have ND:decide (v < 0)=false:=by simpa using hneg
    ·have hbg:decide ((mx x.2:Int) < v)=false:=by simpa using hbig
     go_region_held3 (fun w'=>w'.cell? ⟨g2,o2+k,none⟩=some (.i v)/\w'.cell? ⟨fb,0,none⟩=some (.i x.1)/\w'.cell? ⟨fb,1,none⟩=some (.i x.2)) (first | go_keep | exact⟨aI,aI,aI⟩)
      ((first
      | (go_at_call 151;refine(mU _ _ _ Gw).mono ?_;rintro e w7 ⟨rfl,cB⟩;have AU:=iT.later hg cB;have hcB:=ak cB hcA;have hf2:=ak cB hf0;have hf3:=ak cB hf1)))
     have J2:Fh w g l g2 o2 xs w7.drew:=⟨AU.1,AU.2.1,AU.2.2.drew⟩
     clear hcA hf0 hf1 cB AY iT hKr AU kT;go_wp2_with fail
     go_region_held3 (fun w'=>w'.cell? ⟨g2,o2+k,none⟩=some (.i v)/\w'.cell? ⟨fb,0,none⟩=some (.i x.1)/\w'.cell? ⟨fb,1,none⟩=some (.i x.2)) (first | go_keep | exact⟨aI,aI,aI⟩)
      ((first
      | (go_at_call 152;refine(HPV.out _).mono ?_;rintro e w8 ⟨rfl,cZ⟩;have Nj:=J2.later hg cZ;have hcC:=ak cZ hcB;have Yx:=ak cZ hf2;have sG:=ak cZ hf3)))
     clear hcB hf2 hf3 hcC Yx sG cZ J2;go_wp2_with fail
     go_roundw
     case rel=>exact⟨k+1,_,rfl,by go_num,ag,hP2,Nj⟩
     case measure=>simp[intOf];omega
  ·have e:k=l.length:=ag
   subst e;go_wp2_with fail;go_ret2;exact⟨by rw[<- hP.out];rfl,hKr.2.2⟩
theorem lJ:(prog.info? 3).map (fun i=>(i.zero,i.size,i.bytes))=some (some (.i 0),1,8):=ax
theorem info_parts {P:Program} {t:TypeId} {z:Option Value} {sz b:Nat} (h:(P.info? t).map (fun i=>(i.zero,i.size,i.bytes))=some (z,sz,b)):
  ∃ i,P.info? t=some i/\i.zero=z/\i.size=sz/\i.bytes=b:=by
 cases hh:P.info? t with
 | none=>rw[hh]at h;cases h
 | some i=>rw[hh]at h;simp at h;exact⟨i,rfl,h⟩
def part (n:Int) (p:Nat×Nat):Int:=n / 2 ^ p.1 % 2 ^ p.2
def U4 (w:World) (g:Nat) (l:List (Nat×Nat)) (n:Int) (v:Value) (k:Nat) (W:World):Prop:=
 uQ W g l/\g < w.heap.size/\bR W v k 1 (((l.take k).map (part n)).map (Value.int .i64))/\(∀ j,Fp v j->w.heap.size<=j)/\Below w.heap.size w W
theorem U4.later {w W W':World} {g:Nat} {l:List (Nat×Nat)} {n:Int} {v:Value} {k:Nat} (h:U4 w g l n v k W) (hb:Below W.heap.size W W'):U4 w g l n v k W':=
 have hs:=h.2.2.2.2.size
 ⟨h.1.stable (hb.block _ (Nat.lt_of_lt_of_le h.2.1 hs)),h.2.1,h.2.2.1.stable hb.size (fun j hj=>hb.block _ (h.2.2.1.lt hj)),h.2.2.2.1,h.2.2.2.2.trans (hb.mono hs)⟩
theorem Gt (w:World) (n:Int) (g:Nat) (l:List (Nat×Nat)) (hl:l.length<=1000) (h:uQ w g l) (hg:g < w.heap.size) (hR:JX l):
  Calls prog 94 #[.i n,.slice (some ⟨g,0,none⟩) l.length l.length] w fun e w'=>
   ∃ v,e=.returned v/\bR w' v l.length 1 ((l.map (part n)).map (Value.int .i64))/\(∀ j,Fp v j->w.heap.size<=j)/\Below w.heap.size w w':=by
 have hK:U4 w g l n (.slice none 0 0) 0 w:=⟨h,hg,fG _ _,fun j hj=>(dP _ hj).elim,Below.refl _ _⟩
 have HR:=uH hR;clear hR h
 go_enter func94,ntmps94
 go_wp2_with fail
 go_loopw [5,10] (fun vv iv wr=>∃ (k:Nat) (a:Option Addr) (c:Nat),vv=.slice a k c/\iv=.i k/\k<=l.length/\U4 w g l n (.slice a k c) k wr) (fun _ iv _=>l.length - (intOf iv).toNat)
 case atStart=>exact⟨0,none,0,rfl,rfl,ag,hK⟩
 case round=>
  obtain⟨k,va,vc,rfl,rfl,hk,hKr⟩:=hrel
  by_cases hlt:k < l.length
  ·obtain⟨x,hx⟩:∃ x,l[k]? =some x:=⟨_,List.getElem?_eq_getElem hlt⟩
   obtain⟨hd0,hd1⟩:=hKr.1 k x hx;have Gw:=HR.out x (List.mem_of_getElem? hx);have htk:(l.take (k+1)).map (part n)=(l.take k).map (part n) ++ [part n x]:=by rw[List.take_add_one,hx];simp
   have HTK:=uH htk;have HGV:=uH (fun W=>NH W n x.1 x.2 Gw);have hA:=(Below.refl wr.heap.size wr).alloc aQ (.cells #[.i x.1,.i x.2] 136);have AY:=hKr.later hA;have hf0:(wr.alloc (.cells #[.i x.1,.i x.2] 136)).cell? ⟨wr.heap.size,0,none⟩=some (.i x.1):=au
   have hf1:(wr.alloc (.cells #[.i x.1,.i x.2] 136)).cell? ⟨wr.heap.size,1,none⟩=some (.i x.2):=au
   clear hx htk;go_wp2_with fail;generalize wr.alloc (.cells #[.i x.1,.i x.2] 136)=wa at *;generalize wr.heap.size=fb at *;refine(eP _ _ _ Gw).mono ?_;rintro e w7 ⟨rfl,cB⟩;have AU:=AY.later cB;have e0:=ak cB hf0;have e1:=ak cB hf1;clear hd0 hd1 hA hf0 hf1 cB AY hKr hK;go_wp2_with fail;refine(HGV.out _).mono ?_;rintro e w8 ⟨rfl,cZ⟩;have Nj:=AU.later cZ;clear e0 e1 cZ AU;obtain⟨i0',hi,hz0,hz1,hz2⟩:=info_parts lJ;have hown:bR (w8.alloc (.cells #[.i (part n x)] 3)) (.slice va k vc) k 1 (((l.take k).map (part n)).map (Value.int .i64)):=bR.alloc Nj.2.2.1 _;have Ry:=uH Nj;clear Nj;go_wp2_with (at_builtin;refine Hp.lD _ rfl _ _ 43 rfl 3 i0' (.i 0) 1 8 underlying43 hi hz0 hz1 hz2 rfl aT _ _ _ rfl hown ⟨w8.heap.size,0,none⟩ 1 1 [.i (part n x)] rfl rfl (F7 _ _ _) ?c2 ?c3 ?c4 ?_)
   case c2=>simp[Value.oneCell']
   case c3=>unfold maxLen;omega
   case c4=>omega
   intro la' lc' w5 hown' hfp hch;have dS:aD (fun k=>w.heap.size<=k) w8 w5:=aD.trans ((aD.refl _ _).alloc _) hch (fun i hi hk=>Ry.out.2.2.2.1 i hk);have Sg:=Ry.out.2.2.2.2.size;have kM:Below w.heap.size w8 w5:=dS.below Sg (fun k hk=>hk)
   have sV:U4 w g l n (.slice la' (k+1) lc') (k+1) w5:=by
    refine⟨Ry.out.1.stable (dS.block _ (Nat.lt_of_lt_of_le hg Sg) ag),hg,?_,?_,Ry.out.2.2.2.2.trans kM⟩
    ·rw[HTK.out];simpa [List.map_take] using hown'
    ·intro j hj
     rcases hfp j hj with h' | h'
     ·exact Ry.out.2.2.2.1 j h'
     ·first | omega | (simp at h';omega)
   clear hown hown' hfp hch dS kM;go_wp2_with fail
   go_roundw
   case rel=>exact⟨k+1,_,_,rfl,by go_num,ag,sV⟩
   case measure=>simp[intOf];omega
  ·have e:k=l.length:=ag
   subst e;have hT:l.take l.length=l:=List.take_length;go_wp2_with fail;go_ret;exact⟨_,rfl,by have q:=hKr.2.2.1;rw[hT]at q;exact q,hKr.2.2.2.1,hKr.2.2.2.2⟩
end Field
namespace Slot
open Go.RowKit Hp
structure S where
 state:Int
 own:Int
 streams:Int
 broken:Bool
 marked:Bool
 uses:Int
 gen:Int
 aJ:Int
 version:Int
 deriving DecidableEq
def S.cells (s:S):Array Value:=(Aa s.state s.own s.streams s.broken s.marked s.uses s.gen s.aJ s.version)
abbrev S.val (s:S):Value:=.agg s.cells
def bit (b:Bool):Int:=if b then 1 else 0
def S.bare (s:S):S:=
 {s with
  streams:=if s.state=3 then s.streams else 0
  marked:=if s.state=2 then s.marked else false
  broken:=if s.state=2\/s.state=3\/s.state=4 then s.broken else false
  uses:=if s.state=2\/s.state=3\/s.state=4 then s.uses else 0
  aJ:=if s.state=6 then s.aJ else 0
  own:=if s.state=0\/s.state=6 then 0 else s.own}
theorem vF (w:World) (b:Bool):Calls prog 99 #[.bool b] w fun e w'=>e=.returned (.i (bit b))/\w=w':=by
 go_enter func99,ntmps99
 cases b
 ·go_wp2
  go_ret;exact⟨rfl,rfl⟩
 ·go_wp2
  go_ret;exact⟨rfl,rfl⟩
theorem xx (w:World) (s:S):Calls prog 97 #[s.val] w fun e w'=>e=.returned s.bare.val/\Below w.heap.size w w':=by
 obtain⟨st,ow,sm,br,ma,us,ge,ep,ve⟩:=s
 go_enter func97,ntmps97
 simp only[S.val,S.cells]
 by_cases h0:st=0
 ·subst h0
  go_wp2
  refine bodyPost_ret (results_cell_row rfl _ _ (w.heap.size+1) _ _ _ _ rfl (heap_alloc2_new _ _ _) underlying57 rfl ax) rfl ?_;exact⟨by simp[S.bare, *],(bZ.alloc aQ _).alloc au _⟩
 by_cases h1:st=1
 ·subst h1
  go_wp2
  refine bodyPost_ret (results_cell_row rfl _ _ (w.heap.size+1) _ _ _ _ rfl (heap_alloc2_new _ _ _) underlying57 rfl ax) rfl ?_;exact⟨by simp[S.bare, *],(bZ.alloc aQ _).alloc au _⟩
 by_cases h2:st=2
 ·subst h2
  go_wp2
  refine bodyPost_ret (results_cell_row rfl _ _ (w.heap.size+1) _ _ _ _ rfl (heap_alloc2_new _ _ _) underlying57 rfl ax) rfl ?_;exact⟨by simp[S.bare, *],(bZ.alloc aQ _).alloc au _⟩
 by_cases h3:st=3
 ·subst h3
  go_wp2
  refine bodyPost_ret (results_cell_row rfl _ _ (w.heap.size+1) _ _ _ _ rfl (heap_alloc2_new _ _ _) underlying57 rfl ax) rfl ?_;exact⟨by simp[S.bare, *],(bZ.alloc aQ _).alloc au _⟩
 by_cases h4:st=4
 ·subst h4
  go_wp2
  refine bodyPost_ret (results_cell_row rfl _ _ (w.heap.size+1) _ _ _ _ rfl (heap_alloc2_new _ _ _) underlying57 rfl ax) rfl ?_;exact⟨by simp[S.bare, *],(bZ.alloc aQ _).alloc au _⟩
 by_cases h5:st=5
 ·subst h5
  go_wp2
  refine bodyPost_ret (results_cell_row rfl _ _ (w.heap.size+1) _ _ _ _ rfl (heap_alloc2_new _ _ _) underlying57 rfl ax) rfl ?_;exact⟨by simp[S.bare, *],(bZ.alloc aQ _).alloc au _⟩
 by_cases h6:st=6
 ·subst h6
  go_wp2
  refine bodyPost_ret (results_cell_row rfl _ _ (w.heap.size+1) _ _ _ _ rfl (heap_alloc2_new _ _ _) underlying57 rfl ax) rfl ?_;exact⟨by simp[S.bare, *],(bZ.alloc aQ _).alloc au _⟩
 have n2:(st != 2)=true:=by simpa using h2
 have n3:(st != 3)=true:=by simpa using h3
 have n4:(st != 4)=true:=by simpa using h4
 have n6:(st != 6)=true:=by simpa using h6
 have e0:(st == 0)=false:=by simpa using h0
 have e6:(st == 6)=false:=by simpa using h6
 go_wp2
 refine bodyPost_ret (results_cell_row rfl _ _ (w.heap.size+1) _ _ _ _ rfl (heap_alloc2_new _ _ _) underlying57 rfl ax) rfl ?_;exact⟨by simp[S.bare, *],(bZ.alloc aQ _).alloc au _⟩
end Slot
namespace ah
open Go.RowKit Hp
section
variable {P:Program} {ops:Array Oper} {Q:Exit->Act->World->Prop} {md:Region.Mode} {S:World->Prop}
variable {fuel:Nat} {listed:Array Bool}
theorem Vp {a:Act} {w:World} {g:Nat} {t:TypeId} {cs:Array Value} {d':TypeDesc} (i d:Nat) (hg:af w g cs t) (T:TypeId) (x:Operand) (hu:P.underlying T=some d') (hS:S w)
  (h:wpAnyH P md ops Q S fuel (listed.setIfInBounds i true) (a.put (some d) (.agg cs)) w)
  (hr:Region.ready md ops listed=[i]:=by kernel_rfl) (ho:(ops[i]?).map (fun o=>(o.dst,o.op))=some (some d,.load T x):=by kernel_rfl)
  (hx:a.eval x=ptr g:=by kernel_rfl) (hd:(match d' with | .struct _ | .array _ _=>true | _=>false)=true:=by rfl) (hi:(P.info? T).map (·.size)=some cs.size:=by kernel_rfl)
  (hw:(ops[i]?).map (fun o=>Region.wanted o (yielded ops a.tmps))=some true:=by kernel_rfl):wpAnyH P md ops Q S (fuel+1) listed a w:=by
 refine aX hr ?_
 cases h1:ops[i]? with
 | none=>rw[h1]at ho;cases ho
 | some o=>
  rw[h1]at ho;simp only[Option.map_some,Option.some.injEq,Prod.mk.injEq]at ho;refine aY (w':=w) (some d) (.agg cs) (by rw[h1];simp[ho.1]) hw ?_ hS (fun _=>h);rw[h1];simp only[Option.map_some];exact congrArg some (aM (P:=P) (S:=fun w'=>w'=w) (a:=a) T x g t cs d' hx hu hd hi (fun w' e=>by rw[e];exact hg) o ho.2 w rfl)
theorem rK {a:Act} {w:World} (i d:Nat) (v:Value) (hS:S w) (h:wpAnyH P md ops Q S fuel (listed.setIfInBounds i true) (a.put (some d) v) w)
  (hrun:((ops[i]?).map fun o=>(execOp a.eval o).run P w)=some (.ok (.value v) w)) (hr:Region.ready md ops listed=[i]:=by kernel_rfl) (ho:(ops[i]?).map (fun o=>o.dst)=some (some d):=by kernel_rfl)
  (hw:(ops[i]?).map (fun o=>Region.wanted o (yielded ops a.tmps))=some true:=by kernel_rfl):wpAnyH P md ops Q S (fuel+1) listed a w:=
 aX hr (aY (some d) v ho hw hrun hS (fun _=>h))
theorem Vq {a:Act} {w:World} {g:Nat} {t:TypeId} {Z:Array Value} (i:Nat) (hg:af w g Z t) (cs:Array Value) (T:TypeId) (x y:Operand)
  (hS:S (w.setRow g cs)) (h:wpAnyH P md ops Q S fuel (listed.setIfInBounds i true) a (w.setRow g cs))
  (hr:Region.ready md ops listed=[i]:=by kernel_rfl) (ho:(ops[i]?).map (fun o=>(o.dst,o.op,o.guard))=some (none,Op.store T x y,none):=by kernel_rfl)
  (hx:a.eval x=ptr g:=by kernel_rfl) (hy:a.eval y=.agg cs:=by kernel_rfl)
  (hsz:Z.size=cs.size:=by kernel_rfl) (hi:(P.info? T).map (·.size)=some cs.size:=by kernel_rfl) (h1:cs.all (·.oneCell')=true:=by kernel_rfl):wpAnyH P md ops Q S (fuel+1) listed a w:=
 dh hr T x y ho g t Z cs hx hy hg hsz hi h1 hS (fun _=>h)
end
theorem pM {P:Program} {ops:Array Oper} {Q:Exit->Act->World->Prop} {rest:List Oper} {o:Oper} {a:Act} {w:World} (F:Nat) (args:Array Operand) (ats:Array TypeId) (vals:Array Value) (hE:∀ args w,(callFunc F args).run P w=.ok (.enter F args) w)
  (h:Calls P F vals w fun e w'=>∃ v,e=.returned v/\wpList P ops Q rest (a.put o.dst v) w')
  (ho:o.op=Op.call {callee:=Callee.value (Operand.func F),args:=args,argTypes:=ats}:=by kernel_rfl) (hg:o.guard=none:=by kernel_rfl) (hv:args.map a.eval=vals:=by kernel_rfl):wpList P ops Q (o :: rest) a w:=
 wpList_plain hg fun K hK=>by
  have hx:(execOp a.eval o).run P w=.ok (.enter F vals) w:=by
   unfold execOp;simp only[ho,resolve];simp[go_sem,hv,hE,Act.eval,invoke,Deferred.ofValue]
  unfold Oper.wp;rw[hx,Oper.upon_enter];refine h.mono ?_;rintro e w' ⟨v,rfl,hk⟩;exact hK _ _ hk
theorem bX {w w':World} (h:Below w.heap.size w w') {g:Nat} (hg:w.heap.size<=g) (cs:Array Value):Below w.heap.size w (w'.setRow g cs):=
 (mY (F:=fun k=>w.heap.size<=k) (aD.aF h) g cs (fun _=>hg)).below aQ (fun _ e=>e)
theorem zS {P:Program} {fn:Func} {p u v:Tmp} {ty:TypeId} (h:fn.results=#[.cell p ty,.tmp u,.tmp v]) (tmps:Array Value) (w:World) (g:Nat) (t:TypeId) (cs:Array Value) (d:TypeDesc)
  (hp:tmps.getD p undef=ptr g) (hg:af w g cs t)
  (hu:P.underlying ty=some d) (hd:(match d with | .struct _ | .array _ _=>true | _=>false)=true) (hi:(P.info? ty).map (·.size)=some cs.size):
  (results fn tmps).run P w=.ok (.tuple #[.agg cs,tmps.getD u undef,tmps.getD v undef]) w:=by
 have hp':tmps[p]?.getD undef=ptr g:=by simpa using hp
 simp only[results,h];simp[Result.andThen,hp',asAddr,run_loadVar_row w g t ty cs (0,0) d hg hu hd hi]
section
variable {P:Program} {fn:Func} {R:Ending->World->Prop} {a:Act} {w:World} {p q r:Tmp} {ty t:TypeId} {cs:Array Value} {d:TypeDesc}
theorem ZN (g:Nat) (hg:af w g cs t) (hu:P.underlying ty=some d) (hR:R (.returned (.tuple #[.agg cs,a.tmps.getD q undef,a.tmps.getD r undef])) w) (h:fn.results=#[.cell p ty,.tmp q,.tmp r]:=by rfl) (hp:a.tmps.getD p undef=ptr g:=by rfl)
  (hd:(match d with | .struct _ | .array _ _=>true | _=>false)=true:=by rfl) (hi:(P.info? ty).map (·.size)=some cs.size:=by kernel_rfl) (hde:a.defers=[]:=by rfl):bodyPost P fn R .ret a w:=
 bodyPost_ret (zS h _ _ g t cs d hp hg hu hd hi) hde hR
end
section
variable {P:Program} {ops:Array Oper} {Q:Exit->Act->World->Prop} {md:Region.Mode} {S:World->Prop}
theorem Yc {i fuel:Nat} {listed:Array Bool} {a:Act} {w:World} (F:Nat) (k:Nat) (args:Array Operand) (ats:Array TypeId) (d:Option Tmp) (gd:Option (Nat×Bool)) (vals:Array Value) (hE:∀ args w,(callFunc F args).run P w=.ok (.enter F args) w)
  (hT:a.eval (.tmp k)=.func (.func F) #[] #[])
  (h:Calls P F vals w fun e w'=>∃ v,e=.returned v/\S w'/\(S w'->wpAnyH P md ops Q S fuel (listed.setIfInBounds i true) (a.put d v) w'))
  (hr:Region.ready md ops listed=[i]:=by kernel_rfl)
  (ho:(ops[i]?).map (fun o=>(o.dst,o.op,o.guard))=some (d,Op.call {callee:=Callee.value (.tmp k),args:=args,argTypes:=ats},gd):=by kernel_rfl)
  (hw:(ops[i]?).map (fun o=>Region.wanted o (yielded ops a.tmps))=some true:=by kernel_rfl)
  (hv:args.map a.eval=vals:=by kernel_rfl):wpAnyH P md ops Q S (fuel+1) listed a w:=by
 obtain⟨o,sF,vO,vP,yU⟩:=nG ho;refine wpAnyH_ready hr au (AllReadyH.cons sF (fun K hK=>?_) AllReadyH.nil);rw[sF]at hw;rw[if_pos (by simpa using hw)]
 have hx:(execOp a.eval o).run P w=.ok (.enter F vals) w:=by
  unfold execOp;simp only[vP,resolve];have vQ:a.tmps[k]?.getD undef=.func (.func F) #[] #[]:=by simpa [Act.eval] using hT
  simp[go_sem,vQ,hv,hE,Act.eval,invoke,Deferred.ofValue]
 unfold Oper.wp;rw[hx,Oper.upon_enter];refine h.mono ?_;rintro e w' ⟨v,rfl,hS,hk⟩;dsimp only;rw[vO];exact hK.out _ _ hS hk
end
end ah
namespace Line
open Go.RowKit Go.Shelf Hp je
attribute [local go_sem] Oper.semAt_some
def su (q:Int):Nat->Int
 | 0=>q
 | k+1=>su q k / 16
theorem wm (q:Int) (k:Nat):su q (k+1)=su q k / 16:=rfl
theorem Sj (q:Int) (h:q<=9223372036854775807):∀ k,su q k<=9223372036854775807:=by
 intro k
 induction k with
 | zero=>exact h
 | succ k ih=>rw[wm];omega
theorem GN (q:Int) (h:q<=9223372036854775807):su q 16<=0:=by
 simp only[su];omega
theorem Oa (q:Int):∀ (d k:Nat),su q k<=0->su q (k+d)<=0:=by
 intro d
 induction d with
 | zero=>intro k h;exact h
 | succ d ih=>
  intro k h;have:=ih k h
  show su q (k+d) / 16<=0
  omega
theorem Sk {q:Int} (h:q<=9223372036854775807) {k:Nat} (hk:0 < su q k):k < 16:=by
 by_cases hh:k < 16
 ·exact hh
 ·have:=Oa q (k - 16) 16 (GN q h);rw[show 16+(k - 16)=k by omega]at this;omega
theorem Fu (w:World) (q:Int):Calls prog 250 #[.i q] w fun e w'=>e=.returned (.i (q / 16))/\w=w':=by
 go_enter func250,ntmps250
 go_wp2
 go_ret;exact⟨rfl,rfl⟩
theorem ni (w:World) (q:Int):Calls prog 251 #[.i q] w fun r w'=>
  r=.returned (.func (.func 268) #[] #[ptr w.heap.size])/\w'=w.alloc (.cells #[.i q] 3):=by
 go_enter func251,ntmps251
 go_wp2
 go_ret;exact⟨rfl,rfl⟩
def xO (x:Nat×Int):Array Value:=#[.i (x.1:Int),.i x.2]
def rq (q:Int) (s:Nat) (_:World) (x:Nat×Int) (s':Nat):Prop:=s'=s+1/\x.1=s/\x.2=su q s % 16 - 1/\0 < su q s
theorem nk (bx:Nat) (q:Int) (hq:q<=9223372036854775807) (Ww:Nat->Prop) (W:World) (hb:W.cell? ⟨bx,0,none⟩=some (.i q)) (hf:W.frozen? ⟨bx,0,none⟩=false) (hW:¬ Ww bx):
  RJ prog 268 #[ptr bx] xO Ww (fun k=>k=bx) (fun _ _ _=>False) (rq q) (fun s _=>su q s<=0) 0 W:=by
 intro L J Jx hJs Yz hY h0;refine callsIn_of_wp func268 rfl trivial ?_ rfl;simp only[ntmps268,List.size_toArray,List.length_cons,List.length_nil,Nat.reduceAdd,Nat.reduceSub,Array.replicate_succ,Array.replicate_zero,List.push_toArray,List.append_toArray,List.nil_append,List.cons_append]
 gi_wp2
 gi_loopw [3] (fun i wr=>∃ k:Nat,k<=16/\i=.i k/\wr.cell? ⟨bx,0,none⟩=some (.i (su q k))/\wr.frozen? ⟨bx,0,none⟩=false/\J k wr) (fun i _=>16 - (intOf i).toNat)
 case atStart=>exact⟨0,ag,rfl,hb,hf,h0⟩
 case round=>
  obtain⟨k,hk,rfl,hc,hz,hj⟩:=hrel
  by_cases hlt:0 < su q k
  ·have aaQ:=Sk hq hlt;have hle:=Sj q hq k;obtain⟨fn,tmps,assign,body,hy,hR⟩:=hY k (k,su q k % 16 - 1) (k+1) wr hj ⟨rfl,rfl,rfl,hlt⟩;simp only[xO]at hy;have hdn:=wm q k;have Hlt:=uH hlt;generalize su q k=g at *
   gi_wp2_with fail
   refine hR.mono ?_;rintro e W3 (⟨rfl,hJ3,hk3⟩ | ⟨rfl,hJx3⟩)
   ·have hc3:=(World.cell?_of_block (hk3.same bx (dN hc) hW)).trans hc;have hz3:=(World.frozen?_of_block (hk3.same bx (dN hc) hW)).trans hz
    gi_wp2_with fail
    go_roundw
    case rel=>
     refine⟨k+1,ag,by go_num,?_,?_,hJs _ _ _ hJ3 ((aD.refl _ _).setCell _ _ (fun _=>rfl))⟩
     ·rw[World.cell?_setCell_same _ _ _ hc3,hdn]
     ·rw[World.frozen?_setCell];exact hz3
    case measure=>simp[intOf];omega
   ·gi_wp2
    refine bP ?_;exact⟨⟨_,rfl⟩,.inr hJx3⟩
  ·gi_wp2
   go_end0
   exact⟨⟨_,rfl⟩,.inl ⟨k,ag,hj⟩⟩
def hK (w:World) (W:World):Prop:=Below w.heap.size w W/\W.cell? ⟨w.heap.size,0,none⟩=some (.i 0)/\W.frozen? ⟨w.heap.size,0,none⟩=false/\W.cell? ⟨w.heap.size+1,0,none⟩=some (.bool false)/\W.frozen? ⟨w.heap.size+1,0,none⟩=false
theorem hK.aK {w W W':World} {F:Nat->Prop} (h:hK w W) (hc:aD F W W') (hF:∀ k,F k->w.heap.size+2<=k):hK w W':=by
 obtain⟨h1,h2,h3,h4,h5⟩:=h;have b1:=dN h2;have b2:=dN h4;have n1:¬ F w.heap.size:=fun e=>by have:=hF _ e;omega
 have n2:¬ F (w.heap.size+1):=fun e=>by have:=hF _ e;omega
 refine⟨h1.trans (hc.below h1.size fun k e=>?_),(hc.cell b1 n1).trans h2,(hc.frozen (p:=⟨w.heap.size,0,none⟩) b1 n1).trans h3,(hc.cell b2 n2).trans h4,(hc.frozen (p:=⟨w.heap.size+1,0,none⟩) b2 n2).trans h5⟩;have:=hF k e;omega
theorem Bp (w:World) (q:Int) (hq:q<=9223372036854775807):Calls prog 248 #[.i q] w fun e w'=>e=.returned (if 0 < q then .tuple #[.i (q % 16 - 1),.bool true] else .tuple #[.i 0,.bool false])/\Below w.heap.size w w':=by
 generalize hR:(if 0 < q then Value.tuple #[.i (q % 16 - 1),.bool true] else .tuple #[.i 0,.bool false])=R;refine(callsIn_wide (n:=9)).1 ?_;refine callsIn_of_wp_marks func248 rfl trivial ?_;simp only[ntmps248,List.size_toArray,List.length_cons,List.length_nil,Nat.reduceAdd,Nat.reduceSub,Array.replicate_succ,Array.replicate_zero,List.push_toArray,List.append_toArray,List.nil_append,List.cons_append]
 gi_wp2_with (refine⟨trivial,?_⟩;gi_at_call 251;refine(callsIn_wide.2 (ni _ _)).mono ?_;rintro e w' ⟨rfl,rfl⟩)
 have hb0:Below w.heap.size w (((w.alloc (.cells #[.i 0] 3)).alloc (.cells #[.bool false] 4)).alloc (.cells #[.i q] 3)):=((bZ.alloc aQ _).alloc au _).alloc (by simp;omega) _;have pQ:hK w (((w.alloc (.cells #[.i 0] 3)).alloc (.cells #[.bool false] 4)).alloc (.cells #[.i q] 3)):=⟨hb0,by go_simp,by go_simp,by go_simp,by go_simp⟩
 have hbx:(((w.alloc (.cells #[.i 0] 3)).alloc (.cells #[.bool false] 4)).alloc (.cells #[.i q] 3)).cell? ⟨w.heap.size+2,0,none⟩=some (.i q):=by go_simp
 have hbz:(((w.alloc (.cells #[.i 0] 3)).alloc (.cells #[.bool false] 4)).alloc (.cells #[.i q] 3)).frozen? ⟨w.heap.size+2,0,none⟩=false:=by go_simp
 clear hb0;generalize (((w.alloc (.cells #[.i 0] 3)).alloc (.cells #[.bool false] 4)).alloc (.cells #[.i q] 3))=wq at *;have Db:=dN hbx
 refine jg (gf:=268) (lb:=#[ptr (w.heap.size+2)]) (by first | rfl | kernel_rfl) (aH func268) (encs:=xO)
  (Ww:=fun k=>k=w.heap.size\/k=w.heap.size+1) (Wr:=fun k=>k=w.heap.size+2) (qP:=fun _ _ _=>False) (Yields:=rq q) (Done:=fun s _=>su q s<=0) (s0:=0)
  ?hps ?Fg ?hseq (fun s W=>s=0/\hK w W) (fun c W=>c=.ret/\0 < q/\Below w.heap.size w W/\W.cell? ⟨w.heap.size,0,none⟩=some (.i (q % 16 - 1))/\W.cell? ⟨w.heap.size+1,0,none⟩=some (.bool true)) ?hKs (fun _ _ _ _ h=>h.elim) ?hKt ?xP (fun _ _ _ _ _ h _=>h) (fun _ _ _ h _=>h) (fun _ _ _ _ _ h _=>h) ?h0
  ?round ?done ?stop
 case hps=>intro x;rfl
 case Fg=>rintro k ((hk | hk) | hk)<;>simp only at Db<;>omega
 case hseq=>
  intro W1 hT;exact nk _ q hq _ W1 (hT.cell hbx) ((hT.frozen hbx).trans hbz) ag
 case hKs=>exact fun s W W' h hc=>⟨h.1,h.2.aK hc (fun k e=>ag)⟩
 case hKt=>exact fun s W W' h ht=>⟨h.1,ht.below h.2.1 pQ.1.size aQ,ht.cell h.2.2.1,(ht.frozen h.2.2.1).trans h.2.2.2.1,ht.cell h.2.2.2.2.1,(ht.frozen h.2.2.2.2.1).trans h.2.2.2.2.2⟩
 case xP=>exact fun c W W' h ht=>⟨h.1,h.2.1,ht.below h.2.2.1 pQ.1.size aQ,ht.cell h.2.2.2.1,ht.cell h.2.2.2.2⟩
 case h0=>exact⟨rfl,pQ⟩
 case round=>
  rintro L s ⟨j,y⟩ s' W hL Yw ⟨rfl,hk⟩ ⟨hs',hj,hy,h0⟩;simp only[xO]
  gi_wp2
  refine⟨aD.refl _ _,?_⟩;have hd0:su q 0=q:=rfl;simp only[hd0]at h0 ⊢;intro W2 vQ rr hlp hk2 hy2;obtain⟨k1,k2,k3,k4,k5⟩:=hk2;have hlt:w.heap.size+1 < W2.heap.size:=dN k4;have HQ:=uH h0;clear vQ hk hL Yw h0 hlp hy2
  gi_wp2_with fail
  have e1:aD (fun k=>k=w.heap.size\/k=w.heap.size+1) W2 ((W2.setCell ⟨w.heap.size,0,none⟩ (.i (q % 16 - 1))).setCell ⟨w.heap.size+1,0,none⟩ (.bool true)):=((aD.refl _ _).setCell _ _ (fun _=>.inl rfl)).setCell _ _ (fun _=>.inr rfl);exact⟨gY.pU e1 (fun _ _ h=>h),rfl,HQ.out,(k1.setCell au _).setCell au _,by rw[World.cell?_setCell_other _ _ _ _ au];exact World.cell?_setCell_same _ _ _ k2,World.cell?_setCell_same _ _ _ (by rw[World.cell?_setCell_other _ _ _ _ au];exact k4)⟩
 case done=>
  rintro D s W hD hdn ⟨rfl,k1,k2,k3,k4,k5⟩ Ay;simp only[su]at hdn;have hn:¬ 0 < q:=ag
  rw[if_neg hn]at hR;subst hR
  gi_wp2
  have Sl:w.heap.size+2 < D:=ag
  have hK2:((W.setCell ⟨w.heap.size,0,none⟩ (.i 0)).setCell ⟨w.heap.size+1,0,none⟩ (.bool false)).heap[D]? =some (.deferred (some [])):=(Below.heap_setCell _ _ _ _ (by simp;omega)).trans ((Below.heap_setCell _ _ _ _ (by simp;omega)).trans Ay);have h7:Below w.heap.size w ((W.setCell ⟨w.heap.size,0,none⟩ (.i 0)).setCell ⟨w.heap.size+1,0,none⟩ (.bool false)):=(k1.setCell au _).setCell au _;have c0:((W.setCell ⟨w.heap.size,0,none⟩ (.i 0)).setCell ⟨w.heap.size+1,0,none⟩ (.bool false)).cell? ⟨w.heap.size,0,none⟩=some (.i 0):=by rw[World.cell?_setCell_other _ _ _ _ au];exact World.cell?_setCell_same _ _ _ k2
  have c1:((W.setCell ⟨w.heap.size,0,none⟩ (.i 0)).setCell ⟨w.heap.size+1,0,none⟩ (.bool false)).cell? ⟨w.heap.size+1,0,none⟩=some (.bool false):=World.cell?_setCell_same _ _ _ (by rw[World.cell?_setCell_other _ _ _ _ au];exact k4);generalize ((W.setCell ⟨w.heap.size,0,none⟩ (.i 0)).setCell ⟨w.heap.size+1,0,none⟩ (.bool false))=W3 at *;have hT:dK wq.heap.size W3 (W3.putObj D (.deferred none)):=(dK.refl _ _).putObj _ hD hK2 rfl;have d0:=hT.cell c0;have d1:=hT.cell c1;refine⟨au,.inl ⟨_,_,rfl,run_takeDeferred hK2,?_⟩⟩;exact⟨_,by simp[results,results248,go_sem,d0,d1],rfl,hT.below h7 pQ.1.size aQ⟩
 case stop=>
  rintro D c W hD ⟨rfl,h0,k1,k2,k3⟩ Ay;rw[if_pos h0]at hR;subst hR
  gi_wp2
  have Sl:w.heap.size+2 < D:=ag
  have hK2:W.heap[D]? =some (.deferred (some [])):=Ay;have h7:Below w.heap.size w W:=k1;have c0:=cC (q % 16 - 1) k2;have c1:=cV (.bool true) k3;generalize W=W3 at *;have hT:dK wq.heap.size W3 (W3.putObj D (.deferred none)):=(dK.refl _ _).putObj _ hD hK2 rfl;have d0:=hT.cell c0;have d1:=hT.cell c1;refine⟨au,.inl ⟨_,_,rfl,run_takeDeferred hK2,?_⟩⟩;exact⟨_,by simp[results,results248,go_sem,d0,d1],rfl,hT.below h7 pQ.1.size aQ⟩
end Line
namespace bM
open Go.RowKit Hp
abbrev El:=Bool
abbrev val (x:El):Value:=.bool x
def fp (rb:Nat) (v:Value) (k:Nat):Prop:=k=rb\/Fp v k
structure At (w:World) (rb:Nat) (v:Value) (l:List El) (room:Int):Prop where
 c0:w.cell? ⟨rb,0,none⟩=some v
 c1:w.cell? ⟨rb,1,none⟩=some (.i room)
 f0:w.frozen? ⟨rb,0,none⟩=false
 own:bR w v l.length 1 (l.map val)
 sep:¬ Fp v rb
 r0:0<=room
 r1:room<=1000000
 fits:(l.length:Int)<=room
variable {room:Int}
theorem At.lt {w:World} {rb:Nat} {v:Value} {l:List El} (h:At w rb v l room) {k:Nat} (hk:fp rb v k):k < w.heap.size:=by
 rcases hk with rfl | hk
 ·exact dN h.c0
 ·exact h.own.lt hk
theorem At.stable {w w':World} {rb:Nat} {v:Value} {l:List El} (h:At w rb v l room) (hs:w.heap.size<=w'.heap.size) (hb:∀ k,fp rb v k->w'.heap[k]? =w.heap[k]?):At w' rb v l room:=
 ⟨(World.cell?_of_block (w:=w) (hb rb (.inl rfl))).trans h.c0,(World.cell?_of_block (w:=w) (hb rb (.inl rfl))).trans h.c1,(World.frozen?_of_block (w:=w) (hb rb (.inl rfl))).trans h.f0,
  h.own.stable hs fun k hk=>hb k (.inr hk),h.sep,h.r0,h.r1,h.fits⟩
theorem At.aK {F:Nat->Prop} {w w':World} {rb:Nat} {v:Value} {l:List El} (h:At w rb v l room) (hc:aD F w w') (hf:∀ k,fp rb v k->¬ F k):At w' rb v l room:=
 h.stable hc.size fun k hk=>hc.block k (h.lt hk) (hf k hk)
theorem At.drew {w:World} {rb:Nat} {v:Value} {l:List El} (h:At w rb v l room):At w.drew rb v l room:=h.stable aQ fun _ _=>rfl
def Post (w:World) (rb:Nat) (v:Value) (ans:Value) (l':List El) (room:Int) (e:Ending) (w':World):Prop:=
 e=.returned ans/\∃ v',At w' rb v' l' room/\(∀ k,Fp v' k->Fp v k\/w.heap.size<=k)/\aD (fp rb v) w w'
def W9 (w:World) (rb:Nat) (v:Value) (ans:Value) (l':List El) (room:Int) (e:Ending) (w':World):Prop:=
 e=.returned ans/\∃ v',At w' rb v' l' room/\(∀ k,Fp v' k->Fp v k)/\aD (fp rb v) w w'
def rT (n:Int):Int:=min (max n 0) 1000000
theorem L8 (n:Int):0<=rT n/\rT n<=1000000:=by unfold rT;omega
theorem iZ (w:World) (n:Int):Calls prog 50 #[.i n] w fun e w'=>
  e=.returned (ptr w.heap.size)/\w'=w.alloc (.cells #[.slice none 0 0,.i (rT n)] 112):=by
 go_enter func50,ntmps50
 go_wp2
 all_goals go_ret
 all_goals (refine⟨rfl,congrArg (fun k=>w.alloc (.cells #[.slice none 0 0,.i k] 112)) ?_⟩;unfold rT;omega)
theorem at_new (w:World) (n:Int):At (w.alloc (.cells #[.slice none 0 0,.i (rT n)] 112)) w.heap.size (.slice none 0 0) [] (rT n):=by
 obtain⟨h0,h1⟩:=L8 n;exact⟨au,au,au,fG _ _,dP _,h0,h1,by simpa using h0⟩
theorem info:(prog.info? 4).map (fun i=>(i.zero,i.size,i.bytes))=some (some (.bool false),1,1):=ax
theorem Pt (w:World) (rb:Nat) (v:Value) (l:List El) (room:Int) (x:El) (h:At w rb v l room) (hf:room<=l.length):
  Calls prog 53 #[ptr rb,val x] w (Post w rb v (.bool false) l room):=by
 obtain⟨a,c,rfl⟩:=h.own.form;have h0:=h.c0;have h1:=h.c1;have hl:=h.own.len
 go_enter func53,ntmps53
 go_wp2
 go_region
 go_wp2
 go_ret;exact⟨rfl,_,h.drew,fun k hk=>.inl hk,(aD.refl _ _).drew⟩
theorem L9 (w:World) (rb:Nat) (v:Value) (l:List El) (room:Int) (x:El) (h:At w rb v l room) (hf:l.length < room):
  Calls prog 53 #[ptr rb,val x] w (Post w rb v (.bool true) (l ++ [x]) room):=by
 obtain⟨a,c,rfl⟩:=h.own.form;have h0:=h.c0;have h1:=h.c1;have hl:=h.own.len;have h2:=h.f0;have h3:=h.r1;have hlt:rb < w.heap.size:=dN h.c0;have hown:bR (w.drew.alloc (.cells #[val x] 4)) (.slice a l.length c) l.length 1 (l.map val):=h.own.drew.alloc _;obtain⟨i0,hi,hz0,hz1,hz2⟩:=info_parts info
 go_enter func53,ntmps53
 go_wp2
 go_region;go_wp2_with (at_builtin;refine lD _ rfl _ _ 58 rfl 4 i0 (.bool false) 1 1 underlying58 hi hz0 hz1 hz2 rfl aT _ _ _ rfl hown ⟨w.heap.size,0,none⟩ 1 1 [val x] rfl rfl ?c1 ?c2 ?c3 ?c4 ?_)
 case c1=>exact F7 _ _ _
 case c2=>simp[Value.oneCell']
 case c3=>unfold maxLen;omega
 case c4=>omega
 intro a' c' w' hown' hfp hch;have hch':aD (Fp (.slice a l.length c)) w w':=aD.trans ((aD.refl _ w).drew.alloc _) hch (fun k _ hk=>hk);have e0:=cV (.slice a l.length c) ((hch'.cell hlt h.sep).trans h.c0);have e1:=cC room ((hch'.cell hlt h.sep).trans h.c1);have e2:w'.frozen? ⟨rb,0,none⟩=false:=(hch'.frozen hlt h.sep).trans h.f0;have hw1:aD (fp rb (.slice a l.length c)) w w':=hch'.mono fun k _ hk=>.inr hk
 have hsz:=hw1.size
 have hrb:¬ Fp (.slice a' (l.length+1) c') rb:=fun hk=>by
  rcases hfp rb hk with h' | h'
  ·exact h.sep h'
  ·first | omega | (simp at h';omega)
 clear h0 h1 h2
 go_wp2
 go_ret;refine⟨rfl,_,⟨World.cell?_setCell_same _ _ _ e0,?_,by simp[e2],?_,hrb,h.r0,h.r1,by simp;omega⟩,fun k hk=>?_,hw1.setCell _ _ (fun _=>.inl rfl)⟩
 ·rw[World.cell?_setCell_other _ _ _ _ au];exact e1
 ·have:=hown'.aK (F:=fun k=>k=rb) ((aD.refl _ _).setCell ⟨rb,0,none⟩ (.slice a' (l.length+1) c') (fun _=>rfl)) (fun k hk e=>hrb (e ▸ hk))
  simpa using this
 ·rcases hfp k hk with h' | h'
  ·exact .inl h'
  ·exact .inr (by first | omega | (simp at h';omega))
theorem Ma (w:World) (rb:Nat) (v:Value) (room:Int) (h:At w rb v [] room):
  Calls prog 182 #[ptr rb] w fun e w'=>e=.returned (.tuple #[(.bool false),.bool false])/\w=w':=by
 obtain⟨a,c,rfl⟩:=h.own.form;have h0:=h.c0
 go_enter func182,ntmps182
 go_wp2
 go_ret2;exact⟨rfl,rfl⟩
theorem Md {w:World} {g off c:Nat} {x:El} {r:List El} (z:Value) (h:bR w (.slice (some ⟨g,off,none⟩) (r.length+1) c) (r.length+1) 1 ((x :: r).map val)) (h2:c≠1) (hz:w.cell? ⟨g,off,none⟩=some (val x)):
  bR (w.setCell ⟨g,off,none⟩ z) (.slice (some ⟨g,off+1,none⟩) r.length (c - 1)) r.length 1 (r.map val):=by
 obtain⟨hl,h | ⟨g',off',c',e,h1,h3,h4,h5,h6,h7⟩⟩:=h
 ·cases h.1
 ·cases e;refine⟨au,.inr ⟨g,off+1,c - 1,rfl,ag,ag,h4.setCell _ _,fun j hj=>?_,fun j hj=>?_,fun j u hu=>?_⟩⟩
  ·rw[World.cell?_setCell_other _ _ _ _ au,show off+1+j=off+(j+1) by omega];exact h5 _ ag
  ·rw[World.frozen?_setCell,show off+1+j=off+(j+1) by omega];exact h6 _ ag
  ·rw[World.cell?_setCell_other _ _ _ _ au,show off+1+j=off+(j+1) by omega];exact h7 _ _ (by simpa using hu)
theorem I5 (w:World) (rb:Nat) (v:Value) (x:El) (r:List El) (room:Int) (h:At w rb v (x :: r) room):
  Calls prog 182 #[ptr rb] w (W9 w rb v (.tuple #[val x,.bool true]) r room):=by
 have h0:=h.c0;have h1:=h.c1;have h2:=h.f0;have h3:=h.r1;have h4:=h.sep;have h5:=h.own;have h6:=h.fits;have hlt:rb < w.heap.size:=dN h.c0;obtain⟨g,off,c,rfl,hc1,hc2,hg,hcell,ZK,hval⟩:=h.own.some au;simp only[List.length_cons]at hc1 h5 h6;have hx:w.cell? ⟨g,off,none⟩=some (val x):=hval 0 _ au;have hfx:w.frozen? ⟨g,off,none⟩=false:=ZK 0 ag;rw[fF]at h4;simp only at h4;have hne:¬ ((⟨g,off,none⟩:Addr)=⟨rb,0,none⟩):=fun e=>h4 (by cases e;rfl)
 have hne':¬ ((⟨g,off,none⟩:Addr)=⟨rb,1,none⟩):=fun e=>h4 (by cases e;rfl)
 have hrb:(w.setCell ⟨g,off,none⟩ (.bool false)).cell? ⟨rb,0,none⟩=some (.slice (some ⟨g,off,none⟩) (r.length+1) c):=by
  rw[World.cell?_setCell_other _ _ _ _ hne];exact h0
 have IQ:(w.setCell ⟨g,off,none⟩ (.bool false)).cell? ⟨rb,1,none⟩=some (.i room):=by
  rw[World.cell?_setCell_other _ _ _ _ hne'];exact h1
 have hx':(w.setCell ⟨g,off,none⟩ (.bool false)).cell? ⟨g,off,none⟩=some (.bool false):=World.cell?_setCell_same _ _ _ hx;have hch:aD (fp rb (.slice (some ⟨g,off,none⟩) (r.length+1) c)) w (w.setCell ⟨g,off,none⟩ (.bool false)):=(aD.refl _ _).setCell _ _ (fun _=>.inr ((fF _ _ _ _).2 rfl))
 by_cases hcap:c=1
 ·subst hcap;obtain rfl:r=[]:=List.eq_nil_of_length_eq_zero ag;simp only[List.length_nil,Nat.zero_add]at *;have Pv:=World.cell?_setCell_same (w.setCell ⟨g,off,none⟩ (.bool false)) ⟨rb,0,none⟩ (.slice (some ⟨g,off,none⟩) 0 0) hrb
  go_enter func182,ntmps182
  go_wp2
  go_ret2
  refine⟨rfl,_,⟨World.cell?_setCell_same _ _ _ Pv,?_,by simp[h2],fG _ _,dP _,h.r0,h.r1,by have:=h.r0;simpa using this⟩,fun k hk=>(dP _ hk).elim,
   (hch.setCell _ _ (fun _=>.inl rfl)).setCell _ _ (fun _=>.inl rfl)⟩
  rw[World.cell?_setCell_other _ _ _ _ au,World.cell?_setCell_other _ _ _ _ au];exact IQ
 ·have Pv:=World.cell?_setCell_same (w.setCell ⟨g,off,none⟩ (.bool false)) ⟨rb,0,none⟩ (.slice (some ⟨g,off+1,none⟩) r.length (c - 1)) hrb
  cases r with
  | nil=>
   simp only[List.length_nil,Nat.zero_add]at *
   go_enter func182,ntmps182
   go_wp2
   go_ret2
   refine⟨rfl,_,⟨World.cell?_setCell_same _ _ _ Pv,?_,by simp[h2],fG _ _,dP _,h.r0,h.r1,by have:=h.r0;simpa using this⟩,fun k hk=>(dP _ hk).elim,
    (hch.setCell _ _ (fun _=>.inl rfl)).setCell _ _ (fun _=>.inl rfl)⟩
   rw[World.cell?_setCell_other _ _ _ _ au,World.cell?_setCell_other _ _ _ _ au];exact IQ
  | cons y r=>
   have hot:=Md (.bool false) h5 hcap hx;simp only[List.length_cons]at *
   go_enter func182,ntmps182
   go_wp2
   go_ret2;refine⟨rfl,_,⟨Pv,?_,by simp[h2],?_,?_,h.r0,h.r1,by simp;omega⟩,fun k hk=>?_,hch.setCell _ _ (fun _=>.inl rfl)⟩
   ·rw[World.cell?_setCell_other _ _ _ _ au];exact IQ
   ·have:=hot.aK (F:=fun k=>k=rb) ((aD.refl _ _).setCell ⟨rb,0,none⟩ (.slice (some ⟨g,off+1,none⟩) (r.length+1) (c - 1)) (fun _=>rfl)) (fun k hk e=>by rw[fF]at hk;simp at hk;omega)
    simpa using this
   ·rw[fF];simpa using h4
   ·rw[fF]at hk;exact(fF _ _ _ _).2 hk
theorem Cy (w:World) (rb:Nat) (v:Value) (x:El) (r:List El) (room:Int) (h:At w rb v (x :: r) room):
  Calls prog 182 #[ptr rb] w (Post w rb v (.tuple #[val x,.bool true]) r room):=
 (I5 w rb v x r room h).mono fun _ _ ⟨h0,v',h1,h2,h3⟩=>⟨h0,v',h1,fun k hk=>.inl (h2 k hk),h3⟩
end bM
namespace aO
open Go.RowKit Hp
def AA (wb rb:Nat) (v:Value) (k:Nat):Prop:=k=wb\/bM.fp rb v k
structure nV (w:World) (wb rb:Nat) (v:Value) (l:List Bool) (g b:Int):Prop where
 c0:w.cell? ⟨wb,0,none⟩=some (ptr rb)
 c1:w.cell? ⟨wb,1,none⟩=some (.i g)
 c2:w.cell? ⟨wb,2,none⟩=some (.i b)
 f1:w.frozen? ⟨wb,1,none⟩=false
 f2:w.frozen? ⟨wb,2,none⟩=false
 ring:bM.At w rb v l 1000
 sep:¬ bM.fp rb v wb
variable {w:World} {wb rb:Nat} {v:Value} {l:List Bool} {g b:Int}
theorem nV.lt (h:nV w wb rb v l g b) {k:Nat} (hk:AA wb rb v k):k < w.heap.size:=by
 rcases hk with rfl | hk
 ·exact dN h.c0
 ·exact h.ring.lt hk
theorem nV.stable {w':World} (h:nV w wb rb v l g b) (hs:w.heap.size<=w'.heap.size) (hb:∀ k,AA wb rb v k->w'.heap[k]? =w.heap[k]?):nV w' wb rb v l g b:=
 ⟨(World.cell?_of_block (w:=w) (hb wb (.inl rfl))).trans h.c0,(World.cell?_of_block (w:=w) (hb wb (.inl rfl))).trans h.c1,(World.cell?_of_block (w:=w) (hb wb (.inl rfl))).trans h.c2,
  (World.frozen?_of_block (w:=w) (hb wb (.inl rfl))).trans h.f1,(World.frozen?_of_block (w:=w) (hb wb (.inl rfl))).trans h.f2,h.ring.stable hs fun k hk=>hb k (.inr hk),h.sep⟩
theorem nV.aK {F:Nat->Prop} {w':World} (h:nV w wb rb v l g b) (hc:aD F w w') (hf:∀ k,AA wb rb v k->¬ F k):nV w' wb rb v l g b:=
 h.stable hc.size fun k hk=>hc.block k (h.lt hk) (hf k hk)
theorem nV.below {w':World} (h:nV w wb rb v l g b) (hc:Below w.heap.size w w'):nV w' wb rb v l g b:=
 h.stable hc.size fun k hk=>hc.block k (h.lt hk)
def Post (w:World) (wb rb:Nat) (v:Value) (ans:Value) (l':List Bool) (g' b':Int) (e:Ending) (w':World):Prop:=
 e=.returned ans/\∃ v',nV w' wb rb v' l' g' b'/\(∀ k,Fp v' k->Fp v k\/w.heap.size<=k)/\aD (AA wb rb v) w w'
theorem nV.step {w':World} {ans:Value} {l':List Bool} {e:Ending} (h:nV w wb rb v l g b) (hp:bM.Post w rb v ans l' 1000 e w'):Post w wb rb v ans l' g b e w':=by
 obtain⟨rfl,v',h1,h2,h3⟩:=hp;have hlt:=dN h.c0;have hb:=h3.block wb hlt h.sep;refine⟨rfl,v',⟨(World.cell?_of_block (w:=w) hb).trans h.c0,(World.cell?_of_block (w:=w) hb).trans h.c1,(World.cell?_of_block (w:=w) hb).trans h.c2,(World.frozen?_of_block (w:=w) hb).trans h.f1,(World.frozen?_of_block (w:=w) hb).trans h.f2,h1,fun hk=>?_⟩,h2,h3.mono fun k _ hk=>.inr hk⟩
 rcases hk with e | hk
 ·exact h.sep (.inl e)
 ·rcases h2 _ hk with h' | h'
  ·exact h.sep (.inr h')
  ·simp at hlt;omega
theorem nV.good (h:nV w wb rb v l g b) (g':Int):nV (w.setCell ⟨wb,1,none⟩ (.i g')) wb rb v l g' b:=by
 refine⟨by rw[World.cell?_setCell_other _ _ _ _ au];exact h.c0,World.cell?_setCell_same _ _ _ h.c1,by rw[World.cell?_setCell_other _ _ _ _ au];exact h.c2,by simp[h.f1],by simp[h.f2],
  h.ring.aK (F:=fun k=>k=wb) ((aD.refl _ _).setCell _ _ (fun _=>rfl)) (fun k hk e=>h.sep (e ▸ hk)),h.sep⟩
theorem nV.bad (h:nV w wb rb v l g b) (b':Int):nV (w.setCell ⟨wb,2,none⟩ (.i b')) wb rb v l g b':=by
 refine⟨by rw[World.cell?_setCell_other _ _ _ _ au];exact h.c0,by rw[World.cell?_setCell_other _ _ _ _ au];exact h.c1,World.cell?_setCell_same _ _ _ h.c2,by simp[h.f1],by simp[h.f2],
  h.ring.aK (F:=fun k=>k=wb) ((aD.refl _ _).setCell _ _ (fun _=>rfl)) (fun k hk e=>h.sep (e ▸ hk)),h.sep⟩
theorem Ou (w:World) (wb rb:Nat) (v:Value) (l:List Bool) (g b:Int) (x:Bool) (h:nV w wb rb v l g b) (hf:1000<=l.length):
  Calls prog 36 #[ptr wb,.bool x] w (Post w wb rb v (.bool false) l g b):=by
 have h0:=h.c0;have hp:=bM.Pt w rb v l 1000 x h.ring ag
 go_enter func36,ntmps36
 go_wp2_with fail;refine hp.mono ?_;intro e w' hp';obtain⟨rfl,hq⟩:=h.step hp';go_wp2_with fail;go_ret;exact⟨rfl,hq⟩
theorem KU (w:World) (wb rb:Nat) (v:Value) (l:List Bool) (g b:Int) (x:Bool) (h:nV w wb rb v l g b) (hf:l.length < 1000):
  Calls prog 36 #[ptr wb,.bool x] w (Post w wb rb v (.bool true) (l ++ [x]) g b):=by
 have h0:=h.c0;have hp:=bM.L9 w rb v l 1000 x h.ring ag
 go_enter func36,ntmps36
 go_wp2_with fail;refine hp.mono ?_;intro e w' hp';obtain⟨rfl,hq⟩:=h.step hp';go_wp2_with fail;go_ret;exact⟨rfl,hq⟩
end aO
namespace aO
open Go.RowKit Hp
theorem iZ (w:World):Calls prog 32 #[] w fun e w'=>
  e=.returned (ptr (w.heap.size+1))/\nV w' (w.heap.size+1) w.heap.size (.slice none 0 0) [] 0 0/\Below w.heap.size w w':=by
 go_enter func32,ntmps32
 go_wp2_with fail;refine(bM.iZ _ _).mono ?_;rintro e w' ⟨rfl,rfl⟩;have hA:=bM.at_new w 1000;generalize hw1:w.alloc (.cells #[.slice none 0 0,.i (bM.rT 1000)] 112)=w1 at *;have hs1:w1.heap.size=w.heap.size+1:=by rw[<- hw1];simp
 have hb1:Below w.heap.size w w1:=by rw[<- hw1];exact bZ.alloc aQ _
 have Hs:=uH hs1;clear hw1 hs1;go_wp2_with fail;go_ret;have hs1:=Hs.out;have hC:bM.rT 1000=1000:=aT
 rw[hC]at hA;refine⟨by rw[hs1];rfl,?_,hb1.alloc ag _⟩;rw[<- hs1]
 exact⟨au,au,au,au,au,hA.aK (F:=fun _=>False) ((aD.refl _ _).alloc _) (fun _ _ h=>h),fun hk=>by
  rcases hk with hk | hk
  ·omega
  ·exact(dP _ hk).elim⟩
theorem IM (w:World) (wb rb:Nat) (v:Value) (g b:Int) (h:nV w wb rb v [] g b) (hg:0<=g/\g<=1000000):
  Calls prog 122 #[ptr wb] w (Post w wb rb v (.bool true) [] (g+1) b):=by
 obtain⟨g0,g1⟩:=hg;have h0:=h.c0;have h1:=h.c1;have h2:=h.f1
 go_enter func122,ntmps122
 go_wp2_with fail;refine(bM.Ma w rb v 1000 h.ring).mono ?_;rintro e w' ⟨rfl,rfl⟩;go_wp2_with fail;go_ret;exact⟨rfl,v,h.good (g+1),fun k hk=>.inl hk,(aD.refl _ _).setCell _ _ (fun _=>.inl rfl)⟩
theorem IP (w:World) (wb rb:Nat) (v:Value) (l:List Bool) (g b:Int) (h:nV w wb rb v (true :: l) g b) (hg:0<=g/\g<=1000000):
  Calls prog 122 #[ptr wb] w (Post w wb rb v (.bool true) l (g+1) b):=by
 obtain⟨g0,g1⟩:=hg;have h0:=h.c0;have hp:=bM.Cy w rb v true l 1000 h.ring
 go_enter func122,ntmps122
 go_wp2_with fail;refine hp.mono ?_;intro e w' hp';obtain⟨rfl,v',hA,hF,hC⟩:=h.step hp';clear h0 hp' hp;have h1:=hA.c1;have h2:=hA.f1;go_wp2_with fail;go_ret;exact⟨rfl,v',hA.good (g+1),hF,hC.setCell _ _ (fun _=>.inl rfl)⟩
theorem LM (w:World) (wb rb:Nat) (v:Value) (l:List Bool) (g b:Int) (h:nV w wb rb v (false :: l) g b) (hb:0<=b/\b<=1000000):
  Calls prog 122 #[ptr wb] w (Post w wb rb v (.bool false) l g (b+1)):=by
 obtain⟨g0,g1⟩:=hb;have h0:=h.c0;have hp:=bM.Cy w rb v false l 1000 h.ring
 go_enter func122,ntmps122
 go_wp2_with fail;refine hp.mono ?_;intro e w' hp';obtain⟨rfl,v',hA,hF,hC⟩:=h.step hp';clear h0 hp' hp;have h1:=hA.c2;have h2:=hA.f2;go_wp2_with fail;go_ret;exact⟨rfl,v',hA.bad (b+1),hF,hC.setCell _ _ (fun _=>.inl rfl)⟩
end aO
namespace Mod
open Go.RowKit Hp ah
structure Ask where
 op:Int
 deadline:Int
 wait:Bool
 force:Bool
 slot:Int
 gen:Int
 stream:Int
 deriving DecidableEq
structure Ev where
 ended:Bool
 who:Int
 at':Int
 ask:Ask
 e:Int
 slot:Int
 gen:Int
 stream:Int
 idle:Int
 eu:Int
 empty:Int
 other:Int
 deriving DecidableEq
def Ask.zero:Ask:=⟨0,0,false,false,0,0,0⟩
def Ev.zero:Ev:=⟨false,0,0,Ask.zero,0,0,0,0,0,0,0,0⟩
def Ev.cells (x:Ev):Array Value:=#[.bool x.ended,.i x.who,.i x.at',.i x.ask.op,.i x.ask.deadline,.bool x.ask.wait,.bool x.ask.force,.i x.ask.slot,.i x.ask.gen,.i x.ask.stream,
 .i x.e,.i x.slot,.i x.gen,.i x.stream,.i x.idle,.i x.eu,.i x.empty,.i x.other]
abbrev Ev.val (x:Ev):Value:=.agg x.cells
end Mod
end Go.Proofs.YtbklamnimfmjkaaGreatDoor
