/- Part 47 of the walks and plain laws that the last text joins. -/
import Derived.Test.YtbklamnimfmjkaaGreatDoorKB46
import Derived.Test.YtbklamnimfmjkaaGreatDoorRows
import Derived.LaidMore
import Derived.Stop.Joined
import Derived.Deep.Slices
import Derived.Deep.Fields
import Derived.ChangeSame
import Derived.Lib.SmallJoins
set_option maxRecDepth 100000
set_option maxHeartbeats 16000000
set_option linter.all false
open Go.Proofs.Tryz
namespace Go.Proofs.YtbklamnimfmjkaaGreatDoor
namespace Mod
open Go.RowKit Hp Slot Go.ChangeShapes Go.WideShapes
def Br:List (String×DataW Unit):=[("math/bits.deBruijn32tab",Rows.laid_math_bits_deBruijn32tab),("math/bits.deBruijn64tab",Rows.laid_math_bits_deBruijn64tab),("coachhouse/slot.fields",Rows.laid_coachhouse_slot_fields)]
theorem gF:prog.globalNamed "coachhouse/slot.fields"=some 0:=ax
theorem tF:(prog.globals[0]?).map (·.type)=some 137:=ax
theorem c9:prog.cellsOf 137=18:=ax
theorem c2:prog.cellsOf 136=2:=ax
theorem VH (os:Os) (args:Array Value):laidMetH prog Br ((World.doorLaid prog 23 os).forCall (fun _ _=>0) ⟨#[],args,[]⟩).memory:=
 laidMetH_of_parts3 (fuel:=8) (laidMet_of_run' 8 ax ax) ax ax
theorem KJ {H:Type} {enc:TypeId×Value->H} {w:World} {base:Nat} {spare:Nat->Bool} {held:Bool} {n:Nat} {a b:Value} {x:DataW H×List MemPlace} {u v:Int} (h:DataW.trod enc prog w base spare held n 136 [a,b]=some x) (hx:x.1=.agg [.lit (Lit.int .i64 u),.lit (Lit.int .i64 v)]):a=.i u/\b=.i v:=by
 obtain⟨xs,m,_,hy,_,hlen,hg⟩:=DataW.trod_struct underlying136 h;have h0:=hg 0 _ rfl;have h1:=hg 1 _ rfl;have ci:prog.cellsOf 3=1:=ax
 match xs,hlen with
 | [y0,y1],_=>
  simp only[ci,List.drop_zero,List.getElem?_cons_zero,List.getElem?_cons_succ]at h0 h1;obtain⟨k0,e0,f0,-⟩:=DataW.trod_int underlying3 (show DataW.trod enc prog w base spare held m 3 [a]=some y0 from h0);obtain⟨k1,e1,f1,-⟩:=DataW.trod_int underlying3 (show DataW.trod enc prog w base spare held m 3 [b]=some y1 from h1);rw[hy]at hx;subst f0 f1;simp at hx;cases e0;cases e1;rw[hx.1,hx.2];exact⟨rfl,rfl⟩
theorem gT:prog.globalNamed "math/bits.deBruijn64tab"=some 2:=ax
theorem tT:(prog.globals[2]?).map (·.type)=some 243:=ax
theorem cT:prog.cellsOf 243=64:=ax
theorem cU:prog.cellsOf 5=1:=ax
theorem Su {k:Nat} (hk:k < 8):Mc.XX.getD k 0 < 64/\∃ L:List (DataW Unit),(Rows.laid_math_bits_deBruijn64tab:DataW Unit)=.agg L/\L[Mc.XX.getD k 0]? =some (.lit (Lit.int .u8 k)):=by
 have h:k=0\/k=1\/k=2\/k=3\/k=4\/k=5\/k=6\/k=7:=ag
 rcases h with rfl | rfl | rfl | rfl | rfl | rfl | rfl | rfl<;>exact⟨aT,_,rfl,rfl⟩
theorem Sv {W:World} {g:Nat} {t:TypeId} {cs:Array Value} {f:Nat} {p:List MemPlace} (hg:prog.globalNamed "math/bits.deBruijn64tab"=some g) (ht:(prog.globals[g]?).map (·.type)=some t)
  (hv:World.var? prog W "math/bits.deBruijn64tab"=some cs) (hd:DataW.trod (fun _=>()) prog W 0 (fun _=>true) false f t cs.toList=some (Rows.laid_math_bits_deBruijn64tab,p)):Mc.TabAt W:=by
 obtain rfl:=Option.some.inj (gT.symm.trans hg);obtain rfl:=Option.some.inj (tT.symm.trans ht);obtain⟨xs,m1,rfl,hx1,hlen,hn,hel⟩:=DataW.trod_array underlying243 hd;rw[cT]at hlen;rw[cU]at hel;obtain⟨L0⟩:=cs;have hL:L0.length=64:=hlen;intro k hk;obtain⟨hi,L,e1,e2⟩:=Su hk;generalize Mc.XX.getD k 0=i at *;rw[e1]at hx1;simp only[Prod.mk.injEq,DataW.agg.injEq]at hx1;have h1:=hel i hi;have hxi:xs[i]? =some (xs[i]'(by omega)):=List.getElem?_eq_getElem ag
 have hda:(xs[i]'(by omega)).1=.lit (Lit.int .u8 k):=by
  rw[hx1.1,List.getElem?_map,hxi]at e2
  simpa using e2
 have hone:List.take 1 (List.drop (i * 1) L0)=[L0[i]'(by omega)]:=by
  rw[Nat.mul_one,List.drop_eq_getElem_cons ag];rfl
 have h3:List.take 1 (List.drop (i * 1) (⟨L0⟩:Array Value).toList)=List.take 1 (List.drop (i * 1) L0):=rfl;rw[h3,hone,hxi]at h1;obtain⟨q,q1,q2,-⟩:=DataW.trod_int underlying5 h1;refine(World.var?_cell hg hv i).trans ?_;rw[List.getElem?_toArray,List.getElem?_eq_getElem ag]
 injection q1 with q1
 rw[q1];rw[q2]at hda;simp at hda;rw[hda]
theorem XY {W:World} (h:laidMetH prog Br W):Laid W/\Mc.TabAt W:=by
 rw[MakeChecks.laidMetH_plain _ _ _ ax]at h;obtain⟨ps,⟨gA,tA,csA,fA,pA,qA,hgA,htA,hvA,hdA,⟨gB,tB,csB,fB,pB,qB,hgB,htB,hvB,hdB,⟨g0,t0,cs0,f0,p0,q0,hg0,ht0,hv0,hd0,_,_⟩,_⟩,_⟩,_,_⟩:=h;refine⟨?_,Sv hgB htB hvB hdB⟩;clear hgA htA hvA hdA hgB htB hvB hdB;obtain rfl:=Option.some.inj (gF.symm.trans hg0);obtain rfl:=Option.some.inj (tF.symm.trans ht0);obtain⟨xs,m1,rfl,hx1,hlen,Sw,hel⟩:=DataW.trod_array underlying137 hd0;have hcell:=fun j=>World.var?_cell hg0 hv0 j
 have hdat:(Rows.laid_coachhouse_slot_fields:DataW Unit)=.agg (bH.map fun x=>.agg [.lit (Lit.int .i64 (x.1:Nat)),.lit (Lit.int .i64 (x.2:Nat))]):=rfl;rw[c9]at hlen;rw[c2]at hel;rw[hdat]at hx1;simp only[Prod.mk.injEq,DataW.agg.injEq]at hx1;obtain⟨L⟩:=cs0;intro i x hx;have hi:i < 9:=(List.getElem?_eq_some_iff.1 hx).1;have h1:=hel i hi;have hL:L.length=18:=hlen;have hxi:xs[i]? =some (xs[i]'(by omega)):=List.getElem?_eq_getElem ag
 have hda:(xs[i]'(by omega)).1=.agg [.lit (Lit.int .i64 (x.1:Nat)),.lit (Lit.int .i64 (x.2:Nat))]:=by
  have h2:(bH.map fun x=>(DataW.agg [.lit (Lit.int .i64 (x.1:Nat)),.lit (Lit.int .i64 (x.2:Nat))]:DataW Unit))[i]? =(xs.map (·.1))[i]?:=by rw[hx1.1]
  rw[List.getElem?_map,List.getElem?_map,hx,hxi]at h2
  simpa using h2.symm
 have VI:List.take 2 (List.drop (i * 2) L)=[L[i * 2]'(by omega),L[i * 2+1]'(by omega)]:=by
  rw[List.drop_eq_getElem_cons ag,List.drop_eq_getElem_cons ag];rfl
 have h3:List.take 2 (List.drop (i * 2) (⟨L⟩:Array Value).toList)=List.take 2 (List.drop (i * 2) L):=rfl;rw[h3,VI,hxi]at h1;obtain⟨r1,r2⟩:=KJ h1 hda;refine⟨(hcell (i * 2)).trans ?_,(hcell (i * 2+1)).trans ?_⟩
 ·rw[List.getElem?_toArray,List.getElem?_eq_getElem ag,r1]
 ·rw[List.getElem?_toArray,List.getElem?_eq_getElem ag,r2]
end Mod
namespace Mod
open Go.RowKit Hp Slot ah ai Go.ChangeShapes Go.WideShapes Go.Deep Go.Joins
section
variable {H:Type} {enc:TypeId×Value->H} {P:Program} {w:World} {base:Nat} {spare:Nat->Bool} {held:Bool}
theorem kV {t e:TypeId} {fs:Array Field} {fuel:Nat} {cs:List Value} {x:DataW H×List MemPlace} (ht:P.underlying t=some (.slice e)) (he:P.underlying e=some (.struct fs))
  (hone:oneCellFields P fs=true) (hC:P.cellsOf e=fs.size) (h:DataW.trod enc P w base spare held fuel t cs=some x):
  (cs=[.slice none 0 0])\/
  ∃ (a:Addr) (len cap m:Nat),cs=[.slice (some a) len cap]/\len<=cap/\cap<=maxLen/\len<=m/\
   ∀ i,i < m->∀ (j:Nat) (f:Field),fs[j]? =some f->∃ (v:Value) (y:DataW H×List MemPlace) (n:Nat),w.cell? (a.add (i * fs.size+j))=some v/\DataW.trod enc P w base spare held n f.type [v]=some y:=by
 rcases open_slice ht h with h0 | ⟨a,len,cap,m,n,D,Pl,hcs,hb,hl,hm,hmm,hx,hi⟩
 ·exact .inl h0.1
 ·refine .inr ⟨a,len,cap,m,hcs,hl,hm,by rw[hmm];split<;>omega,fun i him j f hj=>?_⟩;obtain⟨cs',hc,ht'⟩:=hi i him;rw[hC]at hc;obtain⟨ys,n',hn',hy,hlen,hyl,hf⟩:=DataW.trod_struct he ht';obtain⟨_,hcl,hat⟩:=World.cells?_some hc;obtain⟨ho,hk⟩:=hone_of hone j f hj;have hjl:j < fs.size:=(Array.getElem?_eq_some_iff.1 hj).1;have hcell:=hat j hjl;have hv:cs'[j]? =some (cs'[j]'(by omega)):=List.getElem?_eq_getElem ag;have h1:=hf j f hj;rw[ho,hk]at h1
  have wE:(cs'.drop j).take 1=[cs'[j]'(by omega)]:=by
   rw[List.drop_eq_getElem_cons ag];rfl
  rw[wE]at h1;have hys:ys[j]? =some (ys[j]'(by omega)):=List.getElem?_eq_getElem ag;refine⟨_,_,n',?_,h1.trans hys⟩;rw[<- Go.Deep.add_add,hcell,hv]
theorem ry {r:Reach} {b0:Nat} {t:TypeId} {fs:Array Field} {v:Value} {d:DataW H} {p:List MemPlace} (hs:P.underlying t=some (.struct fs)) (hone:oneCellFields P fs=true) (hC:P.cellsOf t=fs.size)
  (hv:Value.okWide P w r b0 t v) (h:DataW.Trod enc P w base spare held t v d p):
  ∃ cs:List Value,v=.agg ⟨cs⟩/\cs.length=fs.size/\∀ (j:Nat) (f:Field),fs[j]? =some f->∃ (u:Value) (y:DataW H×List MemPlace) (n:Nat),cs[j]? =some u/\DataW.trod enc P w base spare held n f.type [u]=some y:=by
 obtain⟨cs,rfl,hsz⟩:=okWide_struct hs hv;obtain⟨l⟩:=cs;have hl:l.length=fs.size:=hsz.trans hC;obtain⟨fuel,hf⟩:=h;obtain⟨xs,n,_,hx,_,hlen,hg⟩:=DataW.trod_struct hs hf;refine⟨l,rfl,hl,fun j f hj=>?_⟩;obtain⟨ho,hk⟩:=hone_of hone j f hj;have hjl:j < fs.size:=(Array.getElem?_eq_some_iff.1 hj).1;have h1:=hg j f hj;rw[ho,hk]at h1
 have wE:((Value.agg ⟨l⟩).cells.toList.drop j).take 1=[l[j]'(by omega)]:=by
  show(l.drop j).take 1=_
  rw[List.drop_eq_getElem_cons ag];rfl
 rw[wE]at h1;have hxs:xs[j]? =some (xs[j]'(by omega)):=List.getElem?_eq_getElem ag;exact⟨_,_,n,List.getElem?_eq_getElem ag,h1.trans hxs⟩
end
section
variable {H:Type} {enc:TypeId×Value->H} {w:World} {base:Nat} {spare:Nat->Bool} {held:Bool}
theorem Fv {n:Int} (h:(Lit.int .u8 n).wf=true):0<=n/\n < 256:=by
 have:=Base.qK h;omega
theorem DK {n:Int} (h:(Lit.int .i64 n).wf=true):-9223372036854775808<=n/\n<=9223372036854775807:=Base.pK h
theorem iW {cs:List Value} {fs:Array Field} {j:Nat} {f:Field} (h:∀ (j:Nat) (f:Field),fs[j]? =some f->∃ (u:Value) (y:DataW H×List MemPlace) (n:Nat),cs[j]? =some u/\DataW.trod enc prog w base spare held n f.type [u]=some y) (hj:fs[j]? =some f) (ht:f.type=5):∃ a:Int,cs[j]? =some (.int .u8 a)/\0<=a/\a < 256:=by
 obtain⟨u,y,n,h1,h2⟩:=h j f hj;rw[ht]at h2;obtain⟨k,e1,-,e3⟩:=DataW.trod_int underlying5 h2;cases e1;exact⟨k,h1,Fv e3⟩
theorem Bu {cs:List Value} {fs:Array Field} {j:Nat} {f:Field} (h:∀ (j:Nat) (f:Field),fs[j]? =some f->∃ (u:Value) (y:DataW H×List MemPlace) (n:Nat),cs[j]? =some u/\DataW.trod enc prog w base spare held n f.type [u]=some y) (hj:fs[j]? =some f) (ht:f.type=3):∃ a:Int,cs[j]? =some (.i a)/\ -9223372036854775808<=a/\a<=9223372036854775807:=by
 obtain⟨u,y,n,h1,h2⟩:=h j f hj;rw[ht]at h2;obtain⟨k,e1,-,e3⟩:=DataW.trod_int underlying3 h2;cases e1;exact⟨k,h1,DK e3⟩
theorem zl {cs:List Value} {fs:Array Field} {j:Nat} {f:Field} (h:∀ (j:Nat) (f:Field),fs[j]? =some f->∃ (u:Value) (y:DataW H×List MemPlace) (n:Nat),cs[j]? =some u/\DataW.trod enc prog w base spare held n f.type [u]=some y) (hj:fs[j]? =some f) (ht:f.type=4):∃ a:Bool,cs[j]? =some (.bool a):=by
 obtain⟨u,y,n,h1,h2⟩:=h j f hj;rw[ht]at h2;obtain⟨k,e1,-⟩:=DataW.trod_bool underlying4 h2;cases e1;exact⟨k,h1⟩
theorem Bv {α:Type}:∀ {cs:List α} {xs:List α},cs.length=xs.length->(∀ (j:Nat) x,xs[j]? =some x->cs[j]? =some x)->cs=xs:=fun {cs xs} hl h=>List.ext_getElem? fun j=>by
 cases hx:xs[j]? with
 | none=>rw[List.getElem?_eq_none_iff]at hx ⊢;omega
 | some x=>exact h j x hx
theorem Sy {r:Reach} {b0:Nat} {v:Value} {d:DataW H} {p:List MemPlace} (hv:Value.okWide prog w r b0 23 v) (h:DataW.Trod enc prog w base spare held 23 v d p):
  ∃ a b c d e:Int,v=.agg #[.int .u8 a,.int .u8 b,.int .u8 c,.int .u8 d,.int .u8 e]/\(0<=a/\a < 256)/\(0<=b/\b < 256)/\(0<=c/\c < 256)/\(0<=d/\d < 256)/\(0<=e/\e < 256):=by
 obtain⟨cs,rfl,hl,hf⟩:=ry underlying23 ax ax hv h;obtain⟨a,ha,wa⟩:=iW (j:=0) hf rfl rfl;obtain⟨b,hb,wb⟩:=iW (j:=1) hf rfl rfl;obtain⟨c,hc,wc⟩:=iW (j:=2) hf rfl rfl;obtain⟨d,hd,wd⟩:=iW (j:=3) hf rfl rfl;obtain⟨e,he,we⟩:=iW (j:=4) hf rfl rfl;refine⟨a,b,c,d,e,?_,wa,wb,wc,wd,we⟩;have hl:cs.length=5:=hl
 match cs,hl with
 | [c0,c1,c2,c3,c4],_=>
  simp at ha hb hc hd he;subst ha hb hc hd he;rfl
def pO:Option Value->Int
 | some (.int _ n)=>n
 | _=>0
def zm (w:World) (a:Addr) (i:Nat):Mc.Tn:=⟨pO (w.cell? (a.add (i * 6+0))),pO (w.cell? (a.add (i * 6+1))),pO (w.cell? (a.add (i * 6+2))),pO (w.cell? (a.add (i * 6+3))),pO (w.cell? (a.add (i * 6+4))),pO (w.cell? (a.add (i * 6+5)))⟩
theorem Sz {v:Value} {d:DataW H} {p:List MemPlace} {a:Option Addr} {n c:Nat} (hv:v=.slice a n c) (h:DataW.Trod enc prog w base spare held 24 v d p):∃ l,Mc.o7 w v l/\l.length=n:=by
 subst hv;obtain⟨fuel,hf⟩:=h
 rcases kV underlying24 underlying40 ax ax hf with hcs | ⟨x,len,cap,m,hcs,hl,hm,hmm,hi⟩
 ·simp[Value.cells]at hcs;obtain⟨rfl,rfl,rfl⟩:=hcs;exact⟨[],⟨none,0,rfl,fun _ h=>(by cases h),.inl rfl⟩,rfl⟩
 ·simp[Value.cells]at hcs;obtain⟨rfl,rfl,rfl⟩:=hcs
  have fin:∀ (i j:Nat) (u:Value) (y:DataW H×List MemPlace) (q:Nat),w.cell? (x.add (i * 6+j))=some u->DataW.trod enc prog w base spare held q 5 [u]=some y->∃ k:Int,w.cell? (x.add (i * 6+j))=some (.int .u8 k)/\0<=k/\k < 256:=fun i j u y q h1 h2=>by
   obtain⟨k,e1,-,e3⟩:=DataW.trod_int underlying5 h2;cases e1;exact⟨k,h1,Fv e3⟩
  have key:∀ i,i < n->∀ j,j < 6->∃ k:Int,w.cell? (x.add (i * 6+j))=some (.int .u8 k)/\0<=k/\k < 256:=fun i hin j hj=>by
   rcases(by omega:j=0\/j=1\/j=2\/j=3\/j=4\/j=5)with rfl | rfl | rfl | rfl | rfl | rfl
   ·obtain⟨u,y,q,h1,h2⟩:=hi i ag 0 _ rfl;exact fin i 0 u y q h1 h2
   ·obtain⟨u,y,q,h1,h2⟩:=hi i ag 1 _ rfl;exact fin i 1 u y q h1 h2
   ·obtain⟨u,y,q,h1,h2⟩:=hi i ag 2 _ rfl;exact fin i 2 u y q h1 h2
   ·obtain⟨u,y,q,h1,h2⟩:=hi i ag 3 _ rfl;exact fin i 3 u y q h1 h2
   ·obtain⟨u,y,q,h1,h2⟩:=hi i ag 4 _ rfl;exact fin i 4 u y q h1 h2
   ·obtain⟨u,y,q,h1,h2⟩:=hi i ag 5 _ rfl;exact fin i 5 u y q h1 h2
  have DL:∀ i,i < n->∀ j,j < 6->w.cell? (x.add (i * 6+j))=some (.int .u8 (pO (w.cell? (x.add (i * 6+j)))))/\0<=pO (w.cell? (x.add (i * 6+j)))/\pO (w.cell? (x.add (i * 6+j))) < 256:=fun i hin j hj=>by
   obtain⟨k,h1,h2⟩:=key i hin j hj;rw[h1];exact⟨rfl,h2⟩
  by_cases hn:n=0
  ·subst hn;exact⟨[],⟨some x,c,rfl,fun _ h=>(by cases h),.inl rfl⟩,rfl⟩
  obtain⟨k0,hk0,-⟩:=key 0 ag 0 ag
  obtain⟨g,off,rfl,-⟩:=Go.ints_at (zs:=[k0]) (k:=.u8) (fun i hi=>by
   obtain rfl:i=0:=by simpa using hi
   simpa using hk0) au
  clear hk0;have hlen:((List.range n).map (zm w ⟨g,off,none⟩)).length=n:=au
  have hget:∀ (i:Nat) (t:Mc.Tn),((List.range n).map (zm w ⟨g,off,none⟩))[i]? =some t->i < n/\t=zm w ⟨g,off,none⟩ i:=fun i t ht=>by
   have hin:i < n:=by have:=(List.getElem?_eq_some_iff.1 ht).1;rw[hlen]at this;exact this
   rw[List.getElem?_map,List.getElem?_range hin]at ht;simp at ht;exact⟨hin,ht.symm⟩
  refine⟨(List.range n).map (zm w ⟨g,off,none⟩),⟨some ⟨g,off,none⟩,c,by rw[hlen],fun t ht=>?_,.inr ⟨g,off,rfl,fun i t ht j u hu=>?_⟩⟩,hlen⟩
  ·obtain⟨i,hi'⟩:=List.getElem?_of_mem ht;obtain⟨hin,rfl⟩:=hget i t hi';exact⟨(DL i hin 0 ag).2,(DL i hin 1 ag).2,(DL i hin 2 ag).2,(DL i hin 3 ag).2,(DL i hin 4 ag).2,(DL i hin 5 ag).2⟩
  ·obtain⟨hin,rfl⟩:=hget i t ht;have hj:j < 6:=by have:=(Array.getElem?_eq_some_iff.1 hu).1;simpa [Mc.Tn.cells] using this
   have hk:=(DL i hin j hj).1;have he:(⟨g,off,none⟩:Addr).add (i * 6+j)=⟨g,off+i * 6+j,none⟩:=by simp[Addr.add,Nat.add_assoc]
   rw[<- he,hk]
   rcases(by omega:j=0\/j=1\/j=2\/j=3\/j=4\/j=5)with rfl | rfl | rfl | rfl | rfl | rfl<;>exact hu
end
end Mod
end Go.Proofs.YtbklamnimfmjkaaGreatDoor
