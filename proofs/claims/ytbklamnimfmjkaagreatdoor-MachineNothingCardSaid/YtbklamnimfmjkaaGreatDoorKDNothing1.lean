/- Part 1 of the walks and plain laws that the last text joins. -/
import Derived.Test.YtbklamnimfmjkaaGreatDoorKB47
set_option maxRecDepth 100000
set_option maxHeartbeats 16000000
set_option linter.all false
open Go.Proofs.Tryz
namespace Go.Proofs.YtbklamnimfmjkaaGreatDoor
namespace Slot
open Go.RowKit Hp ai
theorem Gj (b:Bool):(bit b == 1)=b:=by cases b<;>rfl
theorem C8 {s:S} (h:s.right=true):cut s.word=s:=by
 have hb:=(bN s).1 h;clear h;obtain⟨st,ow,sm,br,ma,us,ge,ep,ve⟩:=s;have h1:=kZ br;have h2:=kZ ma;simp only at hb;obtain⟨⟨b1,b2,b3,b4,b5,b6,b7⟩,-⟩:=hb;unfold cut S.word;simp only;generalize hx:bit br=x at *;generalize hy:bit ma=y at *;have e1:(st+8 * ow+128 * sm+32768 * x+65536 * y+131072 * us+8388608 * ge+34359738368 * ep+140737488355328 * ve) / 32768 % 2=x:=ag
 have e2:(st+8 * ow+128 * sm+32768 * x+65536 * y+131072 * us+8388608 * ge+34359738368 * ep+140737488355328 * ve) / 65536 % 2=y:=ag
 rw[e1,e2,<- hx,<- hy,Gj,Gj,hx,hy]
 congr 1<;>omega
theorem CV {s:S} (h:s.right=true):dec s.word=some s:=by
 unfold dec;rw[if_pos ⟨Fb h,by rw[C8 h];exact h⟩,C8 h]
end Slot
namespace Clock
open Go.RowKit
theorem P8 (w:World) (p:Addr) (n:Int) (hc:w.cell? p=some (.i n)):
  Calls prog 46 #[.pointer (some p)] w fun e w'=>e=.returned (.i n)/\w=w':=by
 go_enter func46,ntmps46
 go_wp2
 go_ret;exact⟨rfl,rfl⟩
end Clock
namespace Cx
open Go.RowKit Hp
theorem ints_any (w:World) (v1 v2:Value) (l1 l2:List Int) (h1:SliceAt w v1 (l1.map (Value.int .i64))) (h2:SliceAt w v2 (l2.map (Value.int .i64))):
  Calls prog 27 #[v1,v2] w fun e w'=>e=.returned (.bool (decide (l1=l2)))/\∃ n,w'=w.drewN n:=by
 obtain⟨a1,c1,rfl,m1,q1⟩:=h1;obtain⟨a2,c2,rfl,m2,q2⟩:=h2;simp only[List.length_map]at m1 m2 ⊢;unfold maxLen at m1 m2
 by_cases hl:l1.length=l2.length
 ·have hl':((l1.length:Int) != (l2.length:Int))=false:=by simp[hl]
  have Hl:=uH hl;clear hl
  go_enter func27,ntmps27
  go_wp2
  go_loopw [5] (fun i wr=>∃ k:Nat,k<=l1.length/\i=.i k/\l1.take k=l2.take k/\∃ n,wr=w.drewN n) (fun i _=>l1.length - (intOf i).toNat)
  case atStart=>exact⟨0,ag,rfl,au,0,rfl⟩
  case round=>
   obtain⟨k,hk,rfl,ht,n,rfl⟩:=hrel
   by_cases hlt:k < l1.length
   ·have hlt2:k < l2.length:=by have:=Hl.out;omega
    obtain⟨x,hx⟩:∃ x,l1[k]? =some x:=⟨_,List.getElem?_eq_getElem hlt⟩
    obtain⟨y,hy⟩:∃ y,l2[k]? =some y:=⟨_,List.getElem?_eq_getElem hlt2⟩
    rcases q1 with q1 | ⟨g1,o1,rfl,q1⟩
    ·simp at q1;subst q1;simp at hlt
    rcases q2 with q2 | ⟨g2,o2,rfl,q2⟩
    ·simp at q2;subst q2;simp at hlt2
    have e1:w.cell? ⟨g1,o1+k,none⟩=some (.i x):=q1 k _ (by simp[hx]);have e2:w.cell? ⟨g2,o2+k,none⟩=some (.i y):=q2 k _ (by simp[hy]);have Ht:=uH ht;have Hx:=uH hx;have Hy:=uH hy;clear ht hx hy q1 q2
    by_cases hxy:x=y
    ·subst hxy;have hne:(x != x)=false:=au
     go_wp2
     go_region
     go_wp2
     go_roundw
     case rel=>exact⟨k+1,ag,by go_num,by rw[List.take_add_one,List.take_add_one,Ht.out,Hx.out,Hy.out],n+1,rfl⟩
     case measure=>simp[intOf];omega
    ·have hne:(x != y)=true:=by simp[hxy]
     have Hxy:=uH hxy;clear hxy
     go_wp2
     go_region
     go_wp2
     go_ret;refine⟨Base.aN ?_,n+1,rfl⟩
     symm
     rw[decide_eq_false_iff_not];intro h;have h3:=Hx.out;rw[h,Hy.out]at h3;exact Hxy.out (by simpa using h3.symm)
   ·go_wp2
    go_ret;refine⟨Base.aN ?_,n,rfl⟩
    symm
    rw[decide_eq_true_eq]
    rwa [List.take_of_length_le ag,List.take_of_length_le (by have:=Hl.out;omega)]at ht
 ·have hl':((l1.length:Int) != (l2.length:Int))=true:=by simp;omega
  go_enter func27,ntmps27
  go_wp2
  go_ret;refine⟨Base.aN ?_,0,rfl⟩
  symm
  rw[decide_eq_false_iff_not];intro h;exact hl (by rw[h])
end Cx
namespace Mc
open Go.RowKit Hp ah aj Slot ai Tk Cl
theorem CQ {W:World} {p:Mp} {m:Mc} (h:aZ W p m):Calls prog 26 #[ptr p.gb] W (fun e W'=>e=.returned (.i m.sh.now)/\Below W.heap.size W W'):=by
 have c5:W.cell? ⟨p.gb,6,none⟩=some (ptr p.cb):=af.cell h.core.row 6;have hc:=Clock.P8 W ⟨p.cb,0,none⟩ m.sh.now (af.cell h.core.JH 0);have H:=uH h;clear h
 go_enter func26,ntmps26
 go_wp2_with fail;refine hc.mono ?_;rintro e w1 ⟨rfl,rfl⟩;clear hc;go_wp2_with fail;go_ret;exact⟨rfl,Below.refl _ _⟩
section
variable {W0 W W':World} {p:Mp} {m m':Mc} {K:Nat->Prop} {gb n:Nat}
theorem UT.own {v:Value} {a b:Nat} {l:List Value} (h:UT K W W') (hg:∀ k,Fp v k->K k) (ho:bR W v a b l):bR W' v a b l:=ho.stable h.1 (fun k hk=>h.2 k (hg k hk))
theorem Core.off (h:Core W p m) {G:Nat->Prop} (hc:aD G W W') (hG:∀ b,b < W.heap.size->G b->p.ow b=0/\b≠0/\b≠2):Core W' p m:=by
 have hn:∀ b,b < W.heap.size->p.ow b≠0->¬ G b:=fun b hb h0 e=>h0 (hG b hb e).1
 have l0:0 < W.heap.size:=h.laid.lt aT;have l2:2 < W.heap.size:=dN (h.tab 0 aT)
 refine⟨af.aK h.row hc (hn _ h.qp (by rw[h.lg];decide)),h.mem.aK hc (hn _ h.mem.lt.1 (by rw[h.lm];decide)) (hn _ h.mem.lt.2 (by rw[h.lw];decide)),af.aK h.JH hc (hn _ h.Ot (by rw[h.lc];decide)),
  h.Fz.stable hc.size (fun b hb=>hc.block b (h.Fz.lt hb) (hn _ (h.Fz.lt hb) (by rw[h.lo b hb];decide))),h.evs.aK hc (fun b hb=>hn _ (h.evs.lt hb) (by rw[h.le b hb];decide)),
  h.ks.stable (hc.block _ h.uU (hn _ h.uU (by rw[h.lk];decide))),h.k0,h.laid.stable (hc.block 0 l0 fun e=>(hG 0 l0 e).2.1 rfl),h.tab.stable (hc.block 2 l2 fun e=>(hG 2 l2 e).2.2 rfl),h.l0,h.lg,h.lm,h.lw,h.lc,h.lo,h.le,h.lk⟩
end
end Mc
namespace Mc
open Go.RowKit Hp Slot ah ai Mod
theorem o7.below {W W':World} {v:Value} {l:List Tn} (h:o7 W v l) (hb:Below W.heap.size W W'):o7 W' v l:=by
 obtain⟨a,c,rfl,h1,h2⟩:=h;refine⟨a,c,rfl,h1,h2.imp id ?_⟩;rintro⟨g,off,rfl,h3⟩;refine⟨g,off,rfl,fun i t hi j u hu=>?_⟩;have h4:=h3 i t hi j u hu;exact(World.cell?_of_block (w:=W) (hb.block g (dN h4))).trans h4
end Mc
namespace Mc
open Go.RowKit Hp Slot ah ai Tk
def Sh.z (s:Sh):Sh:={s with tc:=0}
def evz (e:Mod.Ev):Mod.Ev:={e with at':=0}
def Mc.er (m:Mc):Mc:=⟨m.cf,m.sh.z,m.evs.map evz,m.ks,0,0⟩
theorem gets_z (k:Wk) (c:aj.Cf) (who:Nat) (t:Tk) (s:Sh):(k.gets c who t s).1=(k.gets c who t s.z).1/\(k.gets c who t s).2.z=(k.gets c who t s.z).2.z:=by
 obtain⟨ws,tc,now,ahead,good,bad⟩:=s;unfold Wk.gets Sh.z Sh.next Sh.outcome;dsimp only
 by_cases h9:t.st=9
 ·rw[if_pos h9,if_pos h9]
  split
  ·exact⟨rfl,rfl⟩
  ·split
   ·split<;>exact⟨rfl,rfl⟩
   ·exact⟨rfl,rfl⟩
 ·rw[if_neg h9,if_neg h9]
  split
  ·exact⟨rfl,rfl⟩
  ·split
   ·split<;>exact⟨rfl,rfl⟩
   ·exact⟨rfl,rfl⟩
theorem reaps_z (k:Wk) (c:aj.Cf) (who:Nat) (r:Rp) (s:Sh):(k.iH c who r s).1=(k.iH c who r s.z).1/\(k.iH c who r s).2.z=(k.iH c who r s.z).2.z:=by
 obtain⟨ws,tc,now,ahead,good,bad⟩:=s;unfold Wk.iH
 split
 ·dsimp only[Sh.z]
  split
  ·exact⟨rfl,rfl⟩
  ·split<;>exact⟨rfl,rfl⟩
 ·dsimp only[Sh.z,Sh.outcome,Sh.next]
  repeat' split
  all_goals exact⟨rfl,rfl⟩
 ·dsimp only[Sh.z]
  split<;>exact⟨rfl,rfl⟩
 ·dsimp only[Sh.z]
  split<;>exact⟨rfl,rfl⟩
 ·exact⟨rfl,rfl⟩
theorem works_z (k:Wk) (c:aj.Cf) (who:Nat) (s:Sh):(k.works c who s).1=(k.works c who s.z).1/\(k.works c who s).2.z=(k.works c who s.z).2.z:=by
 unfold Wk.works
 split
 ·exact gets_z k c who _ s
 ·dsimp only[Sh.z];split<;>exact⟨rfl,rfl⟩
 ·dsimp only[Sh.z];split<;>exact⟨rfl,rfl⟩
 ·exact⟨rfl,rfl⟩
 ·dsimp only[Sh.z];split<;>exact⟨rfl,rfl⟩
 ·dsimp only[Sh.z];split<;>exact⟨rfl,rfl⟩
 ·exact reaps_z k c who _ s
 ·exact⟨rfl,rfl⟩
theorem wakes_z (k:Wk) (c:aj.Cf) (who:Nat) (s:Sh):(k.wakes c who s).1=(k.wakes c who s.z).1/\(k.wakes c who s).2.z=(k.wakes c who s.z).2.z:=by
 unfold Wk.wakes granted;dsimp only[Sh.z]
 split
 ·split<;>exact⟨rfl,rfl⟩
 ·exact⟨rfl,rfl⟩
theorem leaves_z (k:Wk) (c:aj.Cf) (who:Nat) (q:Qu) (s:Sh):(k.leaves c who q s).1=(k.leaves c who q s.z).1/\(k.leaves c who q s).2.z=(k.leaves c who q s.z).2.z:=by
 unfold Wk.leaves;dsimp only[Sh.z]
 split
 ·exact⟨rfl,rfl⟩
 ·split<;>exact⟨rfl,rfl⟩
theorem step_z (k:Wk) (c:aj.Cf) (who a a':Nat) (s:Sh):
  (k.step c who a s).1=(k.step c who a' s.z).1/\(k.step c who a s).2.1.z=(k.step c who a' s.z).2.1.z/\(k.step c who a s).2.2.map evz=(k.step c who a' s.z).2.2.map evz:=by
 unfold Wk.step
 split
 ·split<;>exact⟨rfl,rfl,rfl⟩
 ·exact⟨(works_z k c who s).1,(works_z k c who s).2,rfl⟩
 ·split
  ·dsimp only[Sh.z]
   split
   ·exact⟨rfl,rfl,rfl⟩
   ·split<;>exact⟨rfl,rfl,rfl⟩
  ·exact⟨rfl,rfl,rfl⟩
 ·split
  ·dsimp only[Sh.z]
   split
   ·exact⟨rfl,rfl,rfl⟩
   ·split<;>exact⟨rfl,rfl,rfl⟩
  ·exact⟨rfl,rfl,rfl⟩
 ·split
  ·dsimp only[Sh.z]
   split
   ·exact⟨rfl,rfl,rfl⟩
   ·split<;>exact⟨rfl,rfl,rfl⟩
  ·exact⟨rfl,rfl,rfl⟩
 ·rw[show granted c who s.z=granted c who s from rfl]
  split
  ·exact⟨(wakes_z _ c who s).1,(wakes_z _ c who s).2,rfl⟩
  ·exact⟨(leaves_z _ c who _ s).1,(leaves_z _ c who _ s).2,rfl⟩
 ·exact⟨(wakes_z _ c who s).1,(wakes_z _ c who s).2,rfl⟩
 ·split
  ·exact⟨(leaves_z _ c who _ s).1,(leaves_z _ c who _ s).2,rfl⟩
  ·exact⟨rfl,rfl,rfl⟩
 ·exact⟨rfl,rfl,rfl⟩
theorem if_er (b:Bool) {p q p' q':Bool×Mc} (h1:p.1=p'.1/\p.2.er=p'.2.er) (h2:q.1=q'.1/\q.2.er=q'.2.er):
  (if b=true then p else q).1=(if b=true then p' else q').1/\(if b=true then p else q).2.er=(if b=true then p' else q').2.er:=by
 cases b
 ·exact h2
 ·exact h1
theorem er_mk (c:aj.Cf) (s s':Sh) (l l':List Mod.Ev) (ks ks':List Wk) (a b a' b':Nat) (hs:s.z=s'.z) (hl:l.map evz=l'.map evz) (hk:ks=ks'):(Mc.mk c s l ks a b).er=(Mc.mk c s' l' ks' a' b').er:=by
 unfold Mc.er;simp only[hs,hl,hk]
theorem app_eq {α:Type} {a a' b b':List α} (h:a=a') (k:b=b'):a ++ b=a' ++ b':=by rw[h,k]
theorem evz2 (l:List Mod.Ev):l.map evz=(l.map evz).map evz:=by rw[List.map_map];rfl
theorem do_er (m:Mc) (x:En):(m.lG x).1=(m.er.lG x).1/\(m.lG x).2.er=(m.er.lG x).2.er:=by
 have e0:({m with at':=m.entries,entries:=m.entries+1}:Mc).er=({m.er with at':=m.er.entries,entries:=m.er.entries+1}:Mc).er:=er_mk _ _ _ _ _ _ _ _ _ _ _ rfl (evz2 _) rfl;unfold Mc.lG Mc.does
 by_cases h0:x.kind=0
 ·rw[if_pos h0,if_pos h0];unfold Mc.invoke;have hl:(m.er.evs).length=m.evs.length:=by simp[Mc.er]
  simp only[hl,Mc.has,Mc.worker];exact if_er _ ⟨rfl,er_mk _ _ _ _ _ _ _ _ _ _ _ rfl (by rw[List.map_append,List.map_append];exact app_eq (evz2 _) rfl) rfl⟩ ⟨rfl,e0⟩
 rw[if_neg h0,if_neg h0]
 by_cases h1:x.kind=1
 ·rw[if_pos h1,if_pos h1];unfold Mc.pick;obtain⟨z1,z2,z3⟩:=step_z (m.worker x.who) m.cf x.who.toNat m.entries 0 m.sh;refine if_er _ ⟨rfl,er_mk _ _ _ _ _ _ _ _ _ _ _ z2 ?_ (congrArg (m.ks.set x.who.toNat) z1)⟩ ⟨rfl,e0⟩;rw[List.map_append,List.map_append];have e:∀ (o:Option Mod.Ev),o.toList.map evz=(o.map evz).toList:=fun o=>by cases o<;>rfl
  rw[e,e];exact app_eq (evz2 _) (congrArg _ z3)
 rw[if_neg h1,if_neg h1]
 by_cases h2:x.kind=2
 ·rw[if_pos h2,if_pos h2];exact⟨rfl,er_mk _ _ _ _ _ _ _ _ _ _ _ rfl (evz2 _) rfl⟩
 rw[if_neg h2,if_neg h2]
 by_cases h3:x.kind=3
 ·rw[if_pos h3,if_pos h3];refine⟨rfl,?_⟩
  by_cases hc:m.sh.ahead.length < 1000
  ·have hc':m.er.sh.ahead.length < 1000:=hc;simp only[if_pos hc,if_pos hc'];exact er_mk _ _ _ _ _ _ _ _ _ _ _ rfl (evz2 _) rfl
  ·have hc':¬ m.er.sh.ahead.length < 1000:=hc;simp only[if_neg hc,if_neg hc'];exact e0
 rw[if_neg h3,if_neg h3]
 by_cases h4:x.kind=4
 ·rw[if_pos h4,if_pos h4];unfold Mc.break';refine if_er _ ?_ ⟨rfl,e0⟩
  cases hn:bn (rd m.sh.ws (sc m.cf x.ask.slot.toNat)) 13 0 0 with
  | none=>
   have hn':bn (rd m.er.sh.ws (sc m.er.cf x.ask.slot.toNat)) 13 0 0=none:=hn;simp only[hn,hn'];exact⟨trivial,er_mk _ _ _ _ _ _ _ _ _ _ _ rfl (evz2 _) rfl⟩
  | some nw=>
   have hn':bn (rd m.er.sh.ws (sc m.er.cf x.ask.slot.toNat)) 13 0 0=some nw:=hn;simp only[hn,hn'];exact⟨trivial,er_mk _ _ _ _ _ _ _ _ _ _ _ rfl (evz2 _) rfl⟩
 rw[if_neg h4,if_neg h4];exact⟨rfl,e0⟩
theorem not_er {n:Nat} {m:Mc} (ho:Fj n m) (x:En) (h:(m.lG x).1=false):(m.lG x).2.er=m.er:=by
 have hd:=Ke ho x;rw[h]at hd;generalize (m.lG x).2=m' at hd
 cases hd with
 | no tc=>rfl
theorem stp_at {c:aj.Cf} {who a:Nat} {s s':Sh} {k k':Wk} {o:Option Mod.Ev} (h:Stp c who a s k k' s' o):∀ e ∈ o.toList,e.at'=a:=by
 cases h
 case mg=>intro e he;simp at he;rw[he]
 all_goals (intro e he;cases he)
theorem do_evs {n:Nat} {m:Mc} (ho:Fj n m) (x:En):∃ l,(m.lG x).2.evs=m.evs ++ l/\(∀ e ∈ l,e.at'=m.entries)/\(m.lG x).2.entries=m.entries+1:=by
 have hd:=Ke ho x;generalize (m.lG x).1=b at hd;generalize (m.lG x).2=m' at hd
 cases hd with
 | no tc=>exact⟨[],(List.append_nil _).symm,fun e he=>(by cases he),rfl⟩
 | ask i k _ _ _ _ _=>exact⟨_,rfl,fun e he=>(by simp at he;rw[he]),rfl⟩
 | pick i k k' s' o _ _ _ _ hs _=>exact⟨_,rfl,stp_at hs,rfl⟩
 | tick _=>exact⟨[],(List.append_nil _).symm,fun e he=>(by cases he),rfl⟩
 | feed _=>exact⟨[],(List.append_nil _).symm,fun e he=>(by cases he),rfl⟩
 | brk i nw _=>exact⟨[],(List.append_nil _).symm,fun e he=>(by cases he),rfl⟩
structure Twin (m t:Mc):Prop where
 er:m.er=t.er
 at':∀ (i:Nat) x y,m.evs[i]? =some x->t.evs[i]? =some y->y.at'<=x.at'
 le:t.entries<=m.entries
theorem Twin.new (c:aj.Cf):Twin (Mc.new c) (Mc.new c):=⟨rfl,fun i x y h=>by simp[Mc.new]at h,Nat.le_refl _⟩
theorem Twin.len {m t:Mc} (h:Twin m t):m.evs.length=t.evs.length:=by
 have:=congrArg (fun z=>z.evs.length) h.er
 simpa [Mc.er] using this
theorem Twin.not {n:Nat} {m t:Mc} (h:Twin m t) (ho:Fj n m) (x:En) (hd:(m.lG x).1=false):Twin (m.lG x).2 t:=by
 refine⟨(not_er ho x hd).trans h.er,?_,?_⟩
 ·have hx:=Ke ho x;rw[hd]at hx;generalize (m.lG x).2=m' at hx
  cases hx with
  | no tc=>exact h.at'
 ·obtain⟨l,-,-,e⟩:=do_evs ho x;have:=h.le;omega
theorem Twin.lG {n n':Nat} {m t:Mc} (h:Twin m t) (ho:Fj n m) (ht:Fj n' t) (x:En):(t.lG x).1=(m.lG x).1/\Twin (m.lG x).2 (t.lG x).2:=by
 obtain⟨a1,a2⟩:=do_er m x;obtain⟨b1,b2⟩:=do_er t x;rw[h.er]at a1 a2;refine⟨b1.trans a1.symm,a2.trans b2.symm,?_,?_⟩
 ·obtain⟨l,e1,h1,-⟩:=do_evs ho x;obtain⟨r,e2,h2,-⟩:=do_evs ht x;rw[e1,e2];intro i y z hy hz;have hl:=h.len;have hle:=h.le
  by_cases hi:i < m.evs.length
  ·rw[List.getElem?_append_left hi]at hy;rw[List.getElem?_append_left ag]at hz;exact h.at' i y z hy hz
  ·rw[List.getElem?_append_right ag]at hy;rw[List.getElem?_append_right ag]at hz;rw[h1 y (List.mem_of_getElem? hy),h2 z (List.mem_of_getElem? hz)];omega
 ·obtain⟨l,-,-,e1⟩:=do_evs ho x;obtain⟨r,-,-,e2⟩:=do_evs ht x;have:=h.le;omega
theorem Twin.same {m t:Mc} (h:Twin m t):m.sh.ws=t.sh.ws/\m.sh.now=t.sh.now/\m.ks=t.ks/\(∀ (i:Nat) x y,m.evs[i]? =some x->t.evs[i]? =some y->y.at'<=x.at'/\{x with at':=y.at'}=y):=by
 have e:=h.er;unfold Mc.er at e;simp only[Mc.mk.injEq,and_true]at e;obtain⟨-,e2,e3,e4⟩:=e;refine⟨show m.sh.z.ws=t.sh.z.ws from by rw[e2],show m.sh.z.now=t.sh.z.now from by rw[e2],e4,fun i x y hx hy=>⟨h.at' i x y hx hy,?_⟩⟩;have:=congrArg (fun l=>l[i]?) e3;simp only[List.getElem?_map,hx,hy,Option.map_some,Option.some.injEq]at this;have h2:{evz x with at':=y.at'}={evz y with at':=y.at'}:=by rw[this]
 exact h2
end Mc
namespace Mc
open Go.RowKit Hp ah aj Slot ai Tk Cl
structure Lb2 (W0:World) (K:Nat->Prop) (gb n:Nat) (gb' n':Nat) (W:World) (p:Mp) (m:Mc) (p':Mp) (t:Mc):Prop where
 a:Lb W0 K gb n W p m
 b:Lb W0 K gb' n' W p' t
 ap:∀ i,i < W.heap.size->p.ow i=0\/p'.ow i=0
section
variable {W0 W W':World} {p p':Mp} {m m' t:Mc} {K:Nat->Prop} {gb n gb' n':Nat}
theorem Lb2.swap (h:Lb2 W0 K gb n gb' n' W p m p' t):Lb2 W0 K gb' n' gb n W p' t p m:=⟨h.b,h.a,fun i hi=>(h.ap i hi).symm⟩
theorem Lb.stay {G:Nat->Prop} (h:Lb W0 K gb n W p m) (hc:aD G W W') (hG:∀ b,b < W.heap.size->G b->p.ow b=0) (hW:∀ b,b < W.heap.size->G b->W0.heap.size<=b):
  Lb W0 K gb n W' {p with ow:=fun b=>if b < W.heap.size then p.ow b else 0} m:=by
 have hp:=h.pos;have h1:=h.at'.rest (Below.refl W.heap.size W);have ho:∀ b,b < W.heap.size->(if b < W.heap.size then p.ow b else 0)=p.ow b:=fun b hb=>if_pos hb
 have hg:∀ b,b < W.heap.size->G b->(if b < W.heap.size then p.ow b else 0)=0/\b≠0/\b≠2:=fun b hb e=>⟨(ho b hb).trans (hG b hb e),by have:=hW b hb e;omega,by have:=hW b hb e;omega⟩
 have hk:=h1.core.off hc hg;refine⟨h.pos,h.gb,⟨hk,fun i k hi=>?_⟩,?_,?_,h.pF.trans ?_,h.good⟩
 ·exact(h1.act i k hi).aK (G:=fun b=>b < W.heap.size/\G b) (hc.mono fun b hb e=>⟨hb,e⟩) (fun e=>(hg 0 e.1 e.2).2.1 rfl) (fun b hL e=>by have h1:=(hg b e.1 e.2).1;have h2:=hL.2;dsimp only at h2;rw[h1]at h2;omega) hk.mem (fun b hL=>⟨Nat.lt_of_lt_of_le hL.1 hc.size,hL.2⟩)
 ·intro b hb h0
  by_cases hlt:b < W.heap.size
  ·exact h.new b hlt (fun e=>h0 ((if_pos hlt).trans e))
  ·have:=h.pF.size;omega
 ·intro b hb;obtain⟨h3,h4⟩:=h.keep b hb;exact⟨(ho b h4).trans h3,Nat.lt_of_lt_of_le h4 hc.size⟩
 ·exact aD.below (hc.mono (G:=fun b=>b < W.heap.size/\G b) (fun b hb e=>⟨hb,e⟩)) h.pF.size fun b e=>hW b e.1 e.2
theorem Lb2.post (h:Lb2 W0 K gb n gb' n' W p m p' t) {v:Value} {e:Ending} (hp:iI W p v m' e W') {n2:Nat} (hg:Good n2 m'):e=.returned v/\∃ p2 p2',Lb2 W0 K gb n2 gb' n' W' p2 m' p2' t/\UT K W W':=by
 obtain⟨rfl,q,h1,h2⟩:=hp;have hc:=h2.aK.mono (F:=fun b=>p.ow b≠0) (fun b hb e=>(⟨e,hb⟩:p.ow b≠0/\b < W.heap.size));refine⟨rfl,q,_,⟨⟨h.a.pos,h2.same.gb.trans h.a.gb,h1,?_,?_,h.a.pF.trans (aD.below hc h.a.pF.size fun b e=>h.a.new b e.2 e.1),hg⟩,h.b.stay h2.aK ?_ ?_,?_⟩,?_⟩
 ·intro b hb h0
  by_cases hlt:b < W.heap.size
  ·exact h.a.new b hlt (by rw[<- h2.old b hlt];exact h0)
  ·have:=h.a.pF.size;omega
 ·intro b hk;obtain⟨h3,h4⟩:=h.a.keep b hk;exact⟨(h2.old b h4).trans h3,Nat.lt_of_lt_of_le h4 h2.aK.size⟩
 ·intro b hb e
  rcases h.ap b hb with h3 | h3
  ·exact absurd h3 e
  ·exact h3
 ·intro b hb e;exact h.a.new b hb e
 ·intro b hb
  by_cases hlt:b < W.heap.size
  ·rcases h.ap b hlt with h3 | h3
   ·exact .inl ((h2.old b hlt).trans h3)
   ·exact .inr ((if_pos hlt).trans h3)
  ·exact .inr (if_neg hlt)
 ·exact⟨h2.aK.size,fun b hk=>h2.aK.block b (h.a.keep b hk).2 (fun e=>e (h.a.keep b hk).1)⟩
theorem Lb2.do1 (h:Lb2 W0 K gb n gb' n' W p m p' t) (hn:n<=1000) (x:En) (hx:-9223372036854775808<=x.n/\x.n<=9223372036854775807):
  Calls prog 12 #[ptr gb,.agg x.cells] W fun e W'=>e=.returned (.bool (m.lG x).1)/\∃ p2 p2',Lb2 W0 K gb (n+1) gb' n' W' p2 (m.lG x).2 p2' t/\UT K W W':=by
 have:=R8 h.a.at' (h.a.good.env hn) x hx;rw[h.a.gb]at this;exact this.mono fun e w hp=>h.post hp (h.a.good.lG x)
theorem Lb.over (h:Lb W0 K gb n W p m) (hb:Below W.heap.size W W'):Lb W0 (fun b=>K b\/W.heap.size<=b/\b < W'.heap.size) gb n W' {p with ow:=fun b=>if b < W.heap.size then p.ow b else 0} m:=by
 refine⟨h.pos,h.gb,h.at'.rest hb,?_,?_,h.pF.trans (hb.mono h.pF.size),h.good⟩
 ·intro b h1 h2
  by_cases hlt:b < W.heap.size
  ·exact h.new b hlt (fun e=>h2 ((if_pos hlt).trans e))
  ·exact absurd (if_neg hlt) h2
 ·rintro b (hk | ⟨h1,h2⟩)
  ·obtain⟨h3,h4⟩:=h.keep b hk;exact⟨(if_pos h4).trans h3,Nat.lt_of_lt_of_le h4 hb.size⟩
  ·exact⟨if_neg ag,h2⟩
theorem Lb2.more (h:Lb2 W0 K gb n gb' n' W p m p' t) (hb:Below W.heap.size W W'):∃ p2 p2' K',Lb2 W0 K' gb n gb' n' W' p2 m p2' t/\(∀ b,K b->K' b)/\(∀ b,W.heap.size<=b->b < W'.heap.size->K' b):=by
 refine⟨_,_,_,⟨h.a.over hb,h.b.over hb,fun i hi=>?_⟩,fun b hk=>.inl hk,fun b h1 h2=>.inr ⟨h1,h2⟩⟩
 by_cases hlt:i < W.heap.size
 ·rcases h.ap i hlt with h3 | h3
  ·exact .inl ((if_pos hlt).trans h3)
  ·exact .inr ((if_pos hlt).trans h3)
 ·exact .inl (if_neg hlt)
theorem Lb2.first {c:Cf} {e:Ending} (h:Lb W0 K gb n W p m) (hp:qX W c e W') (hc:aA c):∃ p2 p2':Mp,e=.returned (.tuple #[ptr p2'.gb,.i 0])/\Lb2 W0 K gb n p2'.gb 0 W' p2 m p2' (Mc.new c):=by
 have ha:=h.over hp.pF;obtain⟨q,rfl,h1,h3,h4,h5⟩:=hp;refine⟨{p with ow:=fun b=>if b < W.heap.size then p.ow b else 0},q,rfl,⟨⟨ha.pos,ha.gb,ha.at',ha.new,fun b hb=>ha.keep b (.inl hb),ha.pF,ha.good⟩,⟨h.pos,rfl,h1,fun b _ hb=>Nat.le_trans h.pF.size (h3 b hb),fun b hb=>⟨h4 b (h.keep b hb).2,Nat.lt_of_lt_of_le (h.keep b hb).2 h5.size⟩,h.pF.trans (h5.mono h.pF.size),.new hc⟩,fun i hi=>?_⟩⟩
 by_cases hlt:i < W.heap.size
 ·exact .inr (h4 i hlt)
 ·exact .inl (if_neg hlt)
end
theorem machineNothing_walk (W:World) (hL:Laid W) (hT:TabAt W) (g0 g1 g2 g3 g4:Int) (h0:0<=g0/\g0 < 256) (h1:0<=g1/\g1 < 256) (h2:0<=g2/\g2 < 256) (h3:0<=g3/\g3 < 256) (h4:0<=g4/\g4 < 256) (v:Value) (l:List Tn) (hl:o7 W v l):
  Calls prog 8 #[.agg #[.int .u8 g0,.int .u8 g1,.int .u8 g2,.int .u8 g3,.int .u8 g4],v] W fun e W'=>e=.returned (.bool true)/\Below W.heap.size W W':=by
 have haw:=fun w hL hT=>wC w hL hT
 have hcf:=fun w=>AP w g0 g1 g2 g3 g4 h0 h1 h2 h3 h4
 have hcr:=qM g0 g1 g2 g3 g4;generalize nP g0 g1 g2 g3 g4=c at *;have hsm:aA c:=uq hcr;clear h0 h1 h2 h3 h4;have HL2:=uH hl;obtain⟨ta,tc,rfl,Ai,htc⟩:=hl;clear Ai htc;have hW2:2 < W.heap.size:=dN (hT 0 aT);have hA:Below W.heap.size W (W.alloc (.cells #[.int .u8 g0,.int .u8 g1,.int .u8 g2,.int .u8 g3,.int .u8 g4] 23)):=bZ.alloc aQ _;have hg:af (W.alloc (.cells #[.int .u8 g0,.int .u8 g1,.int .u8 g2,.int .u8 g3,.int .u8 g4] 23)) W.heap.size #[.int .u8 g0,.int .u8 g1,.int .u8 g2,.int .u8 g3,.int .u8 g4] 23:=heap_alloc_new W _;have hL0:=hL.stable (hA.block 0 ag);have hT0:=hT.stable (hA.block 2 hW2);have HC:=uH (And.intro hL hT);clear hL hT
 go_enter func8,ntmps8
 go_upto_region 1 with(fail);generalize (W.alloc (.cells #[.int .u8 g0,.int .u8 g1,.int .u8 g2,.int .u8 g3,.int .u8 g4] 23))=w0 at *;go_wp2_with fail;refine(haw _ hL0 hT0).mono ?_;rintro e w1 ⟨rfl,hb1⟩;have HB1:=uH (hA.trans (hb1.mono hA.size));have HG:=uH (af.below hg hb1);clear haw hb1 hA hg hL0 hT0
 by_cases aab:400 < l.length
 ·have h8i:(400:Int) < (l.length:Int):=ag
  clear hcf hcr hsm HL2 HG HC;go_wp2_with fail;go_ret;exact⟨rfl,HB1.out⟩
 have h8i:¬ (400:Int) < (l.length:Int):=ag
 go_upto_region 4 with(fail);refine wp_region_lit ?_;refine grow HG.out 23 (.tmp 2) underlying23 (ay ?_)
 refine pX 10 #[.tmp 25] #[23] #[.agg #[.int .u8 g0,.int .u8 g1,.int .u8 g2,.int .u8 g3,.int .u8 g4]] (aH func10) ?_;refine(hcf _).mono ?_;rintro e w2 ⟨rfl,hb2⟩;refine⟨_,rfl,?_⟩;dsimp only;refine dU (ob:=.cells Fw 27) (Z:=Fw) (cs:=c.cells) (t:=27) 27 (.tmp 6) (.tmp 26) rfl (ay ?_)
 rw[aG];refine wpList_nil ?_;have hB2:=HB1.out.trans (hb2.mono HB1.out.size);have hB3:Below W.heap.size W (w2.alloc (.cells c.cells 27)):=hB2.alloc hB2.size _;have hr3:af (w2.alloc (.cells c.cells 27)) w2.heap.size c.cells 27:=heap_alloc_new w2 _;have hcb:w2.heap.size < (w2.alloc (.cells c.cells 27)).heap.size:=au
 have hcW:W.heap.size<=w2.heap.size:=hB2.size;generalize (w2.alloc (.cells c.cells 27))=w3 at *;generalize w2.heap.size=cb at *;have hL3:=HC.out.1.stable (hB3.block 0 ag);have XC:=HC.out.2.stable (hB3.block 2 hW2);have hnew:=wD w3 c hcr hL3 XC;clear hcf hb2 HB1 hB2 HG hL3 XC HC;go_upto_region 5 with(fail);refine wp_region_lit ?_;refine grow hr3 27 (.tmp 6) underlying27 (ay ?_)
 refine pX 11 #[.tmp 28] #[27] #[.agg c.cells] (aH func11) ?_;refine hnew.mono ?_;intro e w4 hp;obtain⟨p4,rfl,h4⟩:=Lb.first (K:=fun b=>b=cb) hp hsm hB3 hW2 (by rintro b rfl;exact hcb);have hr4:af w4 cb c.cells 27:=af.below hr3 (hp.pF);generalize p4.gb=gb at *;refine⟨_,rfl,?_⟩;dsimp only;refine gl (.tuple #[ptr gb,.i 0]) (ay ?_)
 refine gl (ptr gb) (ay ?_)
 refine gl (.i 0) (ay ?_)
 refine gl (ptr gb) (ay ?_)
 refine gl (.i 0) (ay ?_)
 refine wpList_nil ?_;have hnew2:=wD w4 c hcr h4.at'.core.laid h4.at'.core.tab;clear hnew hp hr3 hB3;go_upto_region 6 with(fail);refine wp_region_lit ?_;refine grow hr4 27 (.tmp 6) underlying27 (ay ?_)
 refine pX 11 #[.tmp 33] #[27] #[.agg c.cells] (aH func11) ?_;refine hnew2.mono ?_;intro e w5 hp;obtain⟨p5,p5',rfl,h5⟩:=Lb2.first h4 hp hsm;have JK:af w5 cb c.cells 27:=af.below hr4 hp.pF;generalize p5'.gb=gt at *;refine⟨_,rfl,?_⟩;dsimp only;refine gl (.tuple #[ptr gt,.i 0]) (ay ?_)
 refine gl (ptr gt) (ay ?_)
 refine gl (.i 0) (ay ?_)
 refine gl (ptr gt) (ay ?_)
 refine gl (.i 0) (ay ?_)
 refine wpList_nil ?_;have H5:RowKit.Hid (∃ p m p' t K,Lb2 W K gb 0 gt 0 w5 p m p' t/\m.cf=c/\t.cf=c/\K cb/\af w5 cb c.cells 27/\Twin m t/\t.entries=0):=uH ⟨p5,_,p5',_,_,h5,rfl,rfl,rfl,JK,.new c,rfl⟩;clear hnew2 hp h4 h5 hr4 JK;go_wp2_with fail
 go_loopw [11,12] (fun u v wr=>∃ (k d:Nat),k<=l.length/\d<=k/\u=.i d/\v=.i k/\RowKit.Hid (∃ p m p' t K,Lb2 W K gb k gt d wr p m p' t/\m.cf=c/\t.cf=c/\K cb/\af wr cb c.cells 27/\Twin m t/\t.entries=d)) (fun _ v _=>l.length - (intOf v).toNat)
 case atStart=>exact⟨0,0,ag,ag,rfl,rfl,H5⟩
 case round=>
  obtain⟨k,d,hk,hd,rfl,rfl,hM⟩:=hrel;clear H5;obtain⟨p,m,p',t,Kp,hBB,hcf,hct,hKc,hrc,FF,hde⟩:=hM.out;have hB:=hBB.a
  by_cases hlt:k < l.length
  rotate_left
  ·have hi:¬ (k:Int) < (l.length:Int):=ag
   have hmk:=hB.good.ok;have hcw:c.workers=(m.ks.length:Int):=by have h1:=hmk.c.nw;have h2:=hmk.len;rw[hcf]at h1 h2;omega
   have hn8:m.ks.length<=8:=by have h1:=hmk.c.nw;rw[hcf]at h1;omega
   have HT:=uH (And.intro FF (And.intro hde (And.intro hcf hct)));have H6:RowKit.Hid (∃ p p' K,Lb2 W K gb k gt d wr p m p' t/\K cb/\af wr cb c.cells 27):=uH ⟨p,p',Kp,hBB,hKc,hrc⟩;have HD:=uH (And.intro hmk.evs hcw);clear hM hB hBB hrc hKc FF hde hmk HL2 hcf hct hcw;go_wp2_with fail
   go_loopw [14] (fun v wr=>∃ q:Nat,q<=m.ks.length/\v=.i q/\RowKit.Hid (∃ p p' K,Lb2 W K gb k gt d wr p m p' t/\K cb/\af wr cb c.cells 27)) (fun v _=>m.ks.length - (intOf v).toNat)
   case atStart=>exact⟨0,ag,rfl,H6⟩
   case round=>
    obtain⟨q,hq,rfl,hM⟩:=hrel;clear H6;obtain⟨p2,p2',K2,h2,kc2,hr2⟩:=hM.out;have c0:wr.cell? ⟨cb,0,none⟩=some (.i (m.ks.length:Nat)):=by rw[<- HD.out.2];exact af.cell hr2 0
    by_cases WG:q < m.ks.length
    rotate_left
    ·have hi3:¬ (q:Int) < (m.ks.length:Int):=ag
     have hlen:t.evs.length=m.evs.length:=HT.out.1.len.symm;have hel:m.evs.length<=400:=by have:=HD.out.1;omega
     have hev:=nT h2.a.at' ag;rw[h2.a.gb]at hev;clear hM;go_wp2_with fail;refine hev.mono ?_;rintro e w6 ⟨ea,ec,rfl,hoa,hfa,hb6⟩;obtain⟨p3,p3',K3,h3,hKo,hKn⟩:=h2.more hb6;have hfa3:∀ b,Fp (.slice ea m.evs.length ec) b->K3 b:=fun b hb=>hKn b (hfa b hb) (bR.lt hoa hb)
     have hev2:=nT h3.b.at' ag;rw[h3.b.gb,hlen]at hev2;clear hev h2 kc2 hr2 hKo hKn hfa hb6 c0;have H6:=uH (And.intro h3 (And.intro hoa hfa3));clear h3 hoa hfa3;go_wp2_with fail;refine hev2.mono ?_;rintro e w7 ⟨fa,fc,rfl,eG,UN,cB⟩;obtain⟨h3,hoa,hfa3⟩:=H6.out;obtain⟨p4,p4',Kz4,h4,hKo,hKn⟩:=h3.more cB;have H7:RowKit.Hid (∃ p p' K,Lb2 W K gb k gt d w7 p m p' t/\bR w7 (.slice ea m.evs.length ec) m.evs.length 18 (gL m.evs)/\(∀ b,Fp (.slice ea m.evs.length ec) b->K b)/\bR w7 (.slice fa m.evs.length fc) m.evs.length 18 (gL t.evs)/\(∀ b,Fp (.slice fa m.evs.length fc) b->K b)):=uH ⟨p4,p4',Kz4,h4,bR.stable hoa cB.size (fun b e=>cB.block b (bR.lt hoa e)),fun b e=>hKo _ (hfa3 b e),eG,fun b e=>hKn b (UN b e) (bR.lt eG e)⟩;clear hev2 H6 h3 hoa hfa3 h4 hKo hKn eG UN cB;go_wp2_with fail
     go_loopw [17] (fun v wr=>∃ j:Nat,j<=m.evs.length/\v=.i j/\RowKit.Hid (∃ p p' K,Lb2 W K gb k gt d wr p m p' t/\bR wr (.slice ea m.evs.length ec) m.evs.length 18 (gL m.evs)/\(∀ b,Fp (.slice ea m.evs.length ec) b->K b)/\bR wr (.slice fa m.evs.length fc) m.evs.length 18 (gL t.evs)/\(∀ b,Fp (.slice fa m.evs.length fc) b->K b))) (fun v _=>m.evs.length - (intOf v).toNat)
     case atStart=>exact⟨0,ag,rfl,H7⟩
     case round=>
      obtain⟨j,hj,rfl,hM⟩:=hrel;clear H7
      by_cases hjl:j < m.evs.length
      rotate_left
      ·have hi4:¬ (j:Int) < (m.evs.length:Int):=ag
       obtain⟨p5,p5',K5,h5,-,-,-,-⟩:=hM.out;obtain⟨s1,s2,-,-⟩:=HT.out.1.same;have hde:=HT.out.2.1;clear hM;have hent:=zi h5.b.at';rw[h5.b.gb,hde]at hent;go_upto_region 37 with(fail);refine wp_region_lit ?_;refine gl (.bool true) (ay ?_)
       refine gl (.bool true) (ay ?_)
       refine gl (ptr gt) (ay ?_)
       refine pX 28 #[.tmp 124] #[29] #[ptr gt] (aH func28) ?_;refine hent.mono ?_;rintro e w8 ⟨rfl,cZ⟩;refine⟨_,rfl,?_⟩;dsimp only;obtain⟨p6,p6',Kz6,h6,-,-⟩:=h5.more cZ;have hw1:=qy h6.a.at';rw[h6.a.gb]at hw1;clear hent h5 cZ;refine gl (.i d) (ay ?_)
       refine gl (.bool true) (ay ?_) (by go_simp;try rfl)
       refine gl (.bool true) (ay ?_)
       refine gl (.bool true) (ay ?_)
       refine gl (ptr gb) (ay ?_)
       refine pX 16 #[.tmp 130] #[29] #[ptr gb] (aH func16) ?_;refine hw1.mono ?_;rintro e w9 ⟨va,vc,rfl,hva,-,dm⟩;refine⟨_,rfl,?_⟩;dsimp only;obtain⟨p7,p7',Kz7,h7,-,-⟩:=h6.more dm;have hw2:=qy h7.b.at';rw[h7.b.gb,<- s1]at hw2;clear hw1 h6 dm;refine gl (ptr gt) (ay ?_)
       refine pX 16 #[.tmp 132] #[29] #[ptr gt] (aH func16) ?_;refine hw2.mono ?_;rintro e wa ⟨ua,uc,rfl,hub,-,hba⟩;refine⟨_,rfl,?_⟩;dsimp only;obtain⟨p8,p8',Kz8,h8,-,-⟩:=h7.more hba;have hint:=Cx.ints_any wa _ _ m.sh.ws m.sh.ws (hva.at.below hba) hub.at;rw[decide_eq_true rfl]at hint;clear hw2 h7 hva hub hba;refine pX 27 #[.tmp 131,.tmp 133] #[43,43] #[.slice va m.sh.ws.length vc,.slice ua m.sh.ws.length uc] (aH func27) ?_;refine hint.mono ?_;rintro e wb ⟨rfl,nn,rfl⟩;refine⟨_,rfl,?_⟩;dsimp only;obtain⟨p9,p9',K9,h9,-,-⟩:=h8.more (eO (Below.refl wa.heap.size wa) nn);generalize wa.drewN nn=wb at *;have hn1:=CQ h9.a.at';rw[h9.a.gb]at hn1;clear hint h8;refine gl (.bool true) (ay ?_)
       refine gl (.bool true) (ay ?_)
       refine gl (ptr gb) (ay ?_)
       refine pX 26 #[.tmp 137] #[29] #[ptr gb] (aH func26) ?_;refine hn1.mono ?_;rintro e wc ⟨rfl,hbc⟩;refine⟨_,rfl,?_⟩;dsimp only;obtain⟨q1,q1',L1,g1,-,-⟩:=h9.more hbc;have hn2:=CQ g1.b.at';rw[g1.b.gb,<- s2]at hn2;clear hn1 h9 hbc;refine gl (ptr gt) (ay ?_)
       refine pX 26 #[.tmp 139] #[29] #[ptr gt] (aH func26) ?_;refine hn2.mono ?_;rintro e we ⟨rfl,hbe⟩;refine⟨_,rfl,?_⟩;dsimp only;have HB:=uH (g1.a.pF.trans (hbe.mono g1.a.pF.size));clear hn2 g1 hbe;refine gl (.bool true) (ay ?_) (by go_simp;try rfl)
       refine gl (.bool true) (ay ?_)
       refine gl (.bool true) (ay ?_)
       refine wpList_nil ?_;clear HT HD s1 s2 hde;go_wp2_with fail;go_ret;exact⟨rfl,HB.out⟩
      obtain⟨p5,p5',K5,h5,hoa,hfa,eG,UN⟩:=hM.out;obtain⟨x,hx⟩:∃ x,m.evs[j]? =some x:=⟨_,List.getElem?_eq_getElem hjl⟩
      obtain⟨y,hy⟩:∃ y,t.evs[j]? =some y:=⟨_,List.getElem?_eq_getElem ag⟩
      obtain⟨hat,hxy⟩:=HT.out.1.same.2.2.2 j x y hx hy;obtain⟨g,off,rfl,hrg⟩:=GU (k:=0) hoa hx rfl;obtain⟨g2,off2,rfl,hrg2⟩:=GU (k:=0) eG hy hlen;have j0:(0:Int)<=(j:Int):=ag
      have j1:(j:Int) < (m.evs.length:Int):=ag
      have HP:=uH (And.intro h5 (And.intro hoa (And.intro hfa (And.intro eG (And.intro UN (And.intro hat hxy))))));clear hM h5 hoa hfa eG UN hat hxy hx hy;go_upto_region 30 with(fail);refine wp_region_lit ?_;refine gl (.slice (some ⟨g,off,none⟩) m.evs.length ec) (ay ?_)
      refine gl (.i j) (ay ?_)
      refine gl (.pointer (some ⟨g,off+j * 18,none⟩)) (ay ?_) (by go_simp;try rfl)
      refine VG hrg 47 (.tmp 105) underlying47 (ay ?_)
      refine dU (ob:=.cells Mod.Ev.zero.cells 47) (Z:=Mod.Ev.zero.cells) (cs:=x.cells) (t:=47) 47 (.tmp 18) (.tmp 106) rfl (ay ?_)
      rw[aG];refine wpList_nil ?_;have hA:Below wr.heap.size wr (wr.alloc (.cells x.cells 47)):=bZ.alloc aQ _;have hsx:af (wr.alloc (.cells x.cells 47)) wr.heap.size x.cells 47:=heap_alloc_new wr _;have hrg2:World.rangeAt (wr.alloc (.cells x.cells 47)) g2 (off2+j * 18) y.cells.toList:=fun q v hv=>(hA.cell (dN (hrg2 q v hv))).trans (hrg2 q v hv)
      have hlt1:wr.heap.size < (wr.alloc (.cells x.cells 47)).heap.size:=au
      clear hrg;generalize (wr.alloc (.cells x.cells 47))=wy at *;generalize hebq:wr.heap.size=eb at *;have HA:=uH hA;clear hA;go_upto_region 31 with(fail);refine wp_region_lit ?_;refine gl (.slice (some ⟨g2,off2,none⟩) m.evs.length fc) (ay ?_)
      refine gl (.i j) (ay ?_)
      refine gl (.pointer (some ⟨g2,off2+j * 18,none⟩)) (ay ?_) (by go_simp;try rfl)
      refine VG hrg2 47 (.tmp 109) underlying47 (ay ?_)
      refine dU (ob:=.cells Mod.Ev.zero.cells 47) (Z:=Mod.Ev.zero.cells) (cs:=y.cells) (t:=47) 47 (.tmp 19) (.tmp 110) rfl (ay ?_)
      rw[aG];refine wpList_nil ?_;have hA2:Below wy.heap.size wy (wy.alloc (.cells y.cells 47)):=bZ.alloc aQ _;have hsy:af (wy.alloc (.cells y.cells 47)) wy.heap.size y.cells 47:=heap_alloc_new wy _;have hsx2:af (wy.alloc (.cells y.cells 47)) eb x.cells 47:=af.below hsx hA2;have HA2:=uH hA2;clear hA2 hrg2 hsx;generalize (wy.alloc (.cells y.cells 47))=wz at *;generalize hfbq:wy.heap.size=fb at *;have ex2:wz.cell? ⟨eb,2,none⟩=some (.i x.at'):=af.cell hsx2 2;have ey2:wz.cell? ⟨fb,2,none⟩=some (.i y.at'):=af.cell hsy 2;have fr:wz.frozen? ⟨eb,2,none⟩=false:=af.frozen hsx2 2;obtain⟨h5,hoa,hfa,eG,UN,hat,hxy⟩:=HP.out;have n1:decide (x.at' < y.at')=false:=decide_eq_false ag;have hzx:af (World.setCell wz ⟨eb,2,none⟩ (.i y.at')) eb ({x with at':=y.at'}:Mod.Ev).cells 47:=af.aB hsx2 2 (.i y.at');rw[hxy]at hzx
      have hzy:af (World.setCell wz ⟨eb,2,none⟩ (.i y.at')) fb y.cells 47:=af.aK (F:=fun b=>b=eb) hsy ((aD.refl _ _).setCell _ _ (fun _=>rfl)) ag
      have hB:Below wr.heap.size wr (World.setCell wz ⟨eb,2,none⟩ (.i y.at')):=by
       rw[hebq];have h1:=HA.out.trans (HA2.out.mono ag);exact h1.trans (aD.below (F:=fun b=>b=eb) ((aD.refl _ _).setCell _ _ (fun _=>rfl)) (by have:=h1.size;omega) (by rintro b rfl;exact Nat.le_refl _))
      obtain⟨p6,p6',Kz6,h6,hKo,-⟩:=h5.more hB;have H8:RowKit.Hid (∃ p p' K,Lb2 W K gb k gt d (World.setCell wz ⟨eb,2,none⟩ (.i y.at')) p m p' t/\bR (World.setCell wz ⟨eb,2,none⟩ (.i y.at')) (.slice (some ⟨g,off,none⟩) m.evs.length ec) m.evs.length 18 (gL m.evs)/\(∀ b,Fp (.slice (some ⟨g,off,none⟩) m.evs.length ec) b->K b)/\bR (World.setCell wz ⟨eb,2,none⟩ (.i y.at')) (.slice (some ⟨g2,off2,none⟩) m.evs.length fc) m.evs.length 18 (gL t.evs)/\(∀ b,Fp (.slice (some ⟨g2,off2,none⟩) m.evs.length fc) b->K b)):=uH ⟨p6,p6',Kz6,h6,bR.stable hoa hB.size (fun b e=>hB.block b (bR.lt hoa e)),fun b e=>hKo _ (hfa b e),bR.stable eG hB.size (fun b e=>hB.block b (bR.lt eG e)),fun b e=>hKo _ (UN b e)⟩;have HZ:=uH (And.intro hzx hzy);clear h5 hoa hfa eG UN hat hxy hzx hzy hB h6 hKo HP hsx2 hsy HA HA2 hlt1 hebq hfbq;generalize hyat:y.at'=ya at *;generalize x.at'=xa at *
      go_upto_region 35 with(fail);generalize (World.setCell wz ⟨eb,2,none⟩ (.i ya))=wq at *;clear ex2 ey2 fr n1;obtain⟨hzx,hzy⟩:=HZ.out;have hes:=fun w=>Mod.Ny w y
      refine wp_region_lit ?_;refine grow hzx 47 (.tmp 18) underlying47 (ay ?_)
      refine grow hzy 47 (.tmp 19) underlying47 (ay ?_)
      refine gl (.bool false) ?_ (by have hq:=hes wq;go_simp;try rfl)
      try simp only[Act.put,sA,sZ,sS]
      refine wpList_nil ?_;clear hzx hzy HZ hes hyat;go_wp2_with fail;refine⟨⟨j+1,ag,by go_num,H8⟩,?_⟩
      first | (simp[intOf];done) | (simp[intOf];omega)
    have b1:(q:Int) < (m.ks.length:Int):=ag
    have hs1:=DJ h2.a.at' (q:Int);rw[h2.a.gb]at hs1;go_wp2_with fail;refine hs1.mono ?_;rintro e w6 ⟨rfl,hb6⟩;obtain⟨p3,p3',K3,h3,hKo,-⟩:=h2.more hb6;have kc3:=hKo _ kc2;have hr3:=af.below hr2 hb6;have hs2:=DJ h3.b.at' (q:Int);rw[h3.b.gb]at hs2;have hse:t.state (q:Int)=m.state (q:Int):=by unfold Mc.state Mc.has Mc.worker;rw[HT.out.1.same.2.2.1]
    rw[hse]at hs2;clear hs1 hM h2 kc2 hr2 hKo hb6 c0;go_wp2_with fail;refine hs2.mono ?_;rintro e w7 ⟨rfl,cB⟩;obtain⟨p4,p4',Kz4,h4,hKo,-⟩:=h3.more cB;have H7:RowKit.Hid (∃ p p' K,Lb2 W K gb k gt d w7 p m p' t/\K cb/\af w7 cb c.cells 27):=uH ⟨p4,p4',Kz4,h4,hKo _ kc3,af.below hr3 cB⟩;clear hs2 h3 kc3 hr3 h4 hKo cB hse;go_wp2_with fail;refine⟨⟨q+1,ag,by go_num,H7⟩,?_⟩
    first | (simp[intOf];done) | (simp[intOf];omega)
  obtain⟨ta2,tc2,e0,Ai,htc⟩:=(HL2.out.below (hB.pF)) |> fun h=>h
  obtain⟨tn,htn⟩:∃ tn,l[k]? =some tn:=⟨_,List.getElem?_eq_getElem hlt⟩
  obtain⟨t0,t1,t2,t3,t4,t5⟩:=Ai tn (List.mem_of_getElem? htn)
  rcases htc with rfl | ⟨tg,MV,e1,htc⟩
  ·simp at hlt
  injection e0 with e0 e2 e3
  subst e3;subst e1;subst e0;have hrg:∀ w,Below wr.heap.size wr w->w.rangeAt tg (MV+k * 6) tn.cells.toList:=fun w hb j u hu=>(hb.cell (dN (htc k tn htn j u (by rw[Array.getElem?_toList]at hu;exact hu)))).trans (htc k tn htn j u (by rw[Array.getElem?_toList]at hu;exact hu))
  have hrr:∀ w,Below wr.heap.size wr w->af w cb c.cells 27:=fun w hb=>af.below hrc hb
  have UC:=hB.good.ok.evs;have hev:∀ w,Below wr.heap.size wr w->Calls prog 14 #[ptr gb] w _:=fun w hb=>(by have h:=nT (hB.at'.rest hb) ag;rw[show({p with ow:=fun b=>if b < wr.heap.size then p.ow b else 0}:Mp).gb=gb from hB.gb]at h;exact h)
  have hent:=fun w (v:Value) hv=>yz w tn.k tn.w tn.o tn.s tn.g tn.n t0 t1 t2 t3 t4 t5 c hcr v m.evs ag hv
  have b0:(0:Int)<=(k:Int):=ag
  have b1:(k:Int) < (l.length:Int):=ag
  clear htc Ai htn t0 t1 t2 t3 t4 t5 UC;go_upto_region 13 with(fail)
  go_cut [13] from 51 to 74 (fun s9 wx=>(∃ eb:Nat,s9=ptr eb/\wr.heap.size<=eb/\∃ x:En,af wx eb x.cells 37/\x.ok)/\Below wr.heap.size wr wx)
  case first=>
   rename_i JJ KK JI Fe
   refine jr (S:=fun w'=>Below wr.heap.size wr w') (by exact bY) (fun hHeld=>?_);refine tH 0 57 hHeld ?_;refine tH 1 58 hHeld ?_;refine tH 2 59 hHeld ?_;refine iC (gd:=none) 3 60 (.load 40 (.tmp 59)) (.agg tn.cells.toList.toArray) (ru 40 (.tmp 59) tg (MV+k * 6) tn.cells.toList _ ax underlying40 rfl ax hrg) hHeld (ay ?_)
   refine iC (gd:=none) 4 61 (.load 27 (.tmp 6)) (.agg c.cells) (aM 27 (.tmp 6) cb 27 c.cells _ ax underlying27 rfl ax hrr) hHeld (ay ?_)
   refine tH 5 62 hHeld ?_;clear hrg hrr;refine gI (i:=6) (k:=8) ax ?_ ?_;refine bI 14 #[.tmp 62] #[29] (some 63) none ax ax #[ptr gb] ax (aH func14) ?_;refine(hev _ hHeld).mono ?_;rintro e we ⟨ea,ec,rfl,hoe,-,hbe⟩;have Gd:Below wr.heap.size wr we:=hHeld.trans (hbe.mono hHeld.size);refine⟨_,rfl,Gd,fun hHeld=>ay ?_⟩
   refine gI (i:=7) (k:=8) ax ?_ ?_;refine bI 13 #[.tmp 60,.tmp 61,.tmp 63] #[40,27,41] (some 64) none ax ax #[.agg #[.int .u8 tn.k,.int .u8 tn.w,.int .u8 tn.o,.int .u8 tn.s,.int .u8 tn.g,.int .u8 tn.n],c.val,.slice ea m.evs.length ec] ax (aH func13) ?_;refine(hent _ _ hoe).mono ?_;rintro e wn ⟨x,rfl,hx,hbn⟩;have hbN:Below wr.heap.size wr wn:=hHeld.trans (hbn.mono hHeld.size);refine⟨_,rfl,hbN,fun hHeld=>ay ?_⟩
   have jy:Below wr.heap.size wr (wn.alloc (.cells (Ah 0 0 0 0 false false 0 0 0 0 false) 37)):=hHeld.alloc hHeld.size _;have rz:af (wn.alloc (.cells (Ah 0 0 0 0 false false 0 0 0 0 false) 37)) wn.heap.size (Ah 0 0 0 0 false false 0 0 0 0 false) 37:=af.new _ _ _;have hge:wr.heap.size<=wn.heap.size:=hHeld.size;refine aX (i:=8) ax <| aY (w':=wn.alloc (.cells (Ah 0 0 0 0 false false 0 0 0 0 false) 37)) (some 13) (ptr wn.heap.size) ax ax (by go_simp;try rfl) jy (fun hHeld=>?_)
   try simp only[Act.put,sA,sZ,sS]
   generalize wn.heap.size=eb at *;have hw:Below wr.heap.size wr (World.alloc wn (.cells (Ah 0 0 0 0 false false 0 0 0 0 false) 37)):=hHeld;generalize (wn.alloc (.cells (Ah 0 0 0 0 false false 0 0 0 0 false) 37))=wz at *;clear hw;rotate_left;have jy:Below wr.heap.size wr (we.alloc (.cells (Ah 0 0 0 0 false false 0 0 0 0 false) 37)):=hHeld.alloc hHeld.size _;have rz:af (we.alloc (.cells (Ah 0 0 0 0 false false 0 0 0 0 false) 37)) we.heap.size (Ah 0 0 0 0 false false 0 0 0 0 false) 37:=af.new _ _ _;have hge:wr.heap.size<=we.heap.size:=hHeld.size;refine aY (w':=we.alloc (.cells (Ah 0 0 0 0 false false 0 0 0 0 false) 37)) (some 13) (ptr we.heap.size) ax ax (by go_simp;try rfl) jy (fun hHeld=>ay ?_)
   generalize we.heap.size=eb at *;generalize hwy:(we.alloc (.cells (Ah 0 0 0 0 false false 0 0 0 0 false) 37))=wy at *;refine aX (i:=7) ax <| bI 13 #[.tmp 60,.tmp 61,.tmp 63] #[40,27,41] (some 64) none ax ax #[.agg #[.int .u8 tn.k,.int .u8 tn.w,.int .u8 tn.o,.int .u8 tn.s,.int .u8 tn.g,.int .u8 tn.n],c.val,.slice ea m.evs.length ec] ax (aH func13) ?_
   refine(hent _ _ (by rw[<- hwy];exact hoe.alloc _)).mono ?_;rintro e wn ⟨x,rfl,hx,hbn⟩;have hbN:Below wr.heap.size wr wn:=hHeld.trans (hbn.mono hHeld.size);refine⟨_,rfl,hbN,fun hHeld=>ay ?_⟩
   have rz:=af.below rz hbn;generalize wn=wz at *;rotate_left;have jy:Below wr.heap.size wr (wr.drew.alloc (.cells (Ah 0 0 0 0 false false 0 0 0 0 false) 37)):=hHeld.alloc hHeld.size _;have rz:af (wr.drew.alloc (.cells (Ah 0 0 0 0 false false 0 0 0 0 false) 37)) wr.drew.heap.size (Ah 0 0 0 0 false false 0 0 0 0 false) 37:=af.new _ _ _;have hge:wr.heap.size<=wr.drew.heap.size:=hHeld.size;refine aY (w':=wr.drew.alloc (.cells (Ah 0 0 0 0 false false 0 0 0 0 false) 37)) (some 13) (ptr wr.drew.heap.size) ax ax (by go_simp;try rfl) jy (fun hHeld=>ay ?_)
   generalize wr.drew.heap.size=eb at *;generalize (wr.drew.alloc (.cells (Ah 0 0 0 0 false false 0 0 0 0 false) 37))=wy at *;refine aX (i:=6) ax <| bI 14 #[.tmp 62] #[29] (some 63) none ax ax #[ptr gb] ax (aH func14) ?_
   refine(hev _ hHeld).mono ?_;rintro e we ⟨ea,ec,rfl,hoe,-,hbe⟩;have Gd:Below wr.heap.size wr we:=hHeld.trans (hbe.mono hHeld.size);refine⟨_,rfl,Gd,fun hHeld=>ay ?_⟩
   have rz:=af.below rz hbe;refine aX (i:=7) ax <| bI 13 #[.tmp 60,.tmp 61,.tmp 63] #[40,27,41] (some 64) none ax ax #[.agg #[.int .u8 tn.k,.int .u8 tn.w,.int .u8 tn.o,.int .u8 tn.s,.int .u8 tn.g,.int .u8 tn.n],c.val,.slice ea m.evs.length ec] ax (aH func13) ?_
   refine(hent _ _ hoe).mono ?_;rintro e wn ⟨x,rfl,hx,hbn⟩;have hbN:Below wr.heap.size wr wn:=hHeld.trans (hbn.mono hHeld.size);refine⟨_,rfl,hbN,fun hHeld=>ay ?_⟩
   have rz:=af.below rz hbn;generalize wn=wz at *;rotate_left
   all_goals
    have hb4:Below wr.heap.size wr (wz.setRow eb x.cells):=below_setRow hHeld hge _;have rx:=rz.set x.cells;refine aX (i:=9) ax (gp 37 (.tmp 13) (.tmp 64) ax eb 37 (Ah 0 0 0 0 false false 0 0 0 0 false) x.cells rfl rfl rz rfl ax (by simp[En.cells,Value.oneCell']) hb4 (fun _=>ay ?_))
    refine iR ?_;refine Fe _ _ (Met.intro (JI _ _ ?_))
    (repeat apply Exists.intro)
    refine⟨?rel,rfl⟩
    case rel=>exact⟨⟨eb,rfl,hge,x,rx,hx⟩,hb4⟩
  case rest=>
   obtain⟨⟨eb,rfl,Yd,x,rx,hx⟩,dm⟩:=hcut;generalize wc=w9 at *;obtain⟨p9,p9',K9,h9,hKo,hKn⟩:=hBB.more dm;have hKe:K9 eb:=hKn eb Yd (af.lt rx);have XE:=hKo cb hKc;have ym:=af.below hrc dm;clear hev hent hB hBB dm hKo hKn hrc hKc Yd;have hmo:=h9.a.good.ok;have hto:=h9.b.good.ok;have hd1:=h9.do1 ag x ⟨by have:=hx.2;omega,by have:=hx.2;omega⟩;clear hM;go_upto_region 14 with(fail);refine wp_region_lit ?_;refine gl (ptr gb) (ay ?_)
   refine grow rx 37 (.tmp 13) underlying37 (ay ?_)
   refine pX 12 #[.tmp 65,.tmp 66] #[29,37] #[ptr gb,.agg x.cells] (aH func12) ?_;refine hd1.mono ?_;rintro e dH ⟨rfl,p10,p10',h10,nJ⟩;refine⟨_,rfl,?_⟩;dsimp only;have rx10:=nJ.row hKe rx;have E8:=nJ.row XE ym;clear hd1 nJ h9 rx ym;have htn:=fun hdf=>FF.not hmo x hdf
   have htd:=FF.lG hmo hto x
   have Js:(m.lG x).2.cf=c:=(QV m x).trans hcf;have hct2:(t.lG x).2.cf=c:=(QV t x).trans hct;have hte:(t.lG x).2.entries=d+1:=by obtain⟨l2,-,-,e2⟩:=do_evs hto x;omega
   cases hdd:(m.lG x).1
   ·skip
    refine gl (.bool true) (ay ?_)
    refine wpList_nil ?_;have H15:RowKit.Hid (∃ p m p' t K,Lb2 W K gb (k+1) gt d dH p m p' t/\m.cf=c/\t.cf=c/\K cb/\af dH cb c.cells 27/\Twin m t/\t.entries=d):=uH ⟨p10,_,p10',t,K9,h10,Js,hct,XE,E8,htn hdd,hde⟩;clear h10 E8 rx10 Js hct2 hte htn htd hmo hto FF hcf hct XE hKe;go_wp2_with fail
    go_roundw
    case rel=>exact⟨k+1,d,ag,ag,by go_num,by go_num,H15⟩
    case measure=>first | (simp[intOf];done) | (simp[intOf];omega)
   ·have hd2:=h10.swap.do1 ag x ⟨by have:=hx.2;omega,by have:=hx.2;omega⟩;rw[htd.1,hdd]at hd2;refine gl (.bool false) (ay ?_)
    refine wpList_nil ?_;clear htn;go_upto_region 16 with(fail);refine wp_region_lit ?_;refine gl (ptr gt) (ay ?_)
    refine grow rx10 37 (.tmp 13) underlying37 (ay ?_)
    refine pX 12 #[.tmp 71,.tmp 72] #[29,37] #[ptr gt,.agg x.cells] (aH func12) ?_;refine hd2.mono ?_;rintro e kU ⟨rfl,p11,p11',h11,hs11⟩;refine⟨_,rfl,?_⟩;dsimp only;have XF:=hs11.row XE E8;refine gl (.bool false) (ay ?_)
    refine wpList_nil ?_;have H15:RowKit.Hid (∃ p m p' t K,Lb2 W K gb (k+1) gt (d+1) kU p m p' t/\m.cf=c/\t.cf=c/\K cb/\af kU cb c.cells 27/\Twin m t/\t.entries=d+1):=uH ⟨p11',_,p11,_,K9,h11.swap,Js,hct2,XE,XF,htd.2,hte⟩;clear hd2 hs11 h10 h11 E8 XF rx10 Js hct2 hte htd hmo hto FF hcf hct XE hKe;go_wp2_with fail
    go_roundw
    case rel=>exact⟨k+1,d+1,ag,ag,by go_num,by go_num,H15⟩
    case measure=>first | (simp[intOf];done) | (simp[intOf];omega)
end Mc
end Go.Proofs.YtbklamnimfmjkaaGreatDoor
