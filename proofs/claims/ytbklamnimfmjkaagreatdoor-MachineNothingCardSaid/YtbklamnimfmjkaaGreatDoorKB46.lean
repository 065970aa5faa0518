/- Part 46 of the walks and plain laws that the last text joins. -/
import Derived.Test.YtbklamnimfmjkaaGreatDoorKB45
set_option maxRecDepth 100000
set_option maxHeartbeats 16000000
set_option linter.all false
open Go.Proofs.Tryz
namespace Go.Proofs.YtbklamnimfmjkaaGreatDoor
namespace Mc
open Go.RowKit Hp Slot ah ai Mod
abbrev En.val (x:En):Value:=.agg x.cells
def En.ok (x:En):Prop:=(0<=x.ask.deadline/\x.ask.deadline<=255)/\0<=x.n/\x.n<=15
def vY (W:World) (v:Value) (l:List Ev):Prop:=bR W v l.length 18 (gL l)
theorem vY.stable {w w':World} {v:Value} {l:List Ev} (h:vY w v l) (hs:w.heap.size<=w'.heap.size) (hb:∀ k,Fp v k->w'.heap[k]? =w.heap[k]?):vY w' v l:=bR.stable h hs hb
theorem vY.lt {w:World} {v:Value} {l:List Ev} (h:vY w v l) {k:Nat} (hk:Fp v k):k < w.heap.size:=bR.lt h hk
theorem GI (l:List Ev) (i:Nat) (x:Ev) (q:Nat) (h:l[i]? =some x) (hq:q < 18):(gL l)[i * 18+q]? =x.cells[q]?:=by
 have hs:x.cells.size=18:=rfl;have h1:x.cells[q]? =some x.cells[q]:=Array.getElem?_eq_getElem ag;rw[h1];exact vZ h hq (by rw[Array.getElem?_toList];exact h1)
structure Tn where
 k:Int
 w:Int
 o:Int
 s:Int
 g:Int
 n:Int
def Tn.cells (t:Tn):Array Value:=#[.int .u8 t.k,.int .u8 t.w,.int .u8 t.o,.int .u8 t.s,.int .u8 t.g,.int .u8 t.n]
def Tn.ok (t:Tn):Prop:=(0<=t.k/\t.k < 256)/\(0<=t.w/\t.w < 256)/\(0<=t.o/\t.o < 256)/\(0<=t.s/\t.s < 256)/\(0<=t.g/\t.g < 256)/\(0<=t.n/\t.n < 256)
def o7 (W:World) (v:Value) (l:List Tn):Prop:=
 ∃ a c,v=.slice a l.length c/\(∀ t ∈ l,t.ok)/\(l=[]\/∃ g off,a=some ⟨g,off,none⟩/\∀ (i:Nat) (t:Tn),l[i]? =some t->∀ (j:Nat) (u:Value),t.cells[j]? =some u->W.cell? ⟨g,off+i * 6+j,none⟩=some u)
def Kj (W:World) (en:Ending) (W':World):Prop:=∃ a b:Int,en=.returned (.tuple #[.i a,.i b])/\∃ n,W'=W.drewN n
theorem sU (W:World) (v:Value) (l:List Ev) (hl:l.length<=1000) (ho:vY W v l) (who:Int):
  Calls prog 38 #[v,.i who] W (Kj W):=by
 rcases ho.2 with⟨rfl,h0⟩ | ⟨g,off,cap,rfl,hn,hcm,isc,hs,hf,hx⟩
 ·obtain rfl:l=[]:=List.eq_nil_of_length_eq_zero h0;clear ho hl h0
  go_enter func38,ntmps38
  go_wp2
  go_loop [6] (fun i=>i=.i (-1)) (fun i=>0)
  case atStart=>rfl
  case round=>
   obtain rfl:=hrel
   go_wp2
   go_ret2;exact⟨0,0,rfl,0,rfl⟩
 ·have HX:=uH (fun i x q u (hi:l[i]? =some x) (hq:q < 18) (hu:x.cells[q]? =some u)=>hx (i * 18+q) u (by rw[GI l i x q hi hq];exact hu));clear hx hs hf isc ho
  go_enter func38,ntmps38
  go_wp2
  go_loop [6] (fun i=>∃ k:Nat,k<=l.length/\i=.i ((k:Int) - 1)) (fun i=>(intOf i+1).toNat)
  case atStart=>exact⟨l.length,ag,rfl⟩
  case round=>
   obtain⟨k,hk,rfl⟩:=hrel
   by_cases hlt:0 < k
   ·obtain⟨j,rfl⟩:∃ j,k=j+1:=⟨k - 1,ag⟩
    have hcast:((j+1:Nat):Int) - 1=(j:Int):=ag
    rw[hcast];obtain⟨x,hxj⟩:∃ x,l[j]? =some x:=⟨_,List.getElem?_eq_getElem ag⟩
    have c0:W.cell? ⟨g,off+j * 18,none⟩=some (.bool x.ended):=HX.out j x 0 _ hxj ag rfl;have c1:W.cell? ⟨g,off+j * 18+1,none⟩=some (.i x.who):=HX.out j x 1 _ hxj ag rfl;have c3:W.cell? ⟨g,off+j * 18+3,none⟩=some (.i x.ask.op):=HX.out j x 3 _ hxj ag rfl;have c10:W.cell? ⟨g,off+j * 18+10,none⟩=some (.i x.e):=HX.out j x 10 _ hxj ag rfl;have c11:W.cell? ⟨g,off+j * 18+11,none⟩=some (.i x.slot):=HX.out j x 11 _ hxj ag rfl;have c12:W.cell? ⟨g,off+j * 18+12,none⟩=some (.i x.gen):=HX.out j x 12 _ hxj ag rfl;have b0:(0:Int)<=(j:Int):=ag
    have b1:(j:Int) < (l.length:Int):=ag
    have b2:(j:Int)<=(l.length:Int) - 1:=ag
    obtain⟨en,wh,at',⟨op,dl,wt,fo,sl,ge,st⟩,er,xs,xg,xt,q1,q2,q3,q4⟩:=x;simp only at c0 c1 c3 c10 c11 c12;clear hxj hcast HX;cases en
    ·go_wp2
     go_round
     case rel=>exact⟨j,ag,rfl⟩
     case measure=>simp[intOf]<;>omega
    cases hw:(wh == who)
    ·go_wp2
     go_round
     case rel=>exact⟨j,ag,rfl⟩
     case measure=>simp[intOf]<;>omega
    cases ho:(op == 0)
    ·go_wp2
     go_round
     case rel=>exact⟨j,ag,rfl⟩
     case measure=>simp[intOf]<;>omega
    cases he:(er == 0)
    ·go_wp2
     go_round
     case rel=>exact⟨j,ag,rfl⟩
     case measure=>simp[intOf]<;>omega
    go_wp2_with fail
    go_quiet (fail)
    go_wp2
    go_ret2;exact⟨_,_,rfl,_,rfl⟩
   ·obtain rfl:k=0:=ag
    go_wp2
    go_ret2;exact⟨0,0,rfl,0,rfl⟩
def Sa (W:World) (en:Ending) (W':World):Prop:=∃ x:En,en=.returned x.val/\x.ok/\Below W.heap.size W W'
theorem uu (w:World) (o:Obj) {k:Nat} (hk:k=w.heap.size):(w.alloc o).heap[k]? =some o:=by subst hk;exact heap_alloc_new _ _
theorem nR (w:World) (o:Obj) {k:Nat} (hk:k < w.heap.size):(w.alloc o).heap[k]? =w.heap[k]?:=Below.heap_alloc _ _ _ hk
theorem ahk {kd x:Int} (h:kd=x) {a b c:Int} {d e:Bool} {f g i j:Int} {p:Prop} [Decidable p]:([.i x,.i a,.i b,.i c,.bool d,.bool e,.i f,.i g,.i i,.i j,.bool (decide p)]:List Value).toArray=[.i kd,.i a,.i b,.i c,.bool d,.bool e,.i f,.i g,.i i,.i j,.bool (decide p)].toArray:=by rw[h]
theorem QD (W:World) (A B Z cs:Array Value) (nq:Nat):af (((((W.alloc (.cells A 40)).alloc (.cells B 27)).alloc (.cells Z 37)).drewN nq).alloc (.cells cs 37)) (W.heap.size+1+1+1) cs 37/\
  af (((((W.alloc (.cells A 40)).alloc (.cells B 27)).alloc (.cells Z 37)).drewN nq).alloc (.cells cs 37)) (W.heap.size+1+1) Z 37/\Below W.heap.size W (((((W.alloc (.cells A 40)).alloc (.cells B 27)).alloc (.cells Z 37)).drewN nq).alloc (.cells cs 37)):=
 ⟨uu _ _ au,(nR _ _ au).trans (uu _ _ au),(eO (((bZ.alloc aQ _).alloc au _).alloc (by simp<;>omega) _) nq).alloc (by simp<;>omega) _⟩
theorem Vz (W:World) (A B Z cs L:Array Value) (nq:Nat):af ((((((W.alloc (.cells A 40)).alloc (.cells B 27)).alloc (.cells Z 37)).drewN nq).alloc (.cells cs 37)).alloc (.cells L 3)) (W.heap.size+1+1+1) cs 37/\
  af ((((((W.alloc (.cells A 40)).alloc (.cells B 27)).alloc (.cells Z 37)).drewN nq).alloc (.cells cs 37)).alloc (.cells L 3)) (W.heap.size+1+1) Z 37/\Below W.heap.size W ((((((W.alloc (.cells A 40)).alloc (.cells B 27)).alloc (.cells Z 37)).drewN nq).alloc (.cells cs 37)).alloc (.cells L 3)):=
 have h:=QD W A B Z cs nq
 ⟨(nR _ _ au).trans h.1,(nR _ _ (by simp<;>omega)).trans h.2.1,h.2.2.alloc (by simp<;>omega) _⟩
theorem QE {wx:World} {g:Nat} {cs:Array Value} {u v:Value} (rX:af wx g cs 37) (h6:cs[6]? =some u) (h7:cs[7]? =some v) (hv:∀ x,(cs.setIfInBounds 6 x)[7]? =some v):(∀ N,(wx.drewN N).cell? ⟨g,6,none⟩=some u)/\
  (∀ N x,((wx.drewN N).setCell ⟨g,6,none⟩ x).cell? ⟨g,7,none⟩=some v)/\(∀ N,(wx.drewN N).frozen? ⟨g,6,none⟩=false)/\(∀ N x,((wx.drewN N).setCell ⟨g,6,none⟩ x).frozen? ⟨g,7,none⟩=false):=
 ⟨fun N=>(rX.cell 6).trans h6,fun N x=>((af.aB (w:=wx.drewN N) rX 6 x).cell 7).trans (hv x),fun N=>af.frozen (w:=wx.drewN N) rX 6,fun N x=>(af.aB (w:=wx.drewN N) rX 6 x).frozen 7⟩
theorem Kk {W wx:World} {Z:Array Value} (rR:af wx (W.heap.size+1+1) Z 37) (hB:Below W.heap.size W wx) (N:Nat) (x y:Value):af (((wx.drewN N).setCell ⟨W.heap.size+1+1+1,6,none⟩ x).setCell ⟨W.heap.size+1+1+1,7,none⟩ y) (W.heap.size+1+1) Z 37/\
  Below W.heap.size W (((wx.drewN N).setCell ⟨W.heap.size+1+1+1,6,none⟩ x).setCell ⟨W.heap.size+1+1+1,7,none⟩ y):=
 ⟨(heap_setCell_other _ _ _ _ au).trans ((heap_setCell_other _ _ _ _ au).trans rR),((eO hB N).setCell (p:=⟨W.heap.size+1+1+1,6,none⟩) (by simp<;>omega) x).setCell (p:=⟨W.heap.size+1+1+1,7,none⟩) (by simp<;>omega) y⟩
theorem yz (W:World) (k w o s g n:Int) (hk:0<=k/\k < 256) (hw:0<=w/\w < 256) (ho:0<=o/\o < 256) (hs:0<=s/\s < 256) (hg:0<=g/\g < 256) (hn:0<=n/\n < 256)
  (c:aj.Cf) (hc:c.right=true) (v:Value) (l:List Ev) (hl:l.length<=1000) (hv:vY W v l):
  Calls prog 13 #[.agg #[.int .u8 k,.int .u8 w,.int .u8 o,.int .u8 s,.int .u8 g,.int .u8 n],c.val,v] W (Sa W):=by
 simp[aj.Cf.right,aj.vM]at hc;obtain⟨cw,cs,cst,jm,cu⟩:=c;simp only[aj.Cf.val,aj.Cf.cells]at *;obtain⟨k0,k1⟩:=hk;obtain⟨w0,w1⟩:=hw;obtain⟨o0,o1⟩:=ho;obtain⟨s0,s1⟩:=hs;obtain⟨g0,g1⟩:=hg;obtain⟨n0,n1⟩:=hn;have hcw:1<=cw/\cw<=8:=ag
 clear hc;obtain⟨cw0,cw1⟩:=hcw;have hwr:IntKind.i64.wrap (cw+1)=cw+1:=IntWalk.i64_in _ ag;have hle:∀ W',Below W.heap.size W W'->∀ u,Calls prog 38 #[v,.i u] W' (Kj W'):=fun W' hb u=>sU W' v l hl (hv.stable hb.size (fun k hk=>hb.block k (hv.lt hk))) u
 have hidx:∃ z:Int,((Ab 0 0 1 1 3):Array Value)[(o % 5).toNat]? =some (.i z):=by
  have h5:o % 5=0\/o % 5=1\/o % 5=2\/o % 5=3\/o % 5=4:=ag
  rcases h5 with h | h | h | h | h<;>rw[h]<;>exact⟨_,rfl⟩
 obtain⟨z,hz⟩:=hidx;have HV:=uH hv;have Sb:=uH hle;clear hv hl hle
 go_enter func13,ntmps13
 go_wp2_with fail
 go_quiet (fail)
 clear hwr;have ht:((k < 60)\/(60<=k/\k < 230)\/(230<=k/\k < 238)\/(238<=k/\k < 246)\/(246<=k/\k < 252)\/(252<=k)):=ag
 have NZ:o < 100\/100<=o:=ag
 have hss:s < 60\/60<=s:=ag
 obtain⟨kd,ht⟩:∃ kd:Int,(kd=0/\k < 60)\/(kd=1/\60<=k/\k < 230)\/(kd=2/\230<=k/\k < 238)\/(kd=3/\238<=k/\k < 246)\/(kd=4/\246<=k/\k < 252)\/(kd=k - 250/\252<=k):=by
  rcases ht with h | h | h | h | h | h
  exact⟨0,ag⟩;exact⟨1,ag⟩;exact⟨2,ag⟩;exact⟨3,ag⟩;exact⟨4,ag⟩;exact⟨k - 250,ag⟩
 rcases ht with⟨hkd,ht⟩ | ⟨hkd,ht⟩ | ⟨hkd,ht⟩ | ⟨hkd,ht⟩ | ⟨hkd,ht⟩ | ⟨hkd,ht⟩
 all_goals
  have ht0:=ht
  rcases NZ with NZ | NZ
  focus
   go_upto_if 106 with(fail)
   rw[ahk (c:=n) hkd];obtain⟨rX,rR,hB⟩:=QD W #[.int .u8 k,.int .u8 w,.int .u8 o,.int .u8 s,.int .u8 g,.int .u8 n] (Ab cw cs cst jm cu) (Ah 0 0 0 0 false false 0 0 0 0 false) (Ah kd (wrap64 (w % (cw+1) - w / 250)) (o % 9) n (n % 2 == 1) (n % 5 == 0) (s % 6) (g % 4) (n % 4) (n % 16) (decide (0 < n % 3))) nq;generalize (((((W.alloc (.cells #[.int .u8 k,.int .u8 w,.int .u8 o,.int .u8 s,.int .u8 g,.int .u8 n] 40)).alloc (.cells (Ab cw cs cst jm cu) 27)).alloc (.cells (Ah 0 0 0 0 false false 0 0 0 0 false) 37)).drewN nq).alloc (.cells (Ah kd (wrap64 (w % (cw+1) - w / 250)) (o % 9) n (n % 2 == 1) (n % 5 == 0) (s % 6) (g % 4) (n % 4) (n % 16) (decide (0 < n % 3))) 37))=wx at rX rR hB ⊢;have hlt:W.heap.size<=W.heap.size+1+1:=ag
   rcases hss with hss | hss
  focus
   skip
  rotate_left
  focus
   have hl:=Sb.out wx hB (wrap64 (w % (cw+1) - w / 250));obtain⟨c6,c7,f6,f7⟩:=QE rX rfl rfl (fun _=>rfl);go_wp2_with fail;refine hl.mono ?_;rintro e w2 ⟨la,lb,rfl,N,rfl⟩;have VA:=(((af.aB (w:=wx.drewN N) rX 6 (.i la)).aB 7 (.i lb)))
   obtain⟨VB,hB2⟩:=Kk rR hB N (.i la) (.i lb);simp only[List.setIfInBounds_toArray,List.set_cons_succ,List.set_cons_zero]at VA
  rotate_left
  focus
   go_upto_if 106 with(fail)
   rw[ahk (c:=n) hkd];obtain⟨rX,rR,hB⟩:=Vz W #[.int .u8 k,.int .u8 w,.int .u8 o,.int .u8 s,.int .u8 g,.int .u8 n] (Ab cw cs cst jm cu) (Ah 0 0 0 0 false false 0 0 0 0 false) (Ah kd (wrap64 (w % (cw+1) - w / 250)) z n (n % 2 == 1) (n % 5 == 0) (s % 6) (g % 4) (n % 4) (n % 16) (decide (0 < n % 3))) (Ab 0 0 1 1 3) nq;generalize ((((((W.alloc (.cells #[.int .u8 k,.int .u8 w,.int .u8 o,.int .u8 s,.int .u8 g,.int .u8 n] 40)).alloc (.cells (Ab cw cs cst jm cu) 27)).alloc (.cells (Ah 0 0 0 0 false false 0 0 0 0 false) 37)).drewN nq).alloc (.cells (Ah kd (wrap64 (w % (cw+1) - w / 250)) z n (n % 2 == 1) (n % 5 == 0) (s % 6) (g % 4) (n % 4) (n % 16) (decide (0 < n % 3))) 37)).alloc (.cells (Ab 0 0 1 1 3) 3))=wx at rX rR hB ⊢;have hlt:W.heap.size<=W.heap.size+1+1:=ag
   rcases hss with hss | hss
  focus
   skip
  rotate_left
  focus
   have hl:=Sb.out wx hB (wrap64 (w % (cw+1) - w / 250));obtain⟨c6,c7,f6,f7⟩:=QE rX rfl rfl (fun _=>rfl);go_wp2_with fail;refine hl.mono ?_;rintro e w2 ⟨la,lb,rfl,N,rfl⟩;have VA:=(((af.aB (w:=wx.drewN N) rX 6 (.i la)).aB 7 (.i lb)))
   obtain⟨VB,hB2⟩:=Kk rR hB N (.i la) (.i lb);simp only[List.setIfInBounds_toArray,List.set_cons_succ,List.set_cons_zero]at VA
  rotate_left
  all_goals
   go_upto_region 21 with(fail);refine wp_region_lit ?_
  ·refine grow rX 37 (.tmp 8) underlying37 ?_;refine uR rR (Ah kd (wrap64 (w % (cw+1) - w / 250)) (o % 9) n (n % 2 == 1) (n % 5 == 0) (s % 6) (g % 4) (n % 4) (n % 16) (decide (0 < n % 3))) 37 (.tmp 6) (.tmp 119) ?_;go_wp2_with fail;refine N7 (W.heap.size+1+1) (rR.set _) (underlying37) ?_;exact⟨⟨kd,(wrap64 (w % (cw+1) - w / 250)),⟨(o % 9),n,n % 2 == 1,n % 5 == 0,s % 6,g % 4,n % 4⟩,n % 16,decide (0 < n % 3)⟩,rfl,⟨⟨by dsimp only;omega,by dsimp only;omega⟩,by dsimp only;omega,by dsimp only;omega⟩,below_setRow hB hlt _⟩
  ·refine grow VA 37 (.tmp 8) underlying37 ?_;refine uR VB (Ah kd (wrap64 (w % (cw+1) - w / 250)) (o % 9) n (n % 2 == 1) (n % 5 == 0) la lb (n % 4) (n % 16) (decide (0 < n % 3))) 37 (.tmp 6) (.tmp 119) ?_;go_wp2_with fail;refine N7 (W.heap.size+1+1) (VB.set _) (underlying37) ?_;exact⟨⟨kd,(wrap64 (w % (cw+1) - w / 250)),⟨(o % 9),n,n % 2 == 1,n % 5 == 0,la,lb,n % 4⟩,n % 16,decide (0 < n % 3)⟩,rfl,⟨⟨by dsimp only;omega,by dsimp only;omega⟩,by dsimp only;omega,by dsimp only;omega⟩,below_setRow hB2 hlt _⟩
  ·refine grow rX 37 (.tmp 8) underlying37 ?_;refine uR rR (Ah kd (wrap64 (w % (cw+1) - w / 250)) z n (n % 2 == 1) (n % 5 == 0) (s % 6) (g % 4) (n % 4) (n % 16) (decide (0 < n % 3))) 37 (.tmp 6) (.tmp 119) ?_;go_wp2_with fail;refine N7 (W.heap.size+1+1) (rR.set _) (underlying37) ?_;exact⟨⟨kd,(wrap64 (w % (cw+1) - w / 250)),⟨z,n,n % 2 == 1,n % 5 == 0,s % 6,g % 4,n % 4⟩,n % 16,decide (0 < n % 3)⟩,rfl,⟨⟨by dsimp only;omega,by dsimp only;omega⟩,by dsimp only;omega,by dsimp only;omega⟩,below_setRow hB hlt _⟩
  ·refine grow VA 37 (.tmp 8) underlying37 ?_;refine uR VB (Ah kd (wrap64 (w % (cw+1) - w / 250)) z n (n % 2 == 1) (n % 5 == 0) la lb (n % 4) (n % 16) (decide (0 < n % 3))) 37 (.tmp 6) (.tmp 119) ?_;go_wp2_with fail;refine N7 (W.heap.size+1+1) (VB.set _) (underlying37) ?_;exact⟨⟨kd,(wrap64 (w % (cw+1) - w / 250)),⟨z,n,n % 2 == 1,n % 5 == 0,la,lb,n % 4⟩,n % 16,decide (0 < n % 3)⟩,rfl,⟨⟨by dsimp only;omega,by dsimp only;omega⟩,by dsimp only;omega,by dsimp only;omega⟩,below_setRow hB2 hlt _⟩
end Mc
end Go.Proofs.YtbklamnimfmjkaaGreatDoor
