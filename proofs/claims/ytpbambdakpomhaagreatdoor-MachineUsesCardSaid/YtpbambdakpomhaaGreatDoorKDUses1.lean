/- Part 1 of the walks and plain laws that the last text joins. -/
import Derived.Test.YtpbambdakpomhaaGreatDoorKB47
set_option maxRecDepth 100000
set_option maxHeartbeats 16000000
set_option linter.all false
open Go.Proofs.Tryz
namespace Go.Proofs.YtpbambdakpomhaaGreatDoor
namespace Slot
open Go.RowKit Hp ai
def fM (n m:Int):Bool:=decide (0<=n/\n<=m)
theorem dG (w:World) (n m:Int):Calls prog 86 #[.i n,.i m] w fun e w'=>e=.returned (.bool (fM n m))/\w=w':=by
 go_enter func86,ntmps86
 by_cases h:0<=n
 ·go_wp2
  go_ret;exact⟨Base.aN (by simp[fM,h]),rfl⟩
 ·go_wp2
  go_ret;exact⟨Base.aN (by simp[fM];omega),rfl⟩
theorem Gj (b:Bool):(bit b == 1)=b:=by cases b<;>rfl
theorem C8 {s:S} (h:s.right=true):cut s.word=s:=by
 have hb:=(bN s).1 h;clear h;obtain⟨st,ow,sm,br,ma,us,ge,ep,ve⟩:=s;have h1:=kZ br;have h2:=kZ ma;simp only at hb;obtain⟨⟨b1,b2,b3,b4,b5,b6,b7⟩,-⟩:=hb;unfold cut S.word;simp only;generalize hx:bit br=x at *;generalize hy:bit ma=y at *;have e1:(st+8 * ow+128 * sm+32768 * x+65536 * y+131072 * us+8388608 * ge+34359738368 * ep+140737488355328 * ve) / 32768 % 2=x:=ag
 have e2:(st+8 * ow+128 * sm+32768 * x+65536 * y+131072 * us+8388608 * ge+34359738368 * ep+140737488355328 * ve) / 65536 % 2=y:=ag
 rw[e1,e2,<- hx,<- hy,Gj,Gj,hx,hy]
 congr 1<;>omega
theorem CV {s:S} (h:s.right=true):dec s.word=some s:=by
 unfold dec;rw[if_pos ⟨Fb h,by rw[C8 h];exact h⟩,C8 h]
theorem E9:S.zero.right=true:=ax
theorem JD:S.zero.word=0:=ax
theorem Nc:dec 0=some S.zero:=by rw[<- JD];exact CV E9
def sj (w:Int):S:=⟨w % 8,w / 8 % 16,w / 128 % 256,w / 32768 % 2 == 1,w / 65536 % 2 == 1,w / 131072 % 64,w / 8388608 % 4096,w / 34359738368 % 4096,w / 140737488355328⟩
theorem Gg (w:Int):dec w=if 0<=w/\(sj w).right=true then some (sj w) else none:=by
 by_cases h:0<=w/\(sj w).right=true
 ·have hb:=((bN _).1 h.2)
  have h2:w / 140737488355328<=32767:=hb.1.2.2.2.2.2.2.2;have e:cut w=sj w:=by unfold cut sj;congr 1;omega
  unfold dec;rw[if_pos h,e,if_pos ⟨⟨h.1,ag⟩,h.2⟩]
 ·rw[if_neg h];unfold dec;rw[if_neg];rintro⟨⟨h1,h2⟩,h3⟩;have e:cut w=sj w:=by unfold cut sj;congr 1;omega
  exact h ⟨h1,by rw[<- e];exact h3⟩
end Slot
namespace Cl
open Go.RowKit Hp ah aj
theorem si (w:World) (c:Cf) (i:Nat) (hw:0<=c.workers/\c.workers<=8) (hi:(i:Int) < c.slots/\c.slots<=100):Calls prog 32 #[c.val,.i i] w fun e w'=>e=.returned (.i (3+2 * c.workers+i))/\Below w.heap.size w w':=by
 obtain⟨cw,cs,cst,jm,cu⟩:=c;dsimp only at hw hi
 go_enter func32,ntmps32
 simp only[Cf.val,Cf.cells];have n0:¬ ((i:Int) < 0):=ag
 have n1:¬ (cs<=(i:Int)):=ag
 have n2:decide (cs<=(i:Int))=false:=by simpa using n1
 have e2:wrap64 (3+cw+cw+i)=3+cw+cw+i:=by unfold wrap64;omega
 go_wp2_with fail;go_ret;exact⟨by(try simp)<;>omega,bZ.alloc aQ _⟩
theorem yg (w:World) (c:Cf) (hw:0<=c.workers/\c.workers<=8) (hs:1<=c.slots/\c.slots<=100):Calls prog 38 #[c.val] w fun e w'=>e=.returned (.i (3+2 * c.workers+c.slots))/\Below w.heap.size w w':=by
 obtain⟨n,hn⟩:∃ n:Nat,c.slots - 1=(n:Int):=⟨(c.slots - 1).toNat,ag⟩
 have hsl:=fun W=>si W c n hw ⟨ag,hs.2⟩
 have e0:wrap64 (c.slots - 1)=(n:Int):=by unfold wrap64;omega
 have e1:wrap64 (3+2 * c.workers+(n:Int)+1)=3+2 * c.workers+c.slots:=by unfold wrap64;omega
 obtain⟨cw,cs,cst,jm,cu⟩:=c;dsimp only at hw hs e0 e1 hn;simp only[Cf.val,Cf.cells]at hsl
 go_enter func38,ntmps38
 simp only[Cf.val,Cf.cells];have hA:Below w.heap.size w (w.alloc (.cells (Ab cw cs cst jm cu) 27)):=bZ.alloc aQ _;have e2:cs - 1=(n:Int):=hn;go_wp2_with fail
 try rw[hn]
 refine(hsl _).mono ?_;rintro e w5 ⟨rfl,hb5⟩;have hB:=hA.trans (hb5.mono hA.size);clear hsl hb5;go_wp2_with fail;go_ret;exact⟨by(try simp)<;>omega,hB⟩
end Cl
namespace Cl
open Go.RowKit Hp Slot ah ai
def uN (W:World) (g o:Nat) (l:List Int):Prop:=∀ k x,l[k]? =some x->W.cell? ⟨g,o+k,none⟩=some (.i x)
theorem uN.lt {W:World} {g o:Nat} {l:List Int} (h:uN W g o l) (h0:0 < l.length):g < W.heap.size:=
 dN (h 0 _ (List.getElem?_eq_getElem h0))
theorem uN.below {W W':World} {g o:Nat} {l:List Int} (h:uN W g o l) (hb:Below W.heap.size W W'):uN W' g o l:=fun k x hx=>Field.ak hb (h k x hx)
end Cl
namespace Slot
open Go.RowKit Hp ai
theorem dM (n:Int):n=0\/(n≠0/\(n == 0)=false):=by by_cases h:n=0<;>simp[h]
theorem qJ (w:World) (s:S) (h:s.right=true):Calls prog 60 #[s.val] w fun e w'=>e=.returned (.bool true)/\Below w.heap.size w w':=by
 have hi:=(bN s).1 h;clear h;obtain⟨st,ow,sm,br,ma,us,ge,ep,ve⟩:=s;simp only at hi;obtain⟨⟨Jv,Qk,Ql,Qm,Qn,Qo,Qp⟩,a1,a2,a3,a4,a5⟩:=hi;have hB:Below w.heap.size w (w.alloc (.cells (Aa st ow sm br ma us ge ep ve) 61)):=bZ.alloc aQ _;have Ao:=fun w=>dG w st 6
 rw[show fM st 6=true from decide_eq_true Jv]at Ao;have Ap:=fun w=>dG w ow 15
 rw[show fM ow 15=true from decide_eq_true Qk]at Ap;have Aq:=fun w=>dG w sm 255
 rw[show fM sm 255=true from decide_eq_true Ql]at Aq;have Ar:=fun w=>dG w us 63
 rw[show fM us 63=true from decide_eq_true Qm]at Ar;have Au:=fun w=>dG w ge 4095
 rw[show fM ge 4095=true from decide_eq_true Qn]at Au;have Av:=fun w=>dG w ep 4095
 rw[show fM ep 4095=true from decide_eq_true Qo]at Av;have Aw:=fun w=>dG w ve 32767
 rw[show fM ve 32767=true from decide_eq_true Qp]at Aw;have A1:=uH a1;have A2:=uH a2;have A3:=uH a3;have A4:=uH a4;have A5:=uH a5;clear a1 a2 a3 a4 a5
 go_enter func60,ntmps60
 simp only[S.val,S.cells];go_wp2_with fail;refine(Ao _).mono ?_;rintro e w' ⟨rfl,rfl⟩;go_wp2_with fail;refine(Ap _).mono ?_;rintro e w' ⟨rfl,rfl⟩;go_wp2_with fail;refine(Aq _).mono ?_;rintro e w' ⟨rfl,rfl⟩;go_wp2_with fail;refine(Ar _).mono ?_;rintro e w' ⟨rfl,rfl⟩;go_wp2_with fail;refine(Au _).mono ?_;rintro e w' ⟨rfl,rfl⟩;go_wp2_with fail;refine(Av _).mono ?_;rintro e w' ⟨rfl,rfl⟩;go_wp2_with fail;refine(Aw _).mono ?_;rintro e w' ⟨rfl,rfl⟩;clear Ao Ap Aq Ar Au Av Aw;obtain⟨st0,st1⟩:=Jv;obtain hst:st=0\/st=1\/st=2\/st=3\/st=4\/st=5\/st=6:=ag
 rcases hst with rfl | rfl | rfl | rfl | rfl | rfl | rfl
 rotate_left;rotate_left;rotate_left
 ·obtain rfl:ma=false:=by have:=A2.out;simpa using this
  obtain rfl:ep=0:=by have:=A4.out;omega
  (by_cases Qq:0 < sm)<;>cases br<;>(by_cases CY:0 < us)<;>(rcases dM ow with rfl | ⟨Jw,Jy⟩)<;>(go_wp2_with fail;go_ret;exact⟨Base.aN (by first | rfl | simp),hB⟩)
 rotate_left;rotate_left;rotate_left
 all_goals
  obtain rfl:sm=0:=by have:=A1.out;omega
 rotate_left;rotate_left
 ·obtain rfl:ep=0:=by have:=A4.out;omega
  cases br<;>(by_cases CY:0 < us)<;>cases ma<;>(rcases dM ow with rfl | ⟨Jw,Jy⟩)<;>(go_wp2_with fail;go_ret;exact⟨Base.aN (by first | rfl | simp),hB⟩)
 ·obtain rfl:ma=false:=by have:=A2.out;simpa using this
  obtain rfl:ep=0:=by have:=A4.out;omega
  cases br<;>(by_cases CY:0 < us)<;>(rcases dM ow with rfl | ⟨Jw,Jy⟩)<;>(go_wp2_with fail;go_ret;exact⟨Base.aN (by first | rfl | simp),hB⟩)
 rotate_left;rotate_left
 all_goals
  obtain⟨rfl,rfl⟩:br=false/\us=0:=by have:=A3.out;simpa using this
  obtain rfl:ma=false:=by have:=A2.out;simpa using this
 ·obtain rfl:ep=0:=by have:=A4.out;omega
  obtain rfl:ow=0:=by have:=A5.out;omega
  (go_wp2_with fail;go_ret;exact⟨Base.aN (by first | rfl | simp),hB⟩)
 ·obtain rfl:ep=0:=by have:=A4.out;omega
  (rcases dM ow with rfl | ⟨Jw,Jy⟩)<;>(go_wp2_with fail;go_ret;exact⟨Base.aN (by first | rfl | simp),hB⟩)
 ·obtain rfl:ep=0:=by have:=A4.out;omega
  (rcases dM ow with rfl | ⟨Jw,Jy⟩)<;>(go_wp2_with fail;go_ret;exact⟨Base.aN (by first | rfl | simp),hB⟩)
 ·obtain rfl:ow=0:=by have:=A5.out;omega
  (rcases dM ep with rfl | ⟨Ng,Nh⟩)<;>(go_wp2_with fail;go_ret;exact⟨Base.aN (by first | rfl | simp),hB⟩)
theorem rZ (w:World) (s:S) (h:s.right=false):Calls prog 60 #[s.val] w fun e w'=>e=.returned (.bool false)/\Below w.heap.size w w':=by
 have hi:¬ _:=fun e=>Bool.false_ne_true (h.symm.trans ((bN s).2 e))
 clear h;obtain⟨st,ow,sm,br,ma,us,ge,ep,ve⟩:=s;simp only at hi;have hB:Below w.heap.size w (w.alloc (.cells (Aa st ow sm br ma us ge ep ve) 61)):=bZ.alloc aQ _;have Ao:=fun w=>dG w st 6
 have Ap:=fun w=>dG w ow 15
 have Aq:=fun w=>dG w sm 255
 have Ar:=fun w=>dG w us 63
 have Au:=fun w=>dG w ge 4095
 have Av:=fun w=>dG w ep 4095
 have Aw:=fun w=>dG w ve 32767
 have HI:=uH hi;clear hi
 go_enter func60,ntmps60
 simp only[S.val,S.cells];go_wp2_with fail
 by_cases Jv:0<=st/\st<=6
 rotate_left
 ·rw[show fM st 6=false from decide_eq_false Jv]at Ao;refine(Ao _).mono ?_;rintro e w' ⟨rfl,rfl⟩
  (go_wp2_with fail;go_ret;exact⟨rfl,hB⟩)
 rw[show fM st 6=true from decide_eq_true Jv]at Ao;refine(Ao _).mono ?_;rintro e w' ⟨rfl,rfl⟩;go_wp2_with fail
 by_cases Qk:0<=ow/\ow<=15
 rotate_left
 ·rw[show fM ow 15=false from decide_eq_false Qk]at Ap;refine(Ap _).mono ?_;rintro e w' ⟨rfl,rfl⟩
  (go_wp2_with fail;go_ret;exact⟨rfl,hB⟩)
 rw[show fM ow 15=true from decide_eq_true Qk]at Ap;refine(Ap _).mono ?_;rintro e w' ⟨rfl,rfl⟩;go_wp2_with fail
 by_cases Ql:0<=sm/\sm<=255
 rotate_left
 ·rw[show fM sm 255=false from decide_eq_false Ql]at Aq;refine(Aq _).mono ?_;rintro e w' ⟨rfl,rfl⟩
  (go_wp2_with fail;go_ret;exact⟨rfl,hB⟩)
 rw[show fM sm 255=true from decide_eq_true Ql]at Aq;refine(Aq _).mono ?_;rintro e w' ⟨rfl,rfl⟩;go_wp2_with fail
 by_cases Qm:0<=us/\us<=63
 rotate_left
 ·rw[show fM us 63=false from decide_eq_false Qm]at Ar;refine(Ar _).mono ?_;rintro e w' ⟨rfl,rfl⟩
  (go_wp2_with fail;go_ret;exact⟨rfl,hB⟩)
 rw[show fM us 63=true from decide_eq_true Qm]at Ar;refine(Ar _).mono ?_;rintro e w' ⟨rfl,rfl⟩;go_wp2_with fail
 by_cases Qn:0<=ge/\ge<=4095
 rotate_left
 ·rw[show fM ge 4095=false from decide_eq_false Qn]at Au;refine(Au _).mono ?_;rintro e w' ⟨rfl,rfl⟩
  (go_wp2_with fail;go_ret;exact⟨rfl,hB⟩)
 rw[show fM ge 4095=true from decide_eq_true Qn]at Au;refine(Au _).mono ?_;rintro e w' ⟨rfl,rfl⟩;go_wp2_with fail
 by_cases Qo:0<=ep/\ep<=4095
 rotate_left
 ·rw[show fM ep 4095=false from decide_eq_false Qo]at Av;refine(Av _).mono ?_;rintro e w' ⟨rfl,rfl⟩
  (go_wp2_with fail;go_ret;exact⟨rfl,hB⟩)
 rw[show fM ep 4095=true from decide_eq_true Qo]at Av;refine(Av _).mono ?_;rintro e w' ⟨rfl,rfl⟩;go_wp2_with fail
 by_cases Qp:0<=ve/\ve<=32767
 rotate_left
 ·rw[show fM ve 32767=false from decide_eq_false Qp]at Aw;refine(Aw _).mono ?_;rintro e w' ⟨rfl,rfl⟩
  (go_wp2_with fail;go_ret;exact⟨rfl,hB⟩)
 rw[show fM ve 32767=true from decide_eq_true Qp]at Aw;refine(Aw _).mono ?_;rintro e w' ⟨rfl,rfl⟩;clear Ao Ap Aq Ar Au Av Aw;obtain⟨st0,st1⟩:=Jv;obtain hst:st=0\/st=1\/st=2\/st=3\/st=4\/st=5\/st=6:=ag
 rcases hst with rfl | rfl | rfl | rfl | rfl | rfl | rfl
 rotate_left;rotate_left
 ·by_cases Qq:0 < sm
  ·(go_wp2_with fail;go_ret;exact⟨rfl,hB⟩)
  obtain rfl:sm=0:=ag
  rcases dM ep with rfl | ⟨Ng,Nh⟩
  rotate_left
  ·cases br<;>(by_cases CY:0 < us)<;>cases ma<;>(go_wp2_with fail;go_ret;exact⟨rfl,hB⟩)
  exact absurd (by simp;omega) HI.out
 ·cases ma;rotate_left
  ·(by_cases Qq:0 < sm)<;>cases br<;>(by_cases CY:0 < us)<;>(go_wp2_with fail;go_ret;exact⟨rfl,hB⟩)
  rcases dM ep with rfl | ⟨Ng,Nh⟩
  rotate_left
  ·(by_cases Qq:0 < sm)<;>cases br<;>(by_cases CY:0 < us)<;>(go_wp2_with fail;go_ret;exact⟨rfl,hB⟩)
  exact absurd (by simp;omega) HI.out
 rotate_left;rotate_left;rotate_left
 all_goals
  by_cases Qq:0 < sm
  ·(go_wp2_with fail;go_ret;exact⟨rfl,hB⟩)
  obtain rfl:sm=0:=ag
 rotate_left;rotate_left
 ·cases ma;rotate_left
  ·cases br<;>(by_cases CY:0 < us)<;>(go_wp2_with fail;go_ret;exact⟨rfl,hB⟩)
  rcases dM ep with rfl | ⟨Ng,Nh⟩
  rotate_left
  ·cases br<;>(by_cases CY:0 < us)<;>(go_wp2_with fail;go_ret;exact⟨rfl,hB⟩)
  exact absurd (by simp;omega) HI.out
 rotate_left;rotate_left
 all_goals
  cases br;rotate_left
  ·(go_wp2_with fail;go_ret;exact⟨rfl,hB⟩)
  by_cases CY:0 < us
  ·(go_wp2_with fail;go_ret;exact⟨rfl,hB⟩)
  obtain rfl:us=0:=ag
  cases ma;rotate_left
  ·(go_wp2_with fail;go_ret;exact⟨rfl,hB⟩)
 rotate_left;rotate_left;rotate_left
 ·rcases dM ow with rfl | ⟨Jw,Jy⟩
  ·exact absurd (by simp;omega) HI.out
  rcases dM ep with rfl | ⟨Ng,Nh⟩
  ·(go_wp2_with fail;go_ret;exact⟨rfl,hB⟩)
  (go_wp2_with fail;go_ret;exact⟨rfl,hB⟩)
 all_goals
  rcases dM ep with rfl | ⟨Ng,Nh⟩
  rotate_left
  ·(go_wp2_with fail;go_ret;exact⟨rfl,hB⟩)
 ·rcases dM ow with rfl | ⟨Jw,Jy⟩
  ·exact absurd (by simp;omega) HI.out
  (go_wp2_with fail;go_ret;exact⟨rfl,hB⟩)
 ·exact absurd (by simp;omega) HI.out
 ·exact absurd (by simp;omega) HI.out
theorem qI (w:World) (s:S):Calls prog 60 #[s.val] w fun e w'=>e=.returned (.bool s.right)/\Below w.heap.size w w':=by
 cases h:s.right
 ·exact rZ w s h
 ·exact qJ w s h
end Slot
namespace Cl
open Go.RowKit Hp Slot ah ai
def Am (W:World) (a:Option Addr) (l:List S):Prop:=∀ (k:Nat) s,l[k]? =some s->∃ g o,a=some ⟨g,o,none⟩/\∀ j v,s.cells[j]? =some v->W.cell? ⟨g,o+k * 9+j,none⟩=some v
end Cl
namespace Slot
open Go.RowKit Hp ah ai
theorem qd (n d:Int) (h0:0<=n) (h1:n < 9223372036854775808) (hd:0 < d):wrap64 (n.tdiv d)=n / d:=by
 rw[Int.tdiv_eq_ediv_of_nonneg h0];have a:0<=n / d:=Int.ediv_nonneg h0 ag;have b:n / d<=n:=Int.ediv_le_self d h0;unfold wrap64;omega
theorem qm (n d m:Int) (h0:0<=n) (h1:n < 9223372036854775808) (hd:0 < d):(wrap64 (n.tdiv d)).tmod m=n / d % m:=by
 rw[qd n d h0 h1 hd,Int.tmod_eq_emod_of_nonneg (Int.ediv_nonneg h0 ag)]
theorem xC (w:World) (n:Int) (h1:n < 9223372036854775808):Calls prog 31 #[.i n] w fun e w'=>e=.returned (.tuple #[((dec n).getD S.zero).val,.bool (dec n).isSome])/\Below w.heap.size w w':=by
 have hA:Below w.heap.size w (w.alloc (.cells av 61)):=bZ.alloc aQ _;have hz:af (w.alloc (.cells av 61)) w.heap.size av 61:=heap_alloc_new w _
 by_cases h0:0<=n
 rotate_left
 ·have hd:dec n=none:=by rw[Gg,if_neg (fun h=>h0 h.1)]
  rw[hd];have hlt:n < 0:=ag
  clear hd h0 h1
  go_enter func31,ntmps31
  go_upto_region 2 with(fail);refine wp_region_lit ?_;refine gl (.agg Zs) ?_;refine uR hz Zs 61 (.tmp 2) (.tmp 8) ?_;go_wp2_with fail;refine jK w.heap.size (hz.set Zs) underlying61 ?_;exact⟨rfl,bX hA aQ _⟩
 have Gr:=fun w=>qI w (sj n)
 have hd:dec n=if (sj n).right=true then some (sj n) else none:=by
  rw[Gg]
  by_cases e:(sj n).right=true
  ·rw[if_pos ⟨h0,e⟩,if_pos e]
  ·rw[if_neg (fun h=>e h.2),if_neg e]
 rw[hd];have hlt:¬ n < 0:=ag
 clear hd;have XP:(wrap64 (n.tdiv 8)).tmod 16=n / 8 % 16:=qm n 8 16 h0 h1 ag;have Jz:(wrap64 (n.tdiv 128)).tmod 256=n / 128 % 256:=qm n 128 256 h0 h1 ag;have aae:(wrap64 (n.tdiv 32768)).tmod 2=n / 32768 % 2:=qm n 32768 2 h0 h1 ag;have aaf:(wrap64 (n.tdiv 65536)).tmod 2=n / 65536 % 2:=qm n 65536 2 h0 h1 ag;have UK:(wrap64 (n.tdiv 131072)).tmod 64=n / 131072 % 64:=qm n 131072 64 h0 h1 ag;have XQ:(wrap64 (n.tdiv 8388608)).tmod 4096=n / 8388608 % 4096:=qm n 8388608 4096 h0 h1 ag;have Qr:(wrap64 (n.tdiv 34359738368)).tmod 4096=n / 34359738368 % 4096:=qm n 34359738368 4096 h0 h1 ag;have f_v:wrap64 (n.tdiv 140737488355328)=n / 140737488355328:=qd n _ h0 h1 ag
 have hcs:(sj n).cells=[.i (n % 8),.i (n / 8 % 16),.i (n / 128 % 256),.bool (n / 32768 % 2 == 1),.bool (n / 65536 % 2 == 1),.i (n / 131072 % 64),.i (n / 8388608 % 4096),.i (n / 34359738368 % 4096),.i (n / 140737488355328)].toArray:=rfl;generalize (sj n).right=r at *;generalize sj n=c at *;have HC:=uH hcs;clear hcs
 go_enter func31,ntmps31
 go_wp2_with fail;rw[<- HC.out];have hb2:Below w.heap.size w ((w.alloc (.cells av 61)).alloc (.cells c.cells 61)):=hA.alloc hA.size _;have hz2:af ((w.alloc (.cells av 61)).alloc (.cells c.cells 61)) w.heap.size av 61:=af.below hz (bZ.alloc aQ _)
 have hs2:af ((w.alloc (.cells av 61)).alloc (.cells c.cells 61)) (w.heap.size+1) c.cells 61:=by
  have h:=heap_alloc_new (w.alloc (.cells av 61)) (.cells c.cells 61)
  simpa [af] using h
 generalize ((w.alloc (.cells av 61)).alloc (.cells c.cells 61))=wa at *;refine(Gr _).mono ?_;rintro e w5 ⟨rfl,hb5⟩;have hB:=hb2.trans (hb5.mono hb2.size);have JE:=af.below hz2 hb5;have hs5:=af.below hs2 hb5;clear Gr hb5 hz2 hs2 hb2 hz hA XP Jz aae aaf UK XQ Qr f_v h0 h1;cases r
 ·go_upto_region 6 with(fail);refine wp_region_lit ?_;refine gl (.agg Zs) ?_;refine uR JE Zs 61 (.tmp 2) (.tmp 41) ?_;go_wp2_with fail;refine jK w.heap.size (JE.set Zs) underlying61 ?_;exact⟨rfl,bX hB aQ _⟩
 ·go_upto_region 7 with(fail);refine wp_region_lit ?_;refine grow hs5 61 (.tmp 4) underlying61 (ay ?_)
  refine uR JE c.cells 61 (.tmp 2) (.tmp 42) ?_;go_wp2_with fail;refine jK w.heap.size (JE.set c.cells) underlying61 ?_;exact⟨rfl,bX hB aQ _⟩
end Slot
namespace Cl
open Go.RowKit Hp Slot ah ai
def oz (l:List S):List Value:=(l.map fun s=>s.cells.toList).flatten
theorem JA (l:List S) (k:Nat) (s:S) (h:l[k]? =some s) (j:Nat) (v:Value) (hv:s.cells[j]? =some v):(oz l)[k * 9+j]? =some v:=by
 induction l generalizing k with
 | nil=>simp at h
 | cons x l ih=>
  have e:oz (x :: l)=x.cells.toList ++ oz l:=rfl;have hx:x.cells.toList.length=9:=rfl;have hj:j < 9:=by have:=(Array.getElem?_eq_some_iff.1 hv).1;simpa [S.cells] using this
  cases k with
  | zero=>
   simp at h;subst h;rw[e,List.getElem?_append_left ag,<- hv];simp
  | succ k=>
   rw[e,List.getElem?_append_right ag,hx,show(k+1) * 9+j - 9=k * 9+j by omega];exact ih k (by simpa using h)
theorem JB (l:List S) (s:S):oz (l ++ [s])=oz l ++ s.cells.toList:=by simp[oz]
theorem Gh {ws:List Int} {i:Nat} (h:i < ws.length):ws[i]? =some (Tk.rd ws i):=by
 unfold Tk.rd;rw[List.getD_eq_getElem?_getD,List.getElem?_eq_getElem h];rfl
def CX (x:Int):S:=(dec x).getD S.zero
def slotsOf (c:aj.Cf) (ws:List Int):List S:=(List.range (Tk.ns c)).map fun k=>CX (Tk.rd ws (Tk.sc c k))
theorem uP (c:aj.Cf) (ws:List Int):(slotsOf c ws).length=Tk.ns c:=by simp[slotsOf]
theorem uO (c:aj.Cf) (ws:List Int) {k:Nat} (h:k < Tk.ns c):(slotsOf c ws)[k]? =some (CX (Tk.rd ws (Tk.sc c k))):=by simp[slotsOf,h]
theorem XR (w:World) (y:S):∀ j u,y.cells.toList[j]? =some u->(w.alloc (.cells y.cells 61)).cell? ((⟨w.heap.size,0,none⟩:Addr).add j)=some u:=by
 intro j u hu;have h:=af.cell (af.new w y.cells 61) j;have he:(⟨w.heap.size,0,none⟩:Addr).add j=⟨w.heap.size,j,none⟩:=by by_cases h0:j=0<;>simp[Addr.add,h0]
 rw[he,h]
 simpa using hu
theorem XT (y:S):∀ u ∈ y.cells.toList,u.oneCell'=true:=by
 intro u hu;simp[S.cells]at hu
 rcases hu with rfl | rfl | rfl | rfl | rfl | rfl | rfl | rfl | rfl<;>rfl
theorem yT:∃ i0,prog.info? 61=some i0/\i0.zero=some S.zero.val/\i0.size=9/\i0.bytes=64:=by
 have h:(prog.info? 61).map (fun i=>(i.zero,i.size,i.bytes))=some (some S.zero.val,9,64):=ax
 cases hi:prog.info? 61 with
 | none=>rw[hi]at h;cases h
 | some i=>
  rw[hi]at h;simp only[Option.map_some,Option.some.injEq,Prod.mk.injEq]at h;exact⟨i,rfl,h.1,h.2.1,h.2.2⟩
theorem UL (y:S):Instr.fill (fun i=>some (i * 9,9)) ((Array.range (1 * 9)).map (S.zero.val.cells[· % S.zero.val.cells.size]!)) [(0,y.val)]=some y.cells:=ax
theorem Qs (w:World) (y:S):(Instr.buildSlice 58 1 #[(0,.agg y.cells)]).run prog w=.ok (.slice (some ⟨w.heap.size,0,none⟩) 1 1) (w.alloc (.cells y.cells 61)):=by
 obtain⟨ie,hi,hz,hs,hb⟩:=yT;refine run_buildSlice w 58 61 1 #[(0,.agg y.cells)] y.cells ie S.zero.val underlying58 hi hz (by rw[hs];omega) (by rw[hs];omega) ?_;rw[hs];exact UL y
theorem xD {ops:Array Oper} {rest:List Oper} {o:Oper} {a:Act} {w:World} {Q:Exit->Act->World->Prop} (hg:o.guard=none) (x:Operand) (ho:o.op=.buildSlice 58 1 #[(0,x)]) (y:S) (hx:a.eval x=.agg y.cells)
  (h:wpList prog ops Q rest (a.put o.dst (.slice (some ⟨w.heap.size,0,none⟩) 1 1)) (w.alloc (.cells y.cells 61))):wpList prog ops Q (o :: rest) a w:=
 wpList_plain hg fun _ hK=>by
  have e:((#[(0,x)]:Array (Nat×Operand)).map fun(i,x)=>(i,a.eval x))=#[(0,.agg y.cells)]:=by simp[hx]
  unfold Oper.wp execOp;simp only[ho];rw[e];simp only[Sem.run_bind,Qs w y,Result.andThen_ok];exact hK _ _ h
def JC (W:World) (ss:List S) (e:Ending) (W':World):Prop:=
 ∃ a c,e=.returned (.slice a ss.length c)/\Am W' a ss/\Below W.heap.size W W'
theorem CZ {W:World} {a:Option Addr} {n c:Nat} {l:List S} (h:bR W (.slice a n c) n 9 (oz l)) (hn:l.length=n):Am W a l:=by
 intro k s hs;have hk:k < l.length:=(List.getElem?_eq_some_iff.1 hs).1
 rcases h.2 with⟨e,h0⟩ | ⟨g,off,cap,e,h1,h2,h3,h4,h5,h6⟩
 ·omega
 ·cases e;exact⟨g,off,rfl,fun j v hv=>by rw[Nat.add_assoc];exact h6 _ _ (JA l k s hs j v hv)⟩
theorem yf (W:World) (c:aj.Cf) (hr:c.right=true) (g o cap:Nat) (ws:List Int) (hl:ws.length=Tk.sc c (Tk.ns c)) (hs:uN W g o ws) (hw:∀ x ∈ ws,x < 9223372036854775808):
  Calls prog 28 #[c.val,.slice (some ⟨g,o,none⟩) ws.length cap] W (JC W (slotsOf c ws)):=by
 obtain⟨⟨a0,a1⟩,b0,b1⟩:=uh hr;have hce:=fun w=>yg w c ⟨ag,a1⟩ ⟨b0,ag⟩
 have hn:3+2 * c.workers+c.slots=(ws.length:Int):=by rw[hl];unfold Tk.sc Tk.ns;omega
 simp only[hn]at hce
 have hsl:∀ k,k < Tk.ns c->∃ j x,j < ws.length/\ws[j]? =some x/\CX x=CX (Tk.rd ws (Tk.sc c k))/\x < 9223372036854775808/\∀ w,Calls prog 32 #[c.val,.i k] w fun e w'=>e=.returned (.i (j:Nat))/\Below w.heap.size w w':=by
  intro k hk;have hj:Tk.sc c k < ws.length:=by rw[hl];unfold Tk.sc Tk.ns at *;omega
  refine⟨Tk.sc c k,Tk.rd ws (Tk.sc c k),hj,Gh hj,rfl,hw _ (List.mem_of_getElem? (Gh hj)),fun w=>?_⟩;have h:=si w c k ⟨ag,a1⟩ ⟨by unfold Tk.ns at hk;omega,ag⟩
  rwa [show 3+2 * c.workers+(k:Int)=((Tk.sc c k:Nat):Int) by unfold Tk.sc;omega]at h
 have hdl:=uP c ws;have hdg:=fun k (h:k < Tk.ns c)=>uO c ws h
 have hnc:(Tk.ns c:Int)=c.slots:=by unfold Tk.ns;omega
 have hnl:1<=ws.length/\ws.length<=4096:=by rw[hl];unfold Tk.sc Tk.ns;omega
 have hds:∀ k,k < Tk.ns c->∃ j x,j < ws.length/\ws[j]? =some x/\(slotsOf c ws)[k]? =some (CX x)/\x < 9223372036854775808/\∀ w,Calls prog 32 #[c.val,.i k] w fun e w'=>e=.returned (.i (j:Nat))/\Below w.heap.size w w':=by
  intro k hk;obtain⟨j,x,h1,h2,h3,h4,h5⟩:=hsl k hk;exact⟨j,x,h1,h2,by rw[hdg k hk,h3],h4,h5⟩
 clear hsl hdg hw;generalize slotsOf c ws=ds at *;generalize hN:Tk.ns c=N at *;clear hl hr hN;obtain⟨i0,hi,hz0,hz1,hz2⟩:=yT;have HI:=uH hi;clear hi;obtain⟨cw,cs,cst,jm,cu⟩:=c;simp only[aj.Cf.val,aj.Cf.cells]at hce hds;dsimp only at *;subst hnc;have hA:Below W.heap.size W (W.alloc (.cells (Ab cw N cst jm cu) 27)):=bZ.alloc aQ _;have hrow:af (W.alloc (.cells (Ab cw N cst jm cu) 27)) W.heap.size (Ab cw N cst jm cu) 27:=af.new _ _ _;have hgl:g < W.heap.size:=hs.lt ag;have hs1:=hs.below hA;have Hds:=uH hds;have HA:=uH hA;have HR:=uH hrow;have HS:=uH hs1;clear hs hA hrow hs1 hds
 go_enter func28,ntmps28
 simp only[aj.Cf.val,aj.Cf.cells];go_wp2_with fail;generalize (W.alloc (.cells (Ab cw N cst jm cu) 27))=w0 at *
 go_loopw [5,6] (fun v i wr=>∃ k:Nat,k<=N/\i=.i k/\RowKit.Hid (bR wr v k 9 (oz (ds.take k)))/\RowKit.Hid (∀ x,Fp v x->W.heap.size+1<=x)/\RowKit.Hid (Below W.heap.size W wr)/\RowKit.Hid (af wr W.heap.size (Ab cw N cst jm cu) 27)/\RowKit.Hid (uN wr g o ws)) (fun v i _=>N - (intOf i).toNat)
 case atStart=>exact⟨0,ag,rfl,uH (by rw[List.take_zero];exact fG _ 9),fun x h=>absurd h (dP x),HA,HR,HS⟩
 case round=>
  obtain⟨k,hk,rfl,hown,hfp,hB,hrw,hI⟩:=hrel;obtain⟨a,cp,rfl⟩:=hown.out.form;clear HA HR HS;have c0:=cC cw (af.cell hrw.out 0);have c1:=cC N (af.cell hrw.out 1);have c2:=cC cst (af.cell hrw.out 2);have c3:=cC jm (af.cell hrw.out 3);have c4:=cC cu (af.cell hrw.out 4)
  by_cases hlt:k < N
  ·obtain⟨j,x,j1,j2,j3,j4,j5⟩:=Hds.out k hlt;have k1:(k:Int) < N:=ag
   have kl:k<=100:=ag
   have j6:(0:Int)<=(j:Int):=ag
   have j7:(j:Int) < (ws.length:Int):=ag
   have hx:=fun w (h:Below wr.heap.size wr w)=>Field.ak h (hI.out j x j2)
   have HX:=uH hx;have HJ3:=uH j3;clear j2 j3 hx;go_wp2_with fail;refine(hce _).mono ?_;rintro e w1 ⟨rfl,hb1⟩;have d0:=Field.ak hb1 c0;have d1:=Field.ak hb1 c1;have d2:=Field.ak hb1 c2;have d3:=Field.ak hb1 c3;have d4:=Field.ak hb1 c4;clear c0 c1 c2 c3 c4;go_wp2_with fail;refine(j5 _).mono ?_;rintro e w2 ⟨rfl,hb2⟩;have hb2:=hb1.trans (hb2.mono hb1.size);have ex:=HX.out w2 hb2;have hdc:=xC w2 x j4;clear d0 d1 d2 d3 d4 hb1;go_wp2_with fail;refine hdc.mono ?_;rintro e w3 ⟨rfl,hb3⟩;have hb3:=hb2.trans (hb3.mono hb2.size);have hdz:(dec x).getD S.zero=CX x:=rfl;rw[hdz];generalize (dec x).isSome=isd at *;generalize CX x=y at *;clear hdc ex hb2 hdz;dsimp only;go_step;refine gl (.tuple #[y.val,.bool isd]) ?_;refine gl y.val ?_;refine gl (.bool isd) ?_;refine dU (ob:=.cells av 61) (Z:=av) (cs:=y.cells) (t:=61) 61 (.tmp 7) (.tmp 30) rfl ?_
   refine gl (.bool isd) (ay ?_)
   rw[aG];have hb4:Below wr.heap.size wr (w3.alloc (.cells y.cells 61)):=hb3.alloc hb3.size _;have hy:af (w3.alloc (.cells y.cells 61)) w3.heap.size y.cells 61:=heap_alloc_new w3 _;have hs3:=hb3.size;clear hb3;generalize (w3.alloc (.cells y.cells 61))=w4 at *;generalize w3.heap.size=yb at *;have Rv:=(hown.out.stable hb4.size (fun x hx=>hb4.block x (hown.out.lt hx)))
   have hi:=HI.out;go_upto_region 6 with(fail);refine wp_region_lit ?_;refine gl (.slice a k cp) ?_;refine grow hy 61 (.tmp 7) underlying61 (ay ?_)
   refine xD rfl (.tmp 33) rfl y rfl (ay ?_)
   refine Hp.lD _ rfl (.tmp 32) (.tmp 34) 58 rfl 61 i0 S.zero.val 9 64 underlying58 hi hz0 hz1 hz2 rfl aT (.slice a k cp) k (oz (ds.take k)) rfl (Rv.alloc _) ⟨w4.heap.size,0,none⟩ 1 1 y.cells.toList rfl rfl (XR w4 y) (XT y) ?c3 ?c4 ?_
   case c3=>unfold maxLen;omega
   case c4=>omega
   intro a' cn w9 hown' XU hch;have hbn:Below w4.heap.size w4 (w4.alloc (.cells y.cells 61)):=bZ.alloc aQ _;have dm:Below (W.heap.size+1) wr w9:=(hb4.trans (hbn.mono hb4.size)).mono (by have:=(hrw.out).lt;omega) |>.trans (hch.below (B:=W.heap.size+1) (by have:=(hrw.out).lt;have:=hb4.size;have:=hbn.size;omega) (fun q hq=>hfp.out q hq))
   have hx9:oz (ds.take k) ++ y.cells.toList=oz (ds.take (k+1)):=by rw[<- JB,List.take_add_one,HJ3.out];rfl
   rw[hx9]at hown';have U2:=uH (hB.out.trans (dm.mono (Nat.le_succ _)));have HO9:=uH hown';have HR9:=uH (show af w9 W.heap.size (Ab cw N cst jm cu) 27 from(dm.block W.heap.size (Nat.lt_succ_self _)).trans hrw.out);have HI9:=uH (show uN w9 g o ws from fun q z hz=>(World.cell?_of_block (w:=wr) (dm.block g ag)).trans (hI.out q z hz));have HF9:=uH (show ∀ x,Fp (.slice a' (k+1) cn) x->W.heap.size+1<=x from fun q hq=>(XU q hq).elim (hfp.out q) (fun h=>by have:=(hrw.out).lt;have:=hb4.size;have:=hbn.size;omega));clear dm hown' hx9 hbn hb4 Rv hch XU hy hi hB hrw hI hfp hown HX HJ3;dsimp only;go_wp2_with fail
   go_roundw
   case rel=>exact⟨k+1,ag,by go_num,HO9,HF9,U2,HR9,HI9⟩
   case measure=>simp[intOf];omega
  ·have hke:k=N:=ag
   subst hke;have k1:¬ (k:Int) < k:=ag
   go_wp2_with fail;go_ret;have ho:=hown.out;have hl:ds.take k=ds:=List.take_of_length_le ag;rw[hl]at ho;exact⟨a,cp,by rw[hdl];rfl,CZ ho hdl,hB.out⟩
end Cl
namespace Mc
open Go.RowKit Hp Slot ah ai Tk
section
variable {c:aj.Cf} {ws:List Int} {who:Nat} {e:Eff}
def U8 (c:aj.Cf) (ws:List Int) (e:Eff) (j:Nat):Int:=
 match e with
 | .slot i d own more=>if i=j then (bn (rd ws (sc c j)) d own more).getD (rd ws (sc c j)) else rd ws (sc c j)
 | _=>rd ws (sc c j)
theorem UF (hl:ws.length=sc c (ns c)) (hw:who < c.workers.toNat) (he:dB c e) {j:Nat} (hj:j < ns c):rd (e.run c who ws) (sc c j)=U8 c ws e j:=by
 rw[fI]at hl
 cases e with
 | none=>rfl
 | slot i d own more=>
  have hi:i < ns c:=he;simp only[Eff.run,U8]
  by_cases hij:i=j
  ·subst hij;rw[if_pos rfl]
   cases bn (rd ws (sc c i)) d own more with
   | none=>rfl
   | some nw=>exact Ty.fq (by unfold sc;omega)
  ·rw[if_neg hij]
   cases bn (rd ws (sc c i)) d own more with
   | none=>rfl
   | some nw=>exact Ty.aP (by unfold sc;omega)
 | aJ=>exact Ty.aP (by unfold sc;omega)
 | pin x=>exact Ty.aP (by unfold sc Ty.pc;omega)
 | grant o x=>exact Ty.aP (by have:=he.1;unfold sc Ty.gc;omega)
 | line q=>exact Ty.aP (by unfold sc;omega)
 | closed x=>exact Ty.aP (by unfold sc;omega)
def U9 (ws:List Int) (e:Eff):Int:=match e with | .aJ=>wrap64 (rd ws 2+1) | _=>rd ws 2
theorem Aj (hl:ws.length=sc c (ns c)):rd (e.run c who ws) 2=U9 ws e:=by
 rw[fI]at hl
 cases e with
 | none=>rfl
 | slot i d own more=>
  simp only[Eff.run,U9]
  split
  ·exact Ty.aP (by unfold sc;omega)
  ·rfl
 | aJ=>exact Ty.fq ag
 | pin x=>exact Ty.aP (by unfold Ty.pc;omega)
 | grant o x=>exact Ty.aP (by unfold Ty.gc;omega)
 | line q=>exact Ty.aP ag
 | closed x=>exact Ty.aP ag
def XI (ws:List Int) (who:Nat) (e:Eff) (o:Nat):Int:=match e with | .pin x=>if who=o then x else rd ws (Ty.pc o) | _=>rd ws (Ty.pc o)
theorem M0 (hl:ws.length=sc c (ns c)) {o:Nat} (ho:o < c.workers.toNat):rd (e.run c who ws) (Ty.pc o)=XI ws who e o:=by
 rw[fI]at hl
 cases e with
 | none=>rfl
 | slot i d own more=>
  simp only[Eff.run,XI]
  split
  ·exact Ty.aP (by unfold sc Ty.pc;omega)
  ·rfl
 | aJ=>exact Ty.aP (by unfold Ty.pc;omega)
 | pin x=>
  simp only[Eff.run,XI]
  by_cases h:who=o
  ·subst h;rw[if_pos rfl];exact Ty.fq (by unfold Ty.pc;omega)
  ·rw[if_neg h];exact Ty.aP (by unfold Ty.pc;omega)
 | grant g x=>exact Ty.aP (by unfold Ty.gc Ty.pc;omega)
 | line q=>exact Ty.aP (by unfold Ty.pc;omega)
 | closed x=>exact Ty.aP (by unfold Ty.pc;omega)
def clE (ws:List Int) (e:Eff):Int:=match e with | .closed x=>x | _=>rd ws 0
theorem M3 (hl:ws.length=sc c (ns c)):rd (e.run c who ws) 0=clE ws e:=by
 rw[fI]at hl
 cases e with
 | none=>rfl
 | slot i d own more=>
  simp only[Eff.run,clE]
  split
  ·exact Ty.aP (by unfold sc;omega)
  ·rfl
 | aJ=>exact Ty.aP ag
 | pin x=>exact Ty.aP (by unfold Ty.pc;omega)
 | grant o x=>exact Ty.aP (by unfold Ty.gc;omega)
 | line q=>exact Ty.aP ag
 | closed x=>exact Ty.fq ag
end
theorem yS {d:Nat} {s t:S} {own more:Int} (h:bC s d own more=some t):xm d:=by
 obtain⟨-,-,hb,-⟩:=zT h;unfold xm
 by_cases h18:d < 18
 ·have hcases:d=0\/d=1\/d=2\/d=3\/d=4\/d=5\/d=6\/d=7\/d=8\/d=9\/d=10\/d=11\/d=12\/d=13\/d=14\/d=15\/d=16\/d=17:=ag
  unfold Mod.Done;omega
 ·exfalso
  have e:gG d s own more=(s,false):=by
   unfold gG
   split<;>first | omega | skip
   unfold Mod.act
   split<;>first | omega | rfl
  rw[e]at hb;cases hb
theorem M7 {w:Int} {d:Nat} {own more nw:Int} (h:bn w d own more=some nw):∃ s t,dec w=some s/\bC s d own more=some t/\nw=t.word/\dec nw=some t:=by
 unfold bn at h
 cases hd:dec w with
 | none=>rw[hd]at h;cases h
 | some s=>
  rw[hd]at h;simp only[Option.bind_some,Option.map_eq_some_iff]at h;obtain⟨t,h1,h2⟩:=h;exact⟨s,t,rfl,h1,h2.symm,by rw[<- h2];exact CV (fC (yS h1) h1)⟩
def Qd (c:aj.Cf) (P:S->Prop) (ws:List Int):Prop:=∀ i,i < ns c->∃ s,dec (rd ws (sc c i))=some s/\P s
section
variable {c:aj.Cf} {ws:List Int} {who:Nat} {e:Eff}
theorem Qd.mono {P Q:S->Prop} (h:Qd c P ws) (hPQ:∀ s,P s->Q s):Qd c Q ws:=fun i hi=>by
 obtain⟨s,h1,h2⟩:=h i hi;exact⟨s,h1,hPQ s h2⟩
theorem M8 (e:Eff) (j:Nat):U8 c ws e j=rd ws (sc c j)\/∃ d own more s t,e=.slot j d own more/\dec (rd ws (sc c j))=some s/\bC s d own more=some t/\U8 c ws e j=t.word/\dec (U8 c ws e j)=some t:=by
 cases e with
 | slot i d own more=>
  simp only[U8]
  by_cases hij:i=j
  ·subst hij;rw[if_pos rfl]
   cases hn:bn (rd ws (sc c i)) d own more with
   | none=>exact .inl rfl
   | some nw=>
    obtain⟨s,t,h1,h2,h3,h4⟩:=M7 hn;exact .inr ⟨d,own,more,s,t,rfl,h1,h2,h3,h4⟩
  ·rw[if_neg hij];exact .inl rfl
 | none=>exact .inl rfl
 | aJ=>exact .inl rfl
 | pin x=>exact .inl rfl
 | grant o x=>exact .inl rfl
 | line q=>exact .inl rfl
 | closed x=>exact .inl rfl
theorem Qd.run {P Q:S->Prop} (h:Qd c P ws) (hl:ws.length=sc c (ns c)) (hw:who < c.workers.toNat) (he:dB c e) (hPQ:∀ s,P s->Q s)
  (hn:∀ i d own more s t,e=.slot i d own more->dec (rd ws (sc c i))=some s->P s->bC s d own more=some t->Q t):Qd c Q (e.run c who ws):=by
 intro j hj;obtain⟨s,h1,h2⟩:=h j hj;rw[UF hl hw he hj]
 rcases M8 (c:=c) (ws:=ws) e j with h3 | ⟨d,own,more,s',t,h3,h4,h5,h6,h7⟩
 ·rw[h3];exact⟨s,h1,hPQ s h2⟩
 ·rw[h4]at h1;cases h1;exact⟨t,h7,hn j d own more s t h3 h4 h2 h5⟩
def iD (c:aj.Cf) (who:Nat) (ws:List Int):Eff->Prop
 | .slot i d own more=>d≠13/\(own=who\/d=5\/d=7\/d=11\/d=17)/\(d=14->more=c.streams)/\(d=11->more=4095)/\(more=0\/d=11\/d=14\/d=15\/d=17)/\(d=4->∃ s,dec (rd ws (sc c i))=some s/\s.uses < c.uses)
 | _=>True
theorem iD.dF {i:Nat} {old:Int} {e:Eff} (h:rd ws i=old->iD c who ws e):iD c who ws (eU ws i old e):=by
 unfold eU
 split
 ·rename_i hh;exact h hh
 ·trivial
theorem vH (r:Rt):iD c who ws (Hu c r ws):=by
 unfold Hu
 split
 ·exact iD.dF fun _=>⟨ag,ag,ag,ag,ag,ag⟩
 ·exact iD.dF fun _=>⟨ag,ag,ag,ag,ag,ag⟩
 ·trivial
 ·trivial
theorem Qe {t:Tk} (h:BL c who t) (good:Bool):iD c who ws (QO t ws good):=by
 have hw:=h.w;have hc:=h.cf;unfold QO
 split
 ·exact iD.dF fun _=>⟨ag,.inl hw,ag,ag,ag,ag⟩
 ·exact iD.dF fun _=>⟨ag,.inl hw,ag,ag,ag,ag⟩
 ·exact iD.dF fun _=>⟨ag,.inl hw,ag,ag,ag,ag⟩
 ·exact iD.dF fun _=>⟨ag,.inl hw,ag,ag,ag,ag⟩
 ·refine iD.dF fun _=>?_
  cases good
  ·exact⟨au,.inl hw,au,au,au,au⟩
  ·exact⟨au,.inl hw,au,au,au,au⟩
 ·rw[hc];exact vH _
 ·exact iD.dF fun _=>⟨ag,.inl hw,ag,ag,ag,ag⟩
 ·trivial
theorem Qf {t:Ty.Ty} (h:BZ c who t):iD c who ws (OA t ws):=by
 have hw:=h.w;have hc:=h.cf;unfold OA
 split
 ·trivial
 ·rw[hc];exact vH _
 ·exact iD.dF fun _=>⟨ag,.inl (by rw[hw]),ag,ag,ag,ag⟩
 ·refine iD.dF fun _=>?_
  split
  ·exact⟨ag,ag,ag,ag,ag,ag⟩
  ·exact⟨ag,ag,ag,ag,ag,ag⟩
 ·exact iD.dF fun _=>trivial
 ·trivial
 ·refine iD.dF fun _=>?_
  split
  ·exact⟨ag,.inl (by rw[hw]),ag,ag,ag,ag⟩
  ·exact⟨ag,.inl (by rw[hw]),ag,ag,ag,ag⟩
 ·trivial
 ·trivial
theorem Ak (q:Qu):iD c who ws (Hw q ws):=by
 unfold Hw
 split
 ·exact iD.dF fun _=>trivial
 ·exact iD.dF fun _=>trivial
 ·exact iD.dF fun _=>trivial
 ·trivial
 ·trivial
theorem Qg {g:Gi} (h:pW c g) (hw:g.w=who):iD c who ws (QS g ws):=by
 have hc:=h.cf;unfold QS
 split
 ·rename_i hk
  obtain⟨s,h1,h2,h3,h4,h5⟩:=h.uses hk;refine iD.dF fun e=>⟨ag,.inl hw,ag,ag,ag,fun _=>⟨s,?_,h3⟩⟩
  rw[hc]at e;rw[e];exact h1
 ·rw[hc];exact vH _
 ·trivial
theorem Qh {x:Sm} (h:ny c x) (hw:x.w=who):iD c who ws (QT x ws):=by
 have hc:=h.cf;unfold QT
 split
 ·refine iD.dF fun _=>?_
  unfold Tf Tg;cases x.opens
  ·exact⟨au,.inl hw,au,au,au,au⟩
  ·exact⟨au,.inl hw,by simp[hc],au,au,au⟩
 ·trivial
theorem Qi (r:Rp):iD c who ws (D9 c who r ws):=by
 unfold D9
 split
 ·exact iD.dF fun _=>⟨ag,.inl rfl,ag,ag,ag,ag⟩
 ·exact vH _
 ·trivial
theorem Qj {k:Wk} {s:Sh} (h:dY c who k):iD c who s.ws (oL c who k s):=by
 unfold oL
 split
 ·split<;>trivial
 ·split
  ·rename_i j hj
   have hjo:=h.bq j hj
   cases j with
   | get t=>exact Qe hjo.2 _
   | give g=>exact Qg hjo.2.1 hjo.2.2.1
   | stream x=>exact Qh hjo.2.1 hjo.2.2.1
   | close f q=>
    cases q with
    | none=>
     dsimp only[xV]
     split
     ·trivial
     ·exact iD.dF fun _=>trivial
    | some q=>exact Ak q
   | stats t=>trivial
   | bO r=>exact Qi r
  ·trivial
 ·split
  ·exact Ak _
  ·trivial
 ·split
  ·exact Qf (h.tidy _ ‹_›)
  ·trivial
 ·split<;>trivial
 ·split
  ·exact Ak _
  ·trivial
 ·trivial
structure ug (c:aj.Cf) (n:Nat) (s:S):Prop where
 ver:s.version<=n
 gen:s.gen<=n
 uses:(s.state=3/\1<=s.uses/\s.uses<=c.uses)\/((s.state=2\/s.state=4)/\1<=s.uses/\s.uses < c.uses)\/((s.state=0\/s.state=1\/s.state=5\/s.state=6)/\s.uses=0)
 bits:∀ b:Nat,c.streams<=b->Mod.bT s.streams b=false
theorem ug.mono {n m:Nat} {s:S} (h:ug c n s) (hnm:n<=m):ug c m s:=⟨by have:=h.ver;omega,by have:=h.gen;omega,h.uses,h.bits⟩
theorem Gf (b:Nat):Mod.bT 0 b=false:=by unfold Mod.bT;simp
theorem Na {n:Int} {k b:Nat} (h:Mod.bT n b=false) (hkb:k≠b):Mod.bT (Mod.kg n k) b=false:=by
 unfold Mod.bT Mod.kg at *;rw[Int.toNat_natCast,Nat.testBit_or,h,Nat.testBit_two_pow];simp[hkb]
theorem Jt {n:Int} {k b:Nat} (h0:0<=n/\n<=255) (hk:k < 8) (h:Mod.bT n b=false) (hb:Mod.bT n k=true):Mod.bT (Mod.gP n k) b=false:=by
 have h':∀ (m:Fin 256) (j i:Fin 8),m.val.testBit j.val=true->m.val.testBit i.val=false->(m.val - 2 ^ j.val).testBit i.val=false:=by decide+kernel
 obtain⟨m,rfl⟩:=Int.eq_ofNat_of_zero_le h0.1;have hd:=Mod.vI (n:=(m:Int)) h0 hk hb
 have e:(Mod.gP (m:Int) k).toNat=m - 2 ^ k:=by
  unfold Mod.gP at *;have:((2:Int) ^ k)=((2 ^ k:Nat):Int):=au
  rw[this]at *;omega
 unfold Mod.bT at *;rw[e];rw[Int.toNat_natCast]at h hb
 by_cases h8:b < 8
 ·exact h' ⟨m,ag⟩ ⟨k,hk⟩ ⟨b,h8⟩ hb h
 ·exact Nat.testBit_lt_two_pow (Nat.lt_of_lt_of_le (show m - 2 ^ k < 2 ^ 8 by omega) (Nat.pow_le_pow_right aT ag))
theorem Al {n most:Int} {k:Nat} (h:Mod.dQ n most=some k):(k:Int) < most:=by
 unfold Mod.dQ at h;have:=List.mem_of_find?_eq_some h;simp at this;omega
theorem ug.next {n:Nat} {s t:S} {d:Nat} {own more:Int} (hs:ug c n s) (hn:n<=2000) (hu:1<=c.uses/\c.uses<=60) (h:bC s d own more=some t) (h4:d=4->s.uses < c.uses) (yE:d=14->more=c.streams):ug c (n+1) t:=by
 have hd:=yS h;obtain⟨hr,ho,hb,rfl⟩:=zT h;have Gr:=(bN s).1 hr;obtain⟨⟨q1,q2,q3,q4,q5,q6,q7⟩,a1,a2,a3,a4,a5⟩:=Gr;have hv:=hs.ver;have hg:=hs.gen;have UG:=hs.uses;have hbi:=hs.bits;have hz:∀ b:Nat,c.streams<=b->Mod.bT 0 b=false:=fun b _=>Gf b
 have hV:(s.version+1) % 32768<=((n+1:Nat):Int):=ag
 have key:∀ t':S,t'.gen<=((n+1:Nat):Int)->((t'.state=3/\1<=t'.uses/\t'.uses<=c.uses)\/((t'.state=2\/t'.state=4)/\1<=t'.uses/\t'.uses < c.uses)\/((t'.state=0\/t'.state=1\/t'.state=5\/t'.state=6)/\t'.uses=0))->
   (∀ b:Nat,c.streams<=b->Mod.bT t'.streams b=false)->ug c (n+1) {t' with version:=(s.version+1) % 32768}:=fun t' h1 h2 h3=>⟨hV,h1,h2,h3⟩
 have hG:s.gen<=((n+1:Nat):Int):=ag
 have hle:∀ o:Int,0<=s.uses->s.uses < c.uses->ug c (n+1) {eu s o with version:=(s.version+1) % 32768}:=fun o h0 h=>key (eu s o) (by show(s.gen+1) % 4096<=_;omega)
  (.inl ⟨rfl,by show 1<=min (s.uses+1) 63;omega,by show min (s.uses+1) 63<=c.uses;omega⟩) (fun b hb'=>by show Mod.bT (if (3:Int)=3 then s.streams else 0) b=false;rw[if_pos rfl];exact hbi b hb')
 have h0s:∀ (o k ep:Int),(k=0\/k=1\/k=5\/k=6)->ug c (n+1) {ai.toK s o k with aJ:=ep,version:=(s.version+1) % 32768}:=fun o k ep hk=>key {ai.toK s o k with aJ:=ep} hG
  (.inr (.inr ⟨hk,by show(if k=2\/k=3\/k=4 then s.uses else 0)=0;rw[if_neg ag]⟩)) (fun b hb'=>by show Mod.bT (if k=3 then s.streams else 0) b=false;rw[if_neg ag];exact Gf b)
 have Va:∀ (o k:Int),(k=0\/k=1\/k=5\/k=6)->ug c (n+1) {ai.toK s o k with version:=(s.version+1) % 32768}:=fun o k hk=>h0s o k (ai.toK s o k).aJ hk
 have Yo:∀ (o k:Int),(k=2\/k=4)->1<=s.uses->s.uses < c.uses->ug c (n+1) {ai.toK s o k with version:=(s.version+1) % 32768}:=fun o k hk h1 h2=>key (ai.toK s o k) hG
  (.inr (.inl ⟨hk,by show 1<=(if k=2\/k=3\/k=4 then s.uses else 0)/\(if k=2\/k=3\/k=4 then s.uses else 0) < c.uses;rw[if_pos ag];exact⟨h1,h2⟩⟩)) (fun b hb'=>by show Mod.bT (if k=3 then s.streams else 0) b=false;rw[if_neg ag];exact Gf b)
 rcases hd with(rfl | rfl | rfl | rfl | rfl | rfl | rfl | rfl | rfl | rfl | rfl | rfl | rfl) | rfl | rfl | rfl | rfl | rfl
 ·exact Va own 1 ag
 ·simp only[gG,Mod.act,Bool.and_eq_true,beq_iff_eq]at hb;exact hle own ag ag
 ·exact Va own 0 ag
 ·simp only[gG,Mod.act,Bool.and_eq_true,beq_iff_eq]at hb;exact hle own ag ag
 ·simp only[gG,Mod.act,Bool.and_eq_true,beq_iff_eq]at hb;have:=h4 rfl;exact Yo own 2 ag ag ag
 ·simp only[gG,Mod.act,Bool.and_eq_true,beq_iff_eq]at hb;exact Yo own 4 ag ag ag
 ·exact Va own 5 ag
 ·simp only[gG,Mod.act,beq_iff_eq]at hb;exact Yo own 2 ag ag ag
 ·exact key {s with marked:=true} hG UG hbi
 ·exact key {s with broken:=true} hG UG hbi
 ·have hm:=yE rfl;simp only[gG,Mod.act]at hb ⊢
  split at hb
  ·rename_i hc3
   rw[if_pos hc3]
   cases hf:Mod.dQ s.streams more with
   | none=>rw[hf]at hb;cases hb
   | some k=>
    have hk:=Al hf;exact key {s with streams:=Mod.kg s.streams k} hG UG (fun b hb'=>Na (hbi b hb') ag)
  ·cases hb
 ·simp only[gG,Mod.act]at hb ⊢
  split at hb
  ·rename_i hc3
   rw[if_pos hc3];simp only[Bool.and_eq_true,decide_eq_true_eq]at hc3;exact key {s with streams:=Mod.gP s.streams more.toNat} hG UG (fun b hb'=>Jt q3 ag (hbi b hb') hc3.2)
  ·cases hb
 ·simp only[gG,Mod.act]at hb ⊢
  split at hb
  ·rename_i gz
   rw[if_pos gz];exact Va own 1 ag
  ·rename_i gz
   rw[if_neg gz];simp only[Bool.and_eq_true,beq_iff_eq]at hb;exact hle own ag ag
 ·simp only[gG,beq_iff_eq]at hb;exact Yo own 2 ag ag ag
 ·exact Va own 0 ag
 ·exact h0s own 6 more ag
 ·exact Va own 0 ag
 ·exact h0s own 6 more ag
def jG (ws:List Int) (k:Wk):Prop:=(k.st=1->k.half=true->0<=k.word/\k.word<=rd ws 2)/\(k.st=5->∀ t,k.tidy=some t->t.st=1->0<=t.aJ/\t.aJ<=rd ws 2)
theorem jG.mono {aC:List Int} {k:Wk} (h:jG ws k) (hle:rd ws 2<=rd aC 2):jG aC k:=
 ⟨fun a b=>by have:=h.1 a b;omega,fun a t b d=>by have:=h.2 a t b d;omega⟩
end
structure MW (n:Nat) (m:Mc):Prop where
 sl:Qd m.cf (ug m.cf n) m.sh.ws
 ep:0<=rd m.sh.ws 2/\rd m.sh.ws 2<=n
 pin:∀ o,o < m.cf.workers.toNat->0<=rd m.sh.ws (Ty.pc o)/\rd m.sh.ws (Ty.pc o)<=rd m.sh.ws 2+1
 cl:0<=rd m.sh.ws 0/\rd m.sh.ws 0<=2
 ks:∀ (i:Nat) k,m.ks[i]? =some k->jG m.sh.ws k
theorem Nb (n i:Nat):rd (List.replicate n (0:Int)) i=0:=by
 unfold rd;rw[List.getD_eq_getElem?_getD,List.getElem?_replicate]
 split<;>rfl
theorem MW.new {c:aj.Cf} (hc:aA c):MW 0 (Mc.new c):=by
 have hz:∀ i,rd (Mc.new c).sh.ws i=0:=fun i=>Nb _ i
 refine⟨fun i hi=>⟨S.zero,?_,⟨aT,aT,.inr (.inr ⟨.inl rfl,rfl⟩),fun b _=>Gf b⟩⟩,by rw[hz];simp,fun o ho=>by rw[hz,hz];simp,by rw[hz];simp,fun i k hk=>?_⟩
 ·show dec (rd (Mc.new c).sh.ws _)=_
  rw[hz];exact Nc
 ·simp only[Mc.new,List.getElem?_replicate]at hk
  split at hk
  ·cases hk;exact⟨fun h=>by simp[Wk.zero]at h,fun h=>by simp[Wk.zero]at h⟩
  ·cases hk
section
variable {c:aj.Cf} {who at':Nat} {s s':Sh} {k k':Wk} {o:Option Mod.Ev}
theorem XJ {t:Ty.Ty} {ws:List Int} (hst:t.st<=17):(t.step ws).1.st=1->(t.step ws).1.aJ=rd ws 2:=by
 have hcases:t.st=0\/t.st=1\/t.st=2\/t.st=3\/t.st=4\/t.st=5\/t.st=6\/t.st=7\/t.st=8\/t.st=9\/t.st=10\/t.st=11\/t.st=12\/t.st=13\/t.st=14\/t.st=15\/t.st=16\/t.st=17:=ag
 have hs:(t.dz ws).2.2.1.st=t.st:=by unfold Ty.Ty.dz;dsimp only;split<;>rfl
 have ne:∀ {a:Ty.Ty} {n:Nat},a.st=n->n≠1->a.st=1->a.aJ=rd ws 2:=fun h1 h2 h3=>absurd (h1.symm.trans h3) h2
 rcases hcases with hk | hk | hk | hk | hk | hk | hk | hk | hk | hk | hk | hk | hk | hk | hk | hk | hk | hk
 ·rw[Ty.BM hk];exact fun _=>rfl
 ·rw[Ty.BN hk];exact ne (n:=2) rfl ag
 ·rw[Ty.BO hk];exact ne (n:=3) rfl ag
 ·rw[Ty.BP hk];dsimp only
  split
  ·exact ne (n:=4) rfl ag
  ·split
   ·exact ne (n:=5) rfl ag
   ·exact ne (n:=3) (by rw[hs,hk]) ag
 ·rw[Ty.BQ hk];dsimp only
  split
  ·exact ne (n:=3) rfl ag
  ·exact ne (n:=4) hk ag
 ·rw[Ty.BR hk];dsimp only
  split
  ·split
   ·exact ne (n:=6) rfl ag
   ·exact ne (n:=7) rfl ag
  ·split
   ·split
    ·exact ne (n:=15) rfl ag
    ·exact ne (n:=8) rfl ag
   ·exact ne (n:=5) (by rw[hs,hk]) ag
 ·rw[Ty.BS hk];dsimp only
  split
  ·exact ne (n:=5) rfl ag
  ·split
   ·exact ne (n:=6) hk ag
   ·exact ne (n:=7) rfl ag
 ·rw[Ty.BU hk];exact ne (n:=5) rfl ag
 ·rw[Ty.BV hk]
  split
  ·exact ne (n:=9) rfl ag
  ·exact ne (n:=15) rfl ag
 ·rw[Ty.BX hk];dsimp only
  split
  ·exact ne (n:=10) rfl ag
  ·split
   ·exact ne (n:=15) rfl ag
   ·exact ne (n:=9) (by rw[hs,hk]) ag
 ·rw[Ty.uy hk];generalize (if t.is=2 then (5:Nat) else 7)=d;dsimp only
  split
  ·exact ne (n:=11) rfl ag
  ·exact ne (n:=9) rfl ag
 ·rw[Ty.uz hk];dsimp only
  split
  ·exact ne (n:=12) rfl ag
  ·exact ne (n:=13) rfl ag
 ·rw[Ty.uA hk];exact ne (n:=8) rfl ag
 ·rw[Ty.uB hk];dsimp only
  split
  ·exact ne (n:=14) rfl ag
  ·exact ne (n:=8) rfl ag
 ·rw[Ty.uC hk];generalize (if t.is=4 then (6:Nat) else 8)=d;dsimp only
  split
  ·exact ne (n:=2) rfl ag
  ·exact ne (n:=13) rfl ag
 ·rw[Ty.uD hk];exact ne (n:=16) rfl ag
 ·rw[Ty.FC hk]
  split
  ·exact ne (n:=17) rfl ag
  ·exact ne (n:=0) rfl ag
 ·rw[Ty.FD hk];exact ne (n:=17) hk ag
theorem jG.fin (k:Wk) (c:aj.Cf) (who:Nat) (p:Bool) {ws:List Int}:jG ws (k.aR c who p):=
 ⟨fun e=>by simp[Wk.aR]at e,fun _ t1 e1 e2=>by simp only[Wk.aR,Option.some.injEq]at e1;subst e1;simp[Ty.Ty.new]at e2⟩
theorem jG.far {k:Wk} {ws:List Int} (h1:k.st≠1) (h5:k.st≠5):jG ws k:=⟨fun e=>absurd e h1,fun e=>absurd e h5⟩
theorem jG.step (h:jG s.ws k) (hk:dY c who k) (hs:Stp c who at' s k k' s' o) (hle:rd s.ws 2<=rd s'.ws 2) (he0:0<=rd s.ws 2):jG s'.ws k':=by
 cases hs with
 | aJ h1 h2=>exact⟨fun _ _=>by show 0<=rd s.ws 2/\rd s.ws 2<=_;omega,fun e=>absurd (show k.st=5 from e) ag⟩
 | sQ t t' aC n h1 h2 h3 h4=>
  refine⟨fun e=>absurd (show k.st=1 from e) ag,fun _ t1 e1 e2=>?_⟩;cases e1;have:=XJ (t:=t) (ws:=s.ws) (hk.tidy t h2).ok.st;rw[h3]at this;rw[this e2];omega
 | o5 h1 h2 h3=>exact⟨fun _ e=>by simp at e,fun e=>by simp at e⟩
 | sM=>exact jG.fin _ _ _ _
 | oN=>exact jG.fin _ _ _ _
 | sO=>exact jG.fin _ _ _ _
 | lS=>exact jG.fin _ _ _ _
 | lT=>exact jG.fin _ _ _ _
 | lU=>exact jG.fin _ _ _ _
 | lX=>exact jG.fin _ _ _ _
 | lY=>exact jG.fin _ _ _ _
 | oZ=>exact jG.fin _ _ _ _
 | mE=>exact jG.fin _ _ _ _
 | mF=>exact jG.fin _ _ _ _
 | pin h1 h2=>exact jG.far au au
 | oM=>exact jG.far au au
 | lN=>exact jG.far au au
 | jV=>exact jG.far au au
 | lZ=>exact jG.far au au
 | mg=>exact jG.far au au
 | mh=>exact jG.far au au
 | mo=>exact jG.far au au
 | mq=>exact jG.far au au
 | jW=>exact jG.far au au
 | yw t t' aC n s1 h1=>exact jG.far (by show k.st≠1;omega) (by show k.st≠5;omega)
 | sN g g' aC n h1=>exact jG.far (by show k.st≠1;omega) (by show k.st≠5;omega)
 | yx x x' aC n h1=>exact jG.far (by show k.st≠1;omega) (by show k.st≠5;omega)
 | lQ f h1=>exact jG.far (by show k.st≠1;omega) (by show k.st≠5;omega)
 | oO f q q' aC n h1=>exact jG.far (by show k.st≠1;omega) (by show k.st≠5;omega)
 | oP t t' n h1=>exact jG.far (by show k.st≠1;omega) (by show k.st≠5;omega)
 | jT r b f n h1=>exact jG.far (by show k.st≠1;omega) (by show k.st≠5;omega)
 | lV r f n h1=>exact jG.far (by show k.st≠1;omega) (by show k.st≠5;omega)
 | sP r h1=>exact jG.far (by show k.st≠1;omega) (by show k.st≠5;omega)
 | oQ r h1=>exact jG.far (by show k.st≠1;omega) (by show k.st≠5;omega)
 | lW r s1 h1=>exact jG.far (by show k.st≠1;omega) (by show k.st≠5;omega)
 | oU r x x' b aC n many h1=>exact jG.far (by show k.st≠1;omega) (by show k.st≠5;omega)
 | jU r x x' b aC n h1=>exact jG.far (by show k.st≠1;omega) (by show k.st≠5;omega)
 | oV t t' n h1=>exact jG.far (by show k.st≠1;omega) (by show k.st≠5;omega)
 | oW q q' aC n h1=>exact jG.far (by show k.st≠1;omega) (by show k.st≠5;omega)
 | mD h1=>exact jG.far (by show k.st≠1;omega) (by show k.st≠5;omega)
 | o6 q q' aC n h1=>exact jG.far (by show k.st≠1;omega) (by show k.st≠5;omega)
theorem UH {x:Int} (h:dY c who k) (he:jG s.ws k) (hx:oL c who k s=.pin x) (hb:0<=rd s.ws 2/\rd s.ws 2<=100000):0<=x/\x<=rd s.ws 2+1:=by
 have hw:∀ y:Int,0<=y->y<=rd s.ws 2->wrap64 (y+1)=y+1:=by intro y h1 h2;unfold wrap64;omega
 have hcas:∀ (i:Nat) (o:Int) (e:Eff),eU s.ws i o e=.pin x->e=.pin x:=by
  intro i o e h;unfold eU at h
  split at h
  ·exact h
  ·cases h
 have hrt:∀ r,Hu c r s.ws≠.pin x:=by
  intro r hr;unfold Hu at hr
  split at hr
  ·cases hcas _ _ _ hr
  ·cases hcas _ _ _ hr
  ·cases hr
  ·cases hr
 have zD:∀ q:Qu,Hw q s.ws≠.pin x:=by
  intro q hr;unfold Hw at hr
  split at hr
  ·cases hcas _ _ _ hr
  ·cases hcas _ _ _ hr
  ·cases hcas _ _ _ hr
  ·cases hr
  ·cases hr
 unfold oL at hx
 split at hx
 ·rename_i h1
  split at hx
  ·rename_i hh
   cases hx;have:=he.1 h1 hh;rw[hw _ this.1 this.2];omega
  ·cases hx
 ·exfalso
  split at hx
  ·rename_i j hj
   cases j with
   | get t=>
    dsimp only[xV]at hx;unfold QO at hx
    split at hx
    all_goals first | (cases hcas _ _ _ hx;done) | (cases hx;done) | skip
    have:=(h.bq _ hj).2.cf;rw[this]at hx;exact hrt _ hx
   | give g=>
    dsimp only[xV]at hx;unfold QS at hx
    split at hx
    ·cases hcas _ _ _ hx
    ·have:=(h.bq _ hj).2.1.cf;rw[this]at hx;exact hrt _ hx
    ·cases hx
   | stream y=>
    dsimp only[xV]at hx;unfold QT at hx
    split at hx
    ·cases hcas _ _ _ hx
    ·cases hx
   | close f q=>
    cases q with
    | none=>
     dsimp only[xV]at hx
     split at hx
     ·cases hx
     ·cases hcas _ _ _ hx
    | some q=>exact zD q hx
   | stats t=>cases hx
   | bO r=>
    dsimp only[xV]at hx;unfold D9 at hx
    split at hx
    ·cases hcas _ _ _ hx
    ·exact hrt _ hx
    ·cases hx
  ·cases hx
 ·exfalso
  split at hx
  ·exact zD _ hx
  ·cases hx
 ·rename_i h5
  split at hx
  ·rename_i t ht
   unfold OA at hx
   split at hx
   ·rename_i h1
    cases hx;have:=he.2 h5 t ht h1;rw[hw _ this.1 this.2];omega
   ·exfalso
    have:=(h.tidy t ht).cf;rw[this]at hx;exact hrt _ hx
   ·cases hcas _ _ _ hx
   ·cases hcas _ _ _ hx
   ·cases hcas _ _ _ hx
   ·cases hx
   ·cases hcas _ _ _ hx
   ·cases hx;omega
   ·cases hx
  ·cases hx
 ·split at hx<;>cases hx
 ·exfalso
  split at hx
  ·exact zD _ hx
  ·cases hx
 ·cases hx
end
theorem XK {ws:List Int} {e:Eff} {n:Nat} (h:0<=rd ws 2/\rd ws 2<=n) (hn:n<=2000):rd ws 2<=U9 ws e/\U9 ws e<=((n+1:Nat):Int):=by
 cases e<;>simp only[U9]<;>first | omega | (unfold wrap64;omega)
theorem UI {c:aj.Cf} {ws:List Int} {i:Nat} {nw:Int} (h:bn (rd ws (sc c i)) 13 0 0=some nw):ws.set (sc c i) nw=(Eff.slot i 13 0 0).run c 0 ws:=by
 simp only[Eff.run,h]
theorem MW.lG {n:Nat} {m:Mc} (h:MW n m) (ho:Fj n m) (hn:n<=2000) (x:En):MW (n+1) (m.lG x).2:=by
 have hd:=Ke ho x;generalize (m.lG x).1=b at hd;generalize (m.lG x).2=m' at hd;have UG:=ho.c.us;have hlen:=ho.ws.l.len;have Xx:=h.ep;have hcl:=h.cl
 have same:∀ m':Mc,m'.cf=m.cf->m'.sh.ws=m.sh.ws->(∀ (i:Nat) k,m'.ks[i]? =some k->jG m.sh.ws k)->MW (n+1) m':=by
  intro m' h1 h2 h3;refine⟨?_,?_,?_,?_,?_⟩
  ·rw[h1,h2];exact h.sl.mono fun s hs=>hs.mono (Nat.le_succ n)
  ·rw[h2];omega
  ·rw[h1,h2];exact h.pin
  ·rw[h2];exact hcl
  ·rw[h2];exact h3
 cases hd with
 | no tc=>exact same _ rfl rfl h.ks
 | tick _=>exact same _ rfl rfl h.ks
 | feed _=>exact same _ rfl rfl h.ks
 | ask i k h1 h2 h3 h4 h5 h6=>
  refine same _ rfl rfl (fun j kj hj=>?_);simp only[List.getElem?_set]at hj
  split at hj
  ·split at hj
   ·cases hj;exact⟨fun _ e=>by simp[Wk.zero]at e,fun e=>by simp at e⟩
   ·cases hj
  ·exact h.ks j kj hj
 | brk i nw h1 h2 h3=>
  have hw:=ho.c.nw;have he:dB m.cf (.slot i 13 0 0):=h2;have e1:=UI h3;refine⟨?_,?_,?_,?_,?_⟩
  ·show Qd m.cf _ (m.sh.ws.set (sc m.cf i) nw)
   rw[e1];exact h.sl.run hlen ag he (fun s hs=>hs.mono (Nat.le_succ n)) (fun i d own more s t e h4 h5 h6=>by cases e;exact h5.next hn UG h6 ag ag)
  ·show 0<=rd (m.sh.ws.set (sc m.cf i) nw) 2/\rd (m.sh.ws.set (sc m.cf i) nw) 2<=_
   rw[e1,Aj hlen]
   show 0<=rd m.sh.ws 2/\rd m.sh.ws 2<=_
   omega
  ·intro o NZ
   show 0<=rd (m.sh.ws.set (sc m.cf i) nw) (Ty.pc o)/\rd (m.sh.ws.set (sc m.cf i) nw) (Ty.pc o)<=rd (m.sh.ws.set (sc m.cf i) nw) 2+1
   rw[e1,Aj hlen,M0 hlen NZ];exact h.pin o NZ
  ·show 0<=rd (m.sh.ws.set (sc m.cf i) nw) 0/\rd (m.sh.ws.set (sc m.cf i) nw) 0<=2
   rw[e1,M3 hlen];exact hcl
  ·intro j kj hj;refine(h.ks j kj hj).mono ?_
   show rd m.sh.ws 2<=rd (m.sh.ws.set (sc m.cf i) nw) 2
   rw[e1,Aj hlen];exact Int.le_refl _
 | pick i k k' s' o h1 h2 h3 h4 h5 h6=>
  have hk:=ho.ks i k h3;have hi:i < m.cf.workers.toNat:=by have:=(List.getElem?_eq_some_iff.1 h3).1;have:=ho.len;omega
  have he:=Lg (s:=m.sh) hk ho.c hi ho.ws.l;have hS:=Qj (s:=m.sh) hk;have hle:=XK (e:=oL m.cf i k m.sh) Xx hn;have aac:=fun x hx=>UH (x:=x) hk (h.ks i k h3) hx ag
  have UJ:rd s'.ws 2=U9 m.sh.ws (oL m.cf i k m.sh):=by rw[h6,Aj hlen]
  refine⟨?_,?_,?_,?_,?_⟩
  ·show Qd m.cf _ s'.ws
   rw[h6];refine h.sl.run hlen hi he (fun s hs=>hs.mono (Nat.le_succ n)) (fun i d own more s t e h7 h8 h9=>?_);rw[e]at hS;obtain⟨q1,q2,q3,q4,q5,q6⟩:=hS;refine h8.next hn UG h9 (fun e4=>?_) q3;obtain⟨s2,r1,r2⟩:=q6 e4;rw[h7]at r1;cases r1;exact r2
  ·show 0<=rd s'.ws 2/\rd s'.ws 2<=_
   rw[UJ];omega
  ·intro o' NZ
   show 0<=rd s'.ws (Ty.pc o')/\rd s'.ws (Ty.pc o')<=rd s'.ws 2+1
   have hp:=h.pin o' NZ;rw[UJ];rw[h6,M0 hlen NZ];generalize hE:oL m.cf i k m.sh=e at *
   cases e with
   | pin x=>
    simp only[XI];have:=aac x rfl
    split<;>omega
   | _=>simp only[XI];omega
  ·show 0<=rd s'.ws 0/\rd s'.ws 0<=2
   rw[h6,M3 hlen];generalize oL m.cf i k m.sh=e at *
   cases e with
   | closed x=>exact he
   | _=>exact hcl
  ·intro j kj hj;simp only[List.getElem?_set]at hj;have hmono:rd m.sh.ws 2<=rd s'.ws 2:=by rw[UJ];omega
   split at hj
   ·rename_i hij
    subst hij
    split at hj
    ·cases hj;exact(h.ks i k h3).step hk h5 hmono Xx.1
    ·cases hj
   ·exact(h.ks j kj hj).mono hmono
theorem M4 {n:Nat} {m:Mc} (h:MW n m) (ho:Fj n m) (hn:n<=1000):∀ x ∈ m.sh.ws,x < 9223372036854775808:=by
 intro x hx;obtain⟨i,hi,e⟩:=List.getElem_of_mem hx;have hr:rd m.sh.ws i=x:=by unfold rd;rw[List.getD_eq_getElem?_getD,List.getElem?_eq_getElem hi,e];rfl
 have hlen:=ho.ws.l.len;have hw:=ho.c.nw;have hs:=ho.c.ns;rw[fI]at hlen
 have hc:i=0\/i=1\/i=2\/(∃ o,o < m.cf.workers.toNat/\i=Ty.pc o)\/(∃ o,o < m.cf.workers.toNat/\i=Ty.gc m.cf o)\/∃ k,k < ns m.cf/\i=sc m.cf k:=by
  unfold Ty.pc Ty.gc sc
  by_cases h0:i < 3
  ·omega
  by_cases h1:i < 3+m.cf.workers.toNat
  ·exact .inr (.inr (.inr (.inl ⟨i - 3,ag,ag⟩)))
  by_cases h2:i < 3+2 * m.cf.workers.toNat
  ·exact .inr (.inr (.inr (.inr (.inl ⟨i - 3 - m.cf.workers.toNat,ag,ag⟩))))
  ·exact .inr (.inr (.inr (.inr (.inr ⟨i - 3 - 2 * m.cf.workers.toNat,ag,ag⟩))))
 rcases hc with rfl | rfl | rfl | ⟨o,h1,rfl⟩ | ⟨o,h1,rfl⟩ | ⟨k,h1,rfl⟩
 ·have:=h.cl;omega
 ·obtain⟨L,hL⟩:=ho.ws.l.line;have h1:=Cl.Bl L (hL.JF ho.c);have h2:=hL.q;have h3:=hL.len8 ho.c
  have h4:(16:Int) ^ L.length<=16 ^ 8:=by
   have:L.length=0\/L.length=1\/L.length=2\/L.length=3\/L.length=4\/L.length=5\/L.length=6\/L.length=7\/L.length=8:=ag
   rcases this with e | e | e | e | e | e | e | e | e<;>rw[e]<;>decide
  have h5:(16:Int) ^ 8=4294967296:=aT
  omega
 ·have:=h.ep;omega
 ·have:=h.pin o h1;have:=h.ep;omega
 ·have:=ho.ws.grant o h1;have:=ho.c.s;omega
 ·obtain⟨s,h2,-⟩:=h.sl k h1;unfold dec at h2
  split at h2
  ·rename_i hh;have:=hh.1;omega
  ·cases h2
end Mc
namespace Mc
open Go.RowKit Hp ah aj Slot ai Tk Cl
theorem CW {W:World} {a:Option Addr} {ss:List S} (h:Am W a ss) {q:Nat} {s:S} (hs:ss[q]? =some s):∃ g o,a=some ⟨g,o,none⟩/\W.rangeAt g (o+q * 9) s.cells.toList:=by
 obtain⟨g,o,e,hc⟩:=h q s hs;exact⟨g,o,e,fun j v hv=>hc j v (by rw[Array.getElem?_toList]at hv;exact hv)⟩
theorem yc {W W':World} {b o:Nat} {cs:List Value} (h:W.rangeAt b o cs) (hb:Below W.heap.size W W'):W'.rangeAt b o cs:=fun j v hv=>Field.ak hb (h j v hv)
theorem Ju (W:World) (hL:Laid W) (hT:TabAt W) (g0 g1 g2 g3 g4:Int) (h0:0<=g0/\g0 < 256) (h1:0<=g1/\g1 < 256) (h2:0<=g2/\g2 < 256) (h3:0<=g3/\g3 < 256) (h4:0<=g4/\g4 < 256) (v:Value) (l:List Tn) (hl:o7 W v l):
  Calls prog 10 #[.agg #[.int .u8 g0,.int .u8 g1,.int .u8 g2,.int .u8 g3,.int .u8 g4],v] W fun e W'=>e=.returned (.bool true)/\Below W.heap.size W W':=by
 have haw:=fun w hL hT=>wC w hL hT
 have hcf:=fun w=>AP w g0 g1 g2 g3 g4 h0 h1 h2 h3 h4
 have hcr:=qM g0 g1 g2 g3 g4;generalize nP g0 g1 g2 g3 g4=c at *;have hsm:aA c:=uq hcr;clear h0 h1 h2 h3 h4;have HL2:=uH hl;obtain⟨ta,tc,rfl,Ai,htc⟩:=hl;clear Ai htc;have hW2:2 < W.heap.size:=dN (hT 0 aT);have hA:Below W.heap.size W (W.alloc (.cells #[.int .u8 g0,.int .u8 g1,.int .u8 g2,.int .u8 g3,.int .u8 g4] 23)):=bZ.alloc aQ _;have hg:af (W.alloc (.cells #[.int .u8 g0,.int .u8 g1,.int .u8 g2,.int .u8 g3,.int .u8 g4] 23)) W.heap.size #[.int .u8 g0,.int .u8 g1,.int .u8 g2,.int .u8 g3,.int .u8 g4] 23:=heap_alloc_new W _;have hL0:=hL.stable (hA.block 0 ag);have hT0:=hT.stable (hA.block 2 hW2);have HC:=uH (And.intro hL hT);clear hL hT
 go_enter func10,ntmps10
 go_upto_region 1 with(fail);generalize (W.alloc (.cells #[.int .u8 g0,.int .u8 g1,.int .u8 g2,.int .u8 g3,.int .u8 g4] 23))=w0 at *;go_wp2_with fail;refine(haw _ hL0 hT0).mono ?_;rintro e w1 ⟨rfl,hb1⟩;have HB1:=uH (hA.trans (hb1.mono hA.size));have HG:=uH (af.below hg hb1);clear haw hb1 hA hg hL0 hT0
 by_cases aab:400 < l.length
 ·have h8i:(400:Int) < (l.length:Int):=ag
  clear hcf hcr hsm HL2 HG HC;go_wp2_with fail;go_ret;exact⟨rfl,HB1.out⟩
 have h8i:¬ (400:Int) < (l.length:Int):=ag
 go_upto_region 4 with(fail);refine wp_region_lit ?_;refine grow HG.out 23 (.tmp 2) underlying23 (ay ?_)
 refine pX 19 #[.tmp 18] #[23] #[.agg #[.int .u8 g0,.int .u8 g1,.int .u8 g2,.int .u8 g3,.int .u8 g4]] (aH func19) ?_;refine(hcf _).mono ?_;rintro e w2 ⟨rfl,hb2⟩;refine⟨_,rfl,?_⟩;dsimp only;refine dU (ob:=.cells Fw 27) (Z:=Fw) (cs:=c.cells) (t:=27) 27 (.tmp 6) (.tmp 19) rfl (ay ?_)
 rw[aG];refine wpList_nil ?_;have hB2:=HB1.out.trans (hb2.mono HB1.out.size);have hB3:Below W.heap.size W (w2.alloc (.cells c.cells 27)):=hB2.alloc hB2.size _;have hr3:af (w2.alloc (.cells c.cells 27)) w2.heap.size c.cells 27:=heap_alloc_new w2 _;have hcb:w2.heap.size < (w2.alloc (.cells c.cells 27)).heap.size:=au
 have hcW:W.heap.size<=w2.heap.size:=hB2.size;generalize (w2.alloc (.cells c.cells 27))=w3 at *;generalize w2.heap.size=cb at *;have hL3:=HC.out.1.stable (hB3.block 0 ag);have XC:=HC.out.2.stable (hB3.block 2 hW2);have hnew:=wD w3 c hcr hL3 XC;clear hcf hb2 HB1 hB2 HG hL3 XC HC;go_upto_region 5 with(fail);refine wp_region_lit ?_;refine grow hr3 27 (.tmp 6) underlying27 (ay ?_)
 refine pX 20 #[.tmp 21] #[27] #[.agg c.cells] (aH func20) ?_;refine hnew.mono ?_;intro e w4 hp;obtain⟨p4,rfl,h4⟩:=Lb.first (K:=fun b=>b=cb) hp hsm hB3 hW2 (by rintro b rfl;exact hcb);have hr4:af w4 cb c.cells 27:=af.below hr3 (hp.pF);generalize p4.gb=gb at *;refine⟨_,rfl,?_⟩;dsimp only;refine gl (.tuple #[ptr gb,.i 0]) (ay ?_)
 refine gl (ptr gb) (ay ?_)
 refine gl (.i 0) (ay ?_)
 refine gl (ptr gb) (ay ?_)
 refine gl (.i 0) (ay ?_)
 refine wpList_nil ?_;have H4:RowKit.Hid (∃ p m K,Lb W K gb 0 w4 p m/\m.cf=c/\K cb/\af w4 cb c.cells 27/\MW 0 m):=uH ⟨p4,_,_,h4,rfl,rfl,hr4,.new hsm⟩;clear hnew hp h4 hr4 hr3 hB3;go_wp2_with fail
 go_loopw [9] (fun v wr=>∃ k:Nat,k<=l.length/\v=.i k/\RowKit.Hid (∃ p m K,Lb W K gb k wr p m/\m.cf=c/\K cb/\af wr cb c.cells 27/\MW k m)) (fun v _=>l.length - (intOf v).toNat)
 case atStart=>exact⟨0,ag,rfl,H4⟩
 case round=>
  obtain⟨k,hk,rfl,hM⟩:=hrel;clear H4;obtain⟨p,m,Kp,hB,hcf,hKc,hrc,hmw⟩:=hM.out
  by_cases hlt:k < l.length
  rotate_left
  ·have hi:¬ (k:Int) < (l.length:Int):=ag
   have HB:=uH hB.pF;clear hB hrc hM HL2 hmw;go_wp2_with fail;go_ret;exact⟨rfl,HB.out⟩
  obtain⟨ta2,tc2,e0,Ai,htc⟩:=HL2.out;obtain⟨tn,htn⟩:∃ tn,l[k]? =some tn:=⟨_,List.getElem?_eq_getElem hlt⟩
  obtain⟨t0,t1,t2,t3,t4,t5⟩:=Ai tn (List.mem_of_getElem? htn)
  rcases htc with rfl | ⟨tg,MV,e1,htc⟩
  ·simp at hlt
  injection e0 with e0 e2 e3
  subst e3;subst e1;subst e0;have hrg:∀ w,(fun w'=>Below W.heap.size W w'/\af w' cb c.cells 27) w->w.rangeAt tg (MV+k * 6) tn.cells.toList:=fun w hS j u hu=>(hS.1.cell (dN (htc k tn htn j u (by rw[Array.getElem?_toList]at hu;exact hu)))).trans (htc k tn htn j u (by rw[Array.getElem?_toList]at hu;exact hu))
  have hrr:∀ w,(fun w'=>Below W.heap.size W w'/\af w' cb c.cells 27) w->af w cb c.cells 27:=fun w hS=>hS.2
  have UC:=hB.good.ok.evs;have hmo:=hB.good.ok;have hev:=nT (hB.at'.rest (Below.refl wr.heap.size wr).drew) ag;rw[show({p with ow:=fun b=>if b < wr.heap.size then p.ow b else 0}:Mp).gb=gb from hB.gb]at hev;have hent:=fun w (v:Value) hv=>yz w tn.k tn.w tn.o tn.s tn.g tn.n t0 t1 t2 t3 t4 t5 c hcr v m.evs ag hv
  have b0:(0:Int)<=(k:Int):=ag
  have b1:(k:Int) < (l.length:Int):=ag
  clear htc Ai htn t0 t1 t2 t3 t4 t5 UC;go_upto_region 11 with(fail);refine jr (S:=(fun w'=>Below W.heap.size W w'/\af w' cb c.cells 27)) (by exact⟨hB.pF.trans ((Below.refl wr.heap.size wr).drew.mono hB.pF.size),af.drew hrc⟩) (fun hHeld=>?_);refine tH 0 37 hHeld ?_;refine tH 1 38 hHeld ?_;refine tH 2 39 hHeld ?_;refine tH 3 40 hHeld ?_;refine iC (gd:=none) 4 41 (.load 40 (.tmp 40)) (.agg tn.cells.toList.toArray) (ru 40 (.tmp 40) tg (MV+k * 6) tn.cells.toList _ ax underlying40 rfl ax hrg) hHeld (ay ?_)
  refine iC (gd:=none) 5 42 (.load 27 (.tmp 6)) (.agg c.cells) (aM 27 (.tmp 6) cb 27 c.cells _ ax underlying27 rfl ax hrr) hHeld (ay ?_)
  refine tH 6 43 hHeld ?_;clear hrg hrr;refine aX (i:=7) ax <| bI 23 #[.tmp 43] #[29] (some 44) none ax ax #[ptr gb] ax (aH func23) ?_
  refine hev.mono ?_;rintro e we ⟨ea,ec,rfl,hoe,-,hbe⟩;have Gd:Below wr.heap.size wr we:=(Below.refl wr.heap.size wr).drew.trans hbe;refine⟨_,rfl,⟨hB.pF.trans (Gd.mono hB.pF.size),af.below hrc Gd⟩,fun hHeld=>ay ?_⟩
  refine aX (i:=8) ax <| bI 22 #[.tmp 41,.tmp 42,.tmp 44] #[40,27,41] (some 45) none ax ax #[.agg #[.int .u8 tn.k,.int .u8 tn.w,.int .u8 tn.o,.int .u8 tn.s,.int .u8 tn.g,.int .u8 tn.n],c.val,.slice ea m.evs.length ec] ax (aH func22) ?_
  refine(hent _ _ hoe).mono ?_;rintro e wn ⟨x,rfl,hx,hbn⟩;have hbN:Below wr.heap.size wr wn:=Gd.trans (hbn.mono Gd.size);refine⟨_,rfl,⟨hB.pF.trans (hbN.mono hB.pF.size),af.below hrc hbN⟩,fun hHeld=>ay ?_⟩
  obtain⟨p9,K9,h9,hKo,-⟩:=hB.more hbN;have Jr:=hKo cb hKc;have hd:=h9.do ag x ⟨by have:=hx.2;omega,by have:=hx.2;omega⟩
  have ym:=af.below hrc hbN;refine aX (i:=9) ax <| bI 21 #[.tmp 37,.tmp 45] #[29,37] (some 46) none ax ax #[ptr gb,.agg x.cells] ax (aH func21) ?_
  refine hd.mono ?_;rintro e dH ⟨rfl,p10,h10,nJ⟩;have E8:=nJ.row Jr ym;refine⟨_,rfl,⟨h10.pF,E8⟩,fun hHeld=>ay ?_⟩
  refine iR ?_;have Js:(m.lG x).2.cf=c:=(QV m x).trans hcf;clear hd nJ h9 ym hbN hbn Gd hbe hoe hev hent hKo hHeld;have XL:=hmw.lG hmo ag x
  clear hmw hmo hM hB hrc hKc hcf;generalize (m.lG x).2=m2 at *;have HMW:=uH XL;clear XL;have hfin:=h10.good.ok;have hev:=qy (h10.at'.rest (Below.refl dH.heap.size dH).drew);rw[show({p10 with ow:=fun b=>if b < dH.heap.size then p10.ow b else 0}:Mp).gb=gb from h10.gb]at hev;have hlen:m2.sh.ws.length=Tk.sc c (Tk.ns c):=by have:=hfin.ws.l.len;rw[Js]at this;exact this
  have XM:=M4 HMW.out hfin ag;have hpos:0 < m2.sh.ws.length:=by rw[hlen];have:=hsm.nw;rw[fI];omega
  have hrr:∀ w,Below dH.heap.size dH w->af w cb c.cells 27:=fun w hb=>af.below E8 hb
  go_upto_region 12 with(fail);refine jr (S:=fun w'=>Below dH.heap.size dH w') (by exact bY) (fun hHeld=>?_);refine iC (gd:=none) 0 47 (.load 27 (.tmp 6)) (.agg c.cells) (aM 27 (.tmp 6) cb 27 c.cells _ ax underlying27 rfl ax hrr) hHeld (ay ?_)
  refine tH 1 48 hHeld ?_;refine aX (i:=2) ax <| bI 27 #[.tmp 48] #[29] (some 49) none ax ax #[ptr gb] ax (aH func27) ?_
  refine hev.mono ?_;rintro e kU ⟨a1,q1,rfl,ho1,-,ku⟩;have Gd:Below dH.heap.size dH kU:=(Below.refl dH.heap.size dH).drew.trans ku;refine⟨_,rfl,Gd,fun hHeld=>ay ?_⟩
  obtain⟨g1,o1,rfl,hc1⟩:=wB ho1 hpos;have hsl:=yf kU c hcr g1 o1 q1 m2.sh.ws hlen hc1 XM;refine aX (i:=3) ax <| bI 28 #[.tmp 47,.tmp 49] #[27,52] (some 50) none ax ax #[c.val,.slice (some ⟨g1,o1,none⟩) m2.sh.ws.length q1] ax (aH func28) ?_
  refine hsl.mono ?_;rintro e uo ⟨sa,sc1,rfl,hsi,jL⟩;have hbN:Below dH.heap.size dH uo:=Gd.trans (jL.mono Gd.size);refine⟨_,rfl,hbN,fun hHeld=>ay ?_⟩
  refine tH 4 10 hHeld ?_;refine iR ?_;clear hsl hc1 ho1 jL ku Gd hev hHeld hrr;obtain⟨p12,K12,h12,hKo,-⟩:=h10.more hbN;have Nf:=hKo cb Jr;have CR:=af.below E8 hbN
  have hss:∀ q,q < Tk.ns c->∃ s,(slotsOf c m2.sh.ws)[q]? =some s/\ug c (k+1) s:=fun q hq=>by
   obtain⟨s,h1,h2⟩:=HMW.out.sl q (by rw[Js];exact hq);rw[Js]at h1 h2;refine⟨s,?_,h2⟩;rw[uO c _ hq];unfold CX;rw[h1];rfl
  have hln:=uP c m2.sh.ws;generalize slotsOf c m2.sh.ws=ss at *;have hns:((ss.length:Nat):Int)=c.slots:=by have:=hsm.ns;rw[hln];exact this.2.2
  have c1:uo.cell? ⟨cb,1,none⟩=some (.i (ss.length:Nat)):=by rw[hns];exact af.cell CR 1
  have yO:=uH (And.intro h12 (And.intro Nf CR));have HSS:=uH hss;have HSI:=uH hsi;have HLN:=uH hln;clear h12 Nf h10 Jr E8 hss hsi hln hns hfin hlen XM hpos hKo hbN;go_wp2_with fail
  go_loopw [11] (fun v wr2=>∃ q:Nat,q<=ss.length/\v=.i q/\RowKit.Hid (Below uo.heap.size uo wr2)) (fun v _=>ss.length - (intOf v).toNat)
  case atStart=>exact⟨0,ag,rfl,uH bZ⟩
  case round=>
   obtain⟨q,hq,rfl,hb2⟩:=hrel;clear c1
   by_cases UE:q < ss.length
   rotate_left
   ·have i1:¬ (q:Int) < (ss.length:Int):=ag
    obtain⟨h12,Nf,CR⟩:=yO.out;obtain⟨Nn,K13,vV,hKo,-⟩:=h12.more hb2.out;have CU:=hKo cb Nf;have xz:=af.below CR hb2.out;have H15:RowKit.Hid (∃ p m K,Lb W K gb (k+1) wr p m/\m.cf=c/\K cb/\af wr cb c.cells 27/\MW (k+1) m):=uH ⟨Nn,m2,K13,vV,Js,CU,xz,HMW.out⟩;clear h12 Nf CR vV CU xz hKo yO HSS HSI HLN hb2;go_wp2_with fail
    go_roundw
    case rel=>exact⟨k+1,ag,by go_num,H15⟩
    case measure=>first | (simp[intOf];done) | (simp[intOf];omega)
   obtain⟨s,hs,hok⟩:=HSS.out q (by rw[<- HLN.out];exact UE);have i0:(0:Int)<=(q:Int):=ag
   have i1:(q:Int) < (ss.length:Int):=ag
   have i2:(q:Int)<=16:=by have:=HLN.out;have:=hsm.ns;omega
   obtain⟨sg,so,rfl,hrow⟩:=CW HSI.out hs;have hrg:=fun(w:World) (hb:Below uo.heap.size uo w)=>yc hrow hb
   have hb3:=hb2.out;have XN:=af.below yO.out.2.2 hb3;go_upto_region 18 with(fail);refine wp_region_lit ?_;refine gl (.slice (some ⟨sg,so,none⟩) ss.length sc1) (ay ?_)
   refine gl (.i q) (ay ?_)
   refine gl (.pointer (some ⟨sg,so+q * 9,none⟩)) (ay ?_) (by go_simp;try rfl)
   refine VG (hrg _ hb3) 61 (.tmp 64) underlying61 (ay ?_)
   refine dU (ob:=.cells av 61) (Z:=av) (cs:=s.cells) (t:=61) 61 (.tmp 12) (.tmp 65) rfl (ay ?_)
   rw[aG];refine wpList_nil ?_;have hA:Below uo.heap.size uo (wr.alloc (.cells s.cells 61)):=hb3.alloc hb3.size _;have xG:af (wr.alloc (.cells s.cells 61)) wr.heap.size s.cells 61:=heap_alloc_new wr _;have XO:af (wr.alloc (.cells s.cells 61)) cb c.cells 27:=af.below XN (bZ.alloc aQ _);generalize (wr.alloc (.cells s.cells 61))=wx at *;generalize wr.heap.size=sb at *;have s0:=cC s.state (af.cell xG 0);have s5:=cC s.uses (af.cell xG 5);have cu:=cC c.uses (af.cell XO 4);have hu:=hok.uses;have HA:=uH hA;clear hs hok hrow hrg hb3 XN hA xG XO hb2;generalize s.state=st at *;generalize s.uses=us at *;generalize aad:c.uses=cus at *;clear aad;have hfin:RowKit.Hid (∃ q2:Nat,q2<=ss.length/\(.i ((q:Int)+1):Value)=.i (q2:Nat)/\ss.length - q2 < ss.length - q):=uH ⟨q+1,ag,au,ag⟩;clear hfin
   rcases hu with⟨rfl,u1,u2⟩ | ⟨rfl | rfl,u1,u2⟩ | ⟨rfl | rfl | rfl | rfl,rfl⟩
   focus
    have n1:decide (us < 1)=false:=decide_eq_false ag;have n2:decide (cus < us)=false:=decide_eq_false ag;clear u1 u2
   rotate_left
   focus
    have n1:decide (us < 1)=false:=decide_eq_false ag;have n2:decide (cus<=us)=false:=decide_eq_false ag;clear u1 u2
   rotate_left
   focus
    have n1:decide (us < 1)=false:=decide_eq_false ag;have n2:decide (cus<=us)=false:=decide_eq_false ag;clear u1 u2
   rotate_left
   focus
    skip
   rotate_left
   focus
    skip
   rotate_left
   focus
    skip
   rotate_left
   focus
    skip
   rotate_left
   all_goals
    go_wp2_with fail
    go_roundw
    case rel=>exact⟨q+1,ag,by go_num,HA⟩
    case measure=>first | (simp[intOf];done) | (simp[intOf];omega)
end Mc
end Go.Proofs.YtpbambdakpomhaaGreatDoor
