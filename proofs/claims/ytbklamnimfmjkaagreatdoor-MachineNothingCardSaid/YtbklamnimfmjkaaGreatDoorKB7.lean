/- Part 7 of the walks and plain laws that the last text joins. -/
import Derived.Test.YtbklamnimfmjkaaGreatDoorKB6
set_option maxRecDepth 100000
set_option maxHeartbeats 16000000
set_option linter.all false
open Go.Proofs.Tryz
namespace Go.Proofs.YtbklamnimfmjkaaGreatDoor
namespace Slot
open Go.RowKit Hp ah ai
theorem Rw (n:Int):bH.map (Field.part n)=[n % 8,n / 8 % 16,n / 128 % 256,n / 32768 % 2,n / 65536 % 2,n / 131072 % 64,n / 8388608 % 4096,n / 34359738368 % 4096,n / 140737488355328 % 32768]:=by
 simp[bH,Field.part]
theorem Nu (n:Int):dec n=if (cut n).right=true/\(cut n).word=n then some (cut n) else none:=by
 unfold dec
 by_cases hr:(cut n).right=true
 ·have hb:=Fb hr
  by_cases hn:0<=n/\n < 4611686018427387904
  ·simp[hr,hn,AR hn.1 hn.2]
  ·have:(cut n).word≠n:=fun e=>hn (e ▸ hb)
   simp[hr,this];intro a;omega
 ·simp[hr]
theorem Dl (w:World) (n st ow sm b3 b4 us ge ep ve zz:Int) (ok:Bool) (hL:Laid w) (hp:bH.map (Field.part n)=[st,ow,sm,b3,b4,us,ge,ep,ve])
  (hE:∀ W,Laid W->Calls prog 73 #[S.val ⟨st,ow,sm,b3 == 1,b4 == 1,us,ge,ep,ve⟩] W fun e W'=>(∃ z,e=.returned (.tuple #[.i z,.bool ok])/\(ok=true->z=zz))/\Below W.heap.size W W'):
  Calls prog 71 #[.i n] w fun e w'=>e=.returned (.tuple #[S.val (if (ok && zz == n)=true then ⟨st,ow,sm,b3 == 1,b4 == 1,us,ge,ep,ve⟩ else S.zero),.bool (ok && zz == n)])/\Below w.heap.size w w':=by
 have Yp:Below w.heap.size w (w.alloc (.cells Zs 57)):=bZ.alloc aQ _;have pQ:ai.Kp (w.alloc (.cells Zs 57)) w.heap.size (w.alloc (.cells Zs 57)):=⟨aD.refl _ _,Zs,rfl,af.new w Zs _⟩
 have hL0:Laid (w.alloc (.cells Zs 57)):=hL.stable (Yp.block 0 (hL.lt aT));have ym:=Dm hL0;have e1:(w.alloc (.cells Zs 57)).heap.size=w.heap.size+1:=au
 have hst:=Dn (w.alloc (.cells Zs 57));rw[e1]at hst;have Yq:=fun W g h hg=>Field.Gt W n g bH aT h hg sw
 rw[hp]at Yq;simp only[S.val,S.cells]at hE;clear hp
 go_enter func71,ntmps71
 go_wp2_with (first
  | (refine wpList_load_mid rfl 137 (.global 0) rfl 0 0 rfl xI _ ym underlying137 rfl ax ?_))
 have hA2:Below (w.alloc (.cells Zs 57)).heap.size (w.alloc (.cells Zs 57)) ((w.alloc (.cells Zs 57)).alloc (.cells xI.toArray 137)):=bZ.alloc aQ _;have hK2:=pQ.later hA2;have hL2:=hL0.stable (hA2.block 0 (hL0.lt aT));have hF:Field.uQ ((w.alloc (.cells Zs 57)).alloc (.cells xI.toArray 137)) (w.heap.size+1) bH:=e1 ▸ Rx (sD _ _);refine Calls.mono (show Calls prog 94 #[.i n,.slice (some ⟨w.heap.size+1,0,none⟩) 9 9] _ _ from Yq _ _ hF au) ?_;rintro e w7 ⟨v,rfl,ho,hfp,cB⟩
 change bR w7 v 9 1 _ at ho
 have AU:=hK2.later cB;have hL7:=hL2.stable (cB.block 0 (hL2.lt aT));clear hA2 hK2 hL2 hF cB ym hst Yq hL0 pQ;obtain⟨pg,po,pc,rfl,p1,p2,p3,p4,p5,p6⟩:=ho.some aT;have k0:=p6 0 _ rfl;have k1:=p6 1 _ rfl;have k2:=p6 2 _ rfl;have k3:=p6 3 _ rfl;have k4:=p6 4 _ rfl;have k5:=p6 5 _ rfl;have k6:=p6 6 _ rfl;have k7:=p6 7 _ rfl;have k8:=p6 8 _ rfl;simp only[Nat.add_zero]at k0;have Ni:Below w7.heap.size w7 (w7.alloc (.cells Zs 57)):=bZ.alloc aQ _;have q0:=Field.ak Ni k0;have q1:=Field.ak Ni k1;have q2:=Field.ak Ni k2;have q3:=Field.ak Ni k3;have q4:=Field.ak Ni k4;have q5:=Field.ak Ni k5;have q6:=Field.ak Ni k6;have q7:=Field.ak Ni k7;have q8:=Field.ak Ni k8;have Yr:Below w7.heap.size w7 (w7.alloc (.cells (Aa st ow sm (b3 == 1) (b4 == 1) us ge ep ve) 57)).drew:=(bZ.alloc aQ _).drew;have Nj:=AU.later Yr
 have hL8:Laid (w7.alloc (.cells (Aa st ow sm (b3 == 1) (b4 == 1) us ge ep ve) 57)).drew:=hL7.stable (Yr.block 0 (hL7.lt aT));clear p1 p2 p3 p4 p5 p6 ho hfp AU hL7;generalize w.alloc (.cells Zs 57)=wa at *;have HE:=uH hE;have Ry:=uH Nj;have HL8:=uH hL8;have HA0:=uH Yp;clear hE Nj hL8 hL Yp e1 Ni Yr;go_wp2_with fail
 go_region_held3 (fun w'=>w'.cell? ⟨pg,po,none⟩=some (.i st)/\w'.cell? ⟨pg,po+1,none⟩=some (.i ow)/\w'.cell? ⟨pg,po+2,none⟩=some (.i sm)/\w'.cell? ⟨pg,po+3,none⟩=some (.i b3)/\w'.cell? ⟨pg,po+4,none⟩=some (.i b4)/\w'.cell? ⟨pg,po+5,none⟩=some (.i us)/\w'.cell? ⟨pg,po+6,none⟩=some (.i ge)/\w'.cell? ⟨pg,po+7,none⟩=some (.i ep)/\w'.cell? ⟨pg,po+8,none⟩=some (.i ve)) (first | go_keep | exact⟨aI,aI,aI,aI,aI,aI,aI,aI,aI⟩) (fail)
 have hg:af (w7.alloc (.cells (Aa st ow sm (b3 == 1) (b4 == 1) us ge ep ve) 57)).drew w7.heap.size (Aa st ow sm (b3 == 1) (b4 == 1) us ge ep ve) 57:=af.new w7 _ _;generalize (w7.alloc (.cells (Aa st ow sm (b3 == 1) (b4 == 1) us ge ep ve) 57)).drew=w9 at *;clear k0 k1 k2 k3 k4 k5 k6 k7 k8 q0 q1 q2 q3 q4 q5 q6 q7 q8;have c0:w9.cell? ⟨w7.heap.size,0,none⟩=some (.i st):=by rw[af.cell hg];rfl
 have c1:w9.cell? ⟨w7.heap.size,1,none⟩=some (.i ow):=by rw[af.cell hg];rfl
 have c2:w9.cell? ⟨w7.heap.size,2,none⟩=some (.i sm):=by rw[af.cell hg];rfl
 have c3:w9.cell? ⟨w7.heap.size,3,none⟩=some (.bool (b3 == 1)):=by rw[af.cell hg];rfl
 have c4:w9.cell? ⟨w7.heap.size,4,none⟩=some (.bool (b4 == 1)):=by rw[af.cell hg];rfl
 have c5:w9.cell? ⟨w7.heap.size,5,none⟩=some (.i us):=by rw[af.cell hg];rfl
 have c6:w9.cell? ⟨w7.heap.size,6,none⟩=some (.i ge):=by rw[af.cell hg];rfl
 have c7:w9.cell? ⟨w7.heap.size,7,none⟩=some (.i ep):=by rw[af.cell hg];rfl
 have c8:w9.cell? ⟨w7.heap.size,8,none⟩=some (.i ve):=by rw[af.cell hg];rfl
 generalize w7.heap.size=fb at *;go_wp2_with fail;refine(HE.out _ HL8.out).mono ?_;rintro e wx ⟨⟨z,rfl,hz⟩,hbx⟩;have hKx:=Ry.out.later hbx;have d0:=cC st (Field.ak hbx c0);have d1:=cC ow (Field.ak hbx c1);have d2:=cC sm (Field.ak hbx c2);have d3:=cV (.bool (b3 == 1)) (Field.ak hbx c3);have d4:=cV (.bool (b4 == 1)) (Field.ak hbx c4);have d5:=cC us (Field.ak hbx c5);have d6:=cC ge (Field.ak hbx c6);have d7:=cC ep (Field.ak hbx c7);have d8:=cC ve (Field.ak hbx c8);clear c0 c1 c2 c3 c4 c5 c6 c7 c8;have hB:∀ r:S,Below w.heap.size w (wx.setRow w.heap.size r.cells):=fun r=>(hKx.set r).below HA0.out aQ
 obtain⟨-,Zz,hzz,hgz⟩:=id hKx;have hgx:af wx fb (Aa st ow sm (b3 == 1) (b4 == 1) us ge ep ve) 57:=(hbx.block _ (af.lt hg)).trans hg;have HKx:=uH hKx;have HB:=uH hB;have HZ:=uH hz;clear hKx hB hbx hz hg;dsimp only;cases ok;rotate_left
 focus
  obtain rfl:z=zz:=HZ.out rfl
  by_cases hzn:z=n
 ·have hd:(z != n)=false:=by simp[hzn]
  have hd2:(z == n)=true:=by simp[hzn]
  go_upto_region 7 with(fail);refine wp_region_lit ?_;refine grow hgx 57 (.tmp 6) underlying57 ?_;refine uR hgz (Aa st ow sm (b3 == 1) (b4 == 1) us ge ep ve) 57 (.tmp 2) (.tmp 56) ?_ (hsz:=hzz);go_wp2_with fail;refine jK w.heap.size (HKx.out.row ⟨st,ow,sm,b3 == 1,b4 == 1,us,ge,ep,ve⟩) underlying57 ?_;exact⟨rfl,HB.out ⟨st,ow,sm,b3 == 1,b4 == 1,us,ge,ep,ve⟩⟩
 focus
  have hd:(z != n)=true:=by simp[hzn]
  have hd2:(z == n)=false:=by simp[hzn]
 rotate_left
 all_goals
  go_upto_region 6 with(fail);refine wp_region_lit ?_;refine gl (.agg Zs) ?_;refine uR hgz Zs 57 (.tmp 2) (.tmp 55) ?_ (hsz:=hzz);go_wp2_with fail;refine jK w.heap.size (HKx.out.row S.zero) underlying57 ?_;exact⟨rfl,HB.out S.zero⟩
theorem Rz (n:Int):(cut n).wf:=by
 intro x hx;have b1:=kZ (cut n).broken;have b2:=kZ (cut n).marked;simp only[S.nums,List.mem_cons,List.not_mem_nil,or_false]at hx
 rcases hx with rfl | rfl | rfl | rfl | rfl | rfl | rfl | rfl | rfl<;>first | omega | (simp only[cut];omega)
theorem aS (w:World) (n:Int) (hL:Laid w):Calls prog 71 #[.i n] w fun e w'=>e=.returned (.tuple #[((dec n).getD S.zero).val,.bool (dec n).isSome])/\Below w.heap.size w w':=by
 have h:=Dl w n (n % 8) (n / 8 % 16) (n / 128 % 256) (n / 32768 % 2) (n / 65536 % 2) (n / 131072 % 64) (n / 8388608 % 4096) (n / 34359738368 % 4096) (n / 140737488355328 % 32768) (cut n).word (cut n).right hL (Rw n) (fun W hW=>by
  change Calls _ _ #[S.val (cut n)] W _
  by_cases hr:(cut n).right=true
  ·refine(fP W _ hW hr).mono ?_;rintro e w' ⟨rfl,hb⟩;exact⟨⟨_,by rw[hr],fun _=>rfl⟩,hb⟩
  ·refine(vN W _ hW (Rz n)).mono ?_;rintro e w' ⟨z,rfl,hb⟩;exact⟨⟨z,rfl,fun h=>absurd h hr⟩,hb⟩)
 refine h.mono ?_;rintro e w' ⟨rfl,hb⟩;refine⟨?_,hb⟩;rw[Nu]
 by_cases hr:(cut n).right=true/\(cut n).word=n
 ·rw[if_pos hr,hr.1,hr.2];simp;rfl
 ·rw[if_neg hr]
  have:((cut n).right && (cut n).word == n)=false:=by
   cases h1:(cut n).right<;>simp_all
  rw[this];rfl
end Slot
namespace Cl
open Go.RowKit Hp ah aj Tk
def yX (c:Cf) (f:Tk.Fd):Array Value:=(Af c.workers c.slots c.streams c.waiters c.uses f.kind f.own f.at' f.word f.found)
def bQ (W:World) (fb:Nat) (c:Cf) (f:Tk.Fd):Prop:=af W fb (yX c f) 217
section
variable {W:World} {fb:Nat} {c:Cf} {f:Tk.Fd}
theorem bQ.lt (h:bQ W fb c f):fb < W.heap.size:=af.lt h
theorem bQ.below {W':World} (h:bQ W fb c f) (hb:Below W.heap.size W W'):bQ W' fb c f:=(hb.block _ h.lt).trans h
theorem bQ.aK {W':World} {F:Nat->Prop} (h:bQ W fb c f) (hc:aD F W W') (hF:¬ F fb):bQ W' fb c f:=(hc.block _ h.lt hF).trans h
theorem bQ.cell (h:bQ W fb c f) (i:Nat):W.cell? ⟨fb,i,none⟩=(yX c f)[i]?:=af.cell h i
theorem bQ.frozen (h:bQ W fb c f) (i:Nat):W.frozen? ⟨fb,i,none⟩=false:=af.frozen h i
theorem bQ.qR (h:bQ W fb c f) (b:Bool):bQ (W.setCell ⟨fb,9,none⟩ (.bool b)) fb c {f with found:=b}:=af.aB h 9 _
theorem bQ.vz (h:bQ W fb c f) (x:Int):bQ (W.setCell ⟨fb,8,none⟩ (.i x)) fb c {f with word:=x}:=af.aB h 8 _
theorem bQ.setAt (h:bQ W fb c f) (x:Nat):bQ (W.setCell ⟨fb,7,none⟩ (.i x)) fb c {f with at':=x}:=af.aB h 7 _
end
theorem vT (w:World) (c:Cf) (kind own:Int):Calls prog 161 #[c.val,.i kind,.i own,.i 0] w fun e w'=>∃ fb,e=.returned (ptr fb)/\bQ w' fb c (Tk.Fd.new kind own)/\w.heap.size<=fb/\Below w.heap.size w w':=by
 obtain⟨cw,cs,cst,jm,cu⟩:=c
 go_enter func161,ntmps161
 simp only[Cf.val,Cf.cells];go_wp2_with fail;go_ret;refine⟨w.heap.size+1,rfl,?_,ag,(bZ.alloc aQ _).alloc au _⟩;exact heap_alloc2_new _ _ _
theorem kr {W:World} {fb:Nat} {c:Cf} {f:Tk.Fd} (h:bQ W fb c f):Calls prog 220 #[ptr fb] W fun e w'=>e=.returned (.bool (decide (c.slots<=(f.at':Int))))/\Below W.heap.size W w':=by
 have c1:=cC c.slots (h.cell 1);have c7:=cC f.at' (h.cell 7);clear h
 go_enter func220,ntmps220
 go_wp2_with fail;go_region;go_wp2_with fail;go_ret;exact⟨rfl,bY⟩
theorem dV {W:World} {fb:Nat} {c:Cf} {f:Tk.Fd} (h:bQ W fb c f):Calls prog 164 #[ptr fb] W fun e w'=>e=.returned (if f.found then .tuple #[.i f.at',.i f.word,.bool true] else .tuple #[.i 0,.i 0,.bool false])/\Below W.heap.size W w':=by
 have c7:=cC f.at' (h.cell 7);have c8:=cC f.word (h.cell 8);have c9:=cV (.bool f.found) (h.cell 9);clear h
 go_enter func164,ntmps164
 cases hf:f.found
 ·rw[hf]at c9;go_wp2_with fail
  go_ret3
  exact⟨rfl,Below.refl _ _⟩
 ·rw[hf]at c9;go_wp2_with fail;go_region;go_wp2_with fail
  go_ret3
  exact⟨rfl,bY⟩
theorem oH {W:World} {fb:Nat} {c:Cf} {f:Tk.Fd} (h:bQ W fb c f):Calls prog 244 #[ptr fb] W fun e w'=>e=.returned (.tuple #[])/\bQ w' fb c f.again/\aD (fun k=>k=fb) W w':=by
 have c9:=cV (.bool f.found) (h.cell 9);have f9:=h.frozen 9;have H:=uH h;clear h
 go_enter func244,ntmps244
 go_wp2_with fail
 first | go_end0 | refine bP ?_
 exact⟨rfl,H.out.qR false,(aD.refl _ _).setCell _ _ (fun _=>rfl)⟩
theorem sI {W:World} {fb:Nat} {c:Cf} {f:Tk.Fd} (h:bQ W fb c f) (hat:f.at'<=1000):Calls prog 223 #[ptr fb] W fun e w'=>e=.returned (.tuple #[])/\bQ w' fb c f.go/\aD (fun k=>k=fb) W w':=by
 have c7:=cC f.at' (h.cell 7);have f7:=h.frozen 7;have c9:=cV (.bool f.found) (h.cell 9);have f9:=h.frozen 9;have H:=uH h;have e1:wrap64 ((f.at':Int)+1)=((f.at'+1:Nat):Int):=by unfold wrap64;omega
 clear h
 go_enter func223,ntmps223
 cases hf:f.found
 ·rw[hf]at c9;go_wp2_with fail
  first | go_end0 | refine bP ?_
  exact⟨rfl,by unfold Tk.Fd.go;rw[hf];exact H.out,aD.refl _ _⟩
 ·rw[hf]at c9;go_wp2_with fail
  first | go_end0 | refine bP ?_
  have h1:aD (fun k=>k=fb) W (W.setCell ⟨fb,9,none⟩ (.bool false)):=(aD.refl _ _).setCell _ _ (fun _=>rfl);refine⟨rfl,?_,h1.setCell ⟨fb,7,none⟩ _ (fun _=>rfl)⟩;have h2:=(H.out.qR false).setAt (f.at'+1);rw[show((f.at'+1:Nat):Int)=(f.at':Int)+1 by omega]at h2;unfold Tk.Fd.go;rw[hf,if_pos rfl];exact h2
end Cl
namespace Cl
open Go.RowKit Hp ah aj Tk Slot
def uk (W:World) (fb mb wb:Nat) (c:Cf) (ws:List Int) (tc:Int) (r:Bool×Tk.Fd×Nat) (e:Ending) (W':World):Prop:=
 e=.returned (.bool r.1)/\bQ W' fb c r.2.1/\bB W' mb wb ws (tc+r.2.2)/\aD (fun k=>k=fb\/dJ mb wb k) W W'
structure Apart (fb mb wb:Nat):Prop where
 m:fb≠mb
 w:fb≠wb
 f0:0≠fb
 m0:0≠mb
 w0:0≠wb
structure Small (c:Cf):Prop where
 w:0<=c.workers/\c.workers<=8
 s:0<=c.slots/\c.slots<=100
theorem vR {W:World} {fb mb wb:Nat} {c:Cf} {f:Tk.Fd} {ws:List Int} {tc:Int} (h:bQ W fb c f) (hm:bB W mb wb ws tc) (hc:Small c) (hI:f.found=true\/ns c<=f.at'):
  Calls prog 163 #[ptr fb,ptr mb] W (uk W fb mb wb c ws tc (f.step c ws)):=by
 have hs:f.step c ws=(true,f,0):=by unfold Fd.step;rw[if_pos hI]
 rw[hs];have c9:=cV (.bool f.found) (h.cell 9);have hal:=kr h;have hpost:∀ W',Below W.heap.size W W'->uk W fb mb wb c ws tc (true,f,0) (.returned (.bool true)) W':=fun W' hb=>⟨rfl,h.below hb,by simpa using hm.below hb,aD.aF hb⟩
 have HP:=uH hpost;have HI:=uH hI;clear hpost hs h hm hI
 go_enter func163,ntmps163
 cases hf:f.found
 ·have hns:(c.slots<=(f.at':Int)):=by
   rcases HI.out with h1 | h1
   ·rw[hf]at h1;cases h1
   ·have h2:=hc.s;unfold ns at h1;omega
  have hd:decide (c.slots<=(f.at':Int))=true:=by simpa using hns
  rw[hf]at c9;rw[hd]at hal;go_wp2_with fail;refine hal.mono ?_;rintro e w5 ⟨rfl,hb⟩;clear hal;go_wp2_with fail;go_ret;exact HP.out _ hb
 ·rw[hf]at c9;go_wp2_with fail;go_ret;exact HP.out _ bZ
theorem Dq {W:World} {fb mb wb:Nat} {c:Cf} {f:Tk.Fd} {ws:List Int} {tc x:Int} (hL:Laid W) (h:bQ W fb c f) (hm:bB W mb wb ws tc) (hc:Small c) (ha:Apart fb mb wb) (ht:0<=tc/\tc<=4000000000000000000)
  (hk:f.kind=0\/f.kind=1\/f.kind=2\/f.kind=3\/f.kind=4\/f.kind=6) (hf:f.found=false) (hat:f.at' < ns c) (hx:ws[sc c f.at']? =some x):
  Calls prog 163 #[ptr fb,ptr mb] W (uk W fb mb wb c ws tc (f.step c ws)):=by
 have hal:=kr h;have hrd:rd ws (sc c f.at')=x:=by unfold rd;rw[List.getD_eq_getElem?_getD,hx];rfl
 have hs:f.step c ws=if eF x f.kind f.own then (true,{f with word:=x,found:=true},1) else (decide (ns c<=f.at'+1),{f with at':=f.at'+1},1):=by
  unfold Fd.step;rw[if_neg (by rw[hf];simp;exact hat),hrd]
 have HS:=uH hs
 have hd:decide (c.slots<=(f.at':Int))=false:=by
  have h2:=hc.s;unfold ns at hat;simp;omega
 rw[hd]at hal;have hF:=h;have hcell:=fun i=>h.cell i
 simp only[yX,hf]at hcell;obtain⟨a0,a1,a2,a3,a4⟩:=cQ c hcell;have a5:=cC f.kind (hcell 5);have a6:=cC f.own (hcell 6);have a7:=cC f.at' (hcell 7);have a8:=cC f.word (hcell 8);have a9:=cV (.bool false) (hcell 9);clear hcell;have hE:=uH (show Laid W/\bQ W fb c f/\bB W mb wb ws tc from⟨hL,h,hm⟩);clear hs hL h hm hF
 go_enter func163,ntmps163
 go_wp2_with fail;refine hal.mono ?_;rintro e w5 ⟨rfl,hb5⟩;have hL5:=hE.out.1.stable (hb5.block 0 (hE.out.1.lt aT));have uS:=hE.out.2.1.below hb5;have gq:=hE.out.2.2.below hb5;have b0:=cC c.workers (Field.ak hb5 a0);have b1:=cC c.slots (Field.ak hb5 a1);have b2:=cC c.streams (Field.ak hb5 a2);have b3:=cC c.waiters (Field.ak hb5 a3);have b4:=cC c.uses (Field.ak hb5 a4);have b5:=cC f.kind (Field.ak hb5 a5);have b6:=cC f.own (Field.ak hb5 a6);have b7:=cC f.at' (Field.ak hb5 a7);have b8:=cC f.word (Field.ak hb5 a8);have b9:=cV (.bool false) (Field.ak hb5 a9);clear hal a0 a1 a2 a3 a4 a5 a6 a7 a8 a9;have hsl:=fun W=>bg W c f.at' hc.w ⟨by unfold ns at hat;omega,hc.s.2⟩
 have hsc:(3+2 * c.workers+(f.at':Int))=((sc c f.at':Nat):Int):=by have:=hc.w;unfold sc;omega
 simp only[hsc,Cf.val,Cf.cells]at hsl;have hld:=fun W (h:bB W mb wb ws tc)=>aU h ht (sc c f.at') x hx
 have H5:=uH (show Laid w5/\bQ w5 fb c f/\bB w5 mb wb ws tc from⟨hL5,uS,gq⟩);have J5:=gq.below bY;have YH:=uH hb5;clear hL5 uS gq hb5;go_wp2_with fail
 go_region_held3 (fun w'=>w'.cell? ⟨fb,0,none⟩=some (.i c.workers)/\w'.cell? ⟨fb,1,none⟩=some (.i c.slots)/\w'.cell? ⟨fb,2,none⟩=some (.i c.streams)/\w'.cell? ⟨fb,3,none⟩=some (.i c.waiters)/\w'.cell? ⟨fb,4,none⟩=some (.i c.uses)/\w'.cell? ⟨fb,5,none⟩=some (.i f.kind)/\w'.cell? ⟨fb,6,none⟩=some (.i f.own)/\w'.cell? ⟨fb,7,none⟩=some (.i f.at')/\w'.cell? ⟨fb,8,none⟩=some (.i f.word)/\w'.cell? ⟨fb,9,none⟩=some (.bool false)) (first | go_keep | exact⟨aI,aI,aI,aI,aI,aI,aI,aI,aI,aI⟩)
  ((first
  | (go_at_call 54;refine(hsl _).mono ?_;rintro e w6 ⟨rfl,hb6⟩;have jH:=J5.below hb6;have d0:=Field.ak hb6 b0;have d1:=Field.ak hb6 b1;have d2:=Field.ak hb6 b2;have d3:=Field.ak hb6 b3;have d4:=Field.ak hb6 b4;have d5:=Field.ak hb6 b5;have d6:=Field.ak hb6 b6;have d7:=Field.ak hb6 b7;have d8:=Field.ak hb6 b8;have d9:=Field.ak hb6 b9)
  | (go_at_call 56;refine(hld _ jH).mono ?_;rintro e w7 ⟨rfl,qQ,eY⟩;have k0:=(eY.cell (p:=⟨fb,0,none⟩) (dN d0) (fun e=>e.elim ha.m ha.w)).trans d0;have k1:=(eY.cell (p:=⟨fb,1,none⟩) (dN d1) (fun e=>e.elim ha.m ha.w)).trans d1;have k2:=(eY.cell (p:=⟨fb,2,none⟩) (dN d2) (fun e=>e.elim ha.m ha.w)).trans d2;have k3:=(eY.cell (p:=⟨fb,3,none⟩) (dN d3) (fun e=>e.elim ha.m ha.w)).trans d3;have k4:=(eY.cell (p:=⟨fb,4,none⟩) (dN d4) (fun e=>e.elim ha.m ha.w)).trans d4;have k5:=(eY.cell (p:=⟨fb,5,none⟩) (dN d5) (fun e=>e.elim ha.m ha.w)).trans d5;have k6:=(eY.cell (p:=⟨fb,6,none⟩) (dN d6) (fun e=>e.elim ha.m ha.w)).trans d6;have k7:=(eY.cell (p:=⟨fb,7,none⟩) (dN d7) (fun e=>e.elim ha.m ha.w)).trans d7;have k8:=(eY.cell (p:=⟨fb,8,none⟩) (dN d8) (fun e=>e.elim ha.m ha.w)).trans d8;have k9:=(eY.cell (p:=⟨fb,9,none⟩) (dN d9) (fun e=>e.elim ha.m ha.w)).trans d9)))
 have hL6:Laid w6:=(show Laid w5.drew from H5.out.1).stable (hb6.block 0 ((show Laid w5.drew from H5.out.1).lt aT));have hL7:Laid w7:=hL6.stable (eY.block 0 (hL6.lt aT) (fun e=>e.elim ha.m0 ha.w0));have um:bQ w7 fb c f:=((show bQ w5.drew fb c f from H5.out.2.1).below hb6).aK eY (fun e=>e.elim ha.m ha.w);have g5:aD (fun k=>k=fb\/dJ mb wb k) W w5:=aD.aF YH.out;have g7:aD (fun k=>k=fb\/dJ mb wb k) W w7:=(g5.drew.trans (aD.aF hb6) (fun _ _ h=>h)).trans eY (fun _ _ h=>.inr h);have hdc:=aS w7 x hL7;have hns:f.at'+1<=101:=by have:=hc.s;unfold ns at hat;omega
 have e7:wrap64 ((f.at':Int)+1)=(f.at':Int)+1:=by unfold wrap64;omega
 have hdd:decide (c.slots<=((f.at'+1:Nat):Int))=decide (ns c<=f.at'+1):=by
  have:=hc.s;unfold ns
  apply decide_eq_decide.mpr
  omega
 have hmiss:∀ w9,bQ w9 fb c f->bB w9 mb wb ws (tc+1)->aD (fun k=>k=fb\/dJ mb wb k) W w9->bQ (w9.setCell ⟨fb,7,none⟩ (.i ((f.at':Int)+1))) fb c {f with at':=f.at'+1}/\
   (∀ dH,Below (w9.setCell ⟨fb,7,none⟩ (.i ((f.at':Int)+1))).heap.size (w9.setCell ⟨fb,7,none⟩ (.i ((f.at':Int)+1))) dH->eF x f.kind f.own=false->uk W fb mb wb c ws tc (f.step c ws) (.returned (.bool (decide (c.slots<=((f.at'+1:Nat):Int))))) dH):=by
  intro w9 h1 h2 h3;have q:bQ (w9.setCell ⟨fb,7,none⟩ (.i ((f.at':Int)+1))) fb c {f with at':=f.at'+1}:=h1.setAt (f.at'+1);refine⟨q,fun dH hb hfw=>?_⟩;have q2:=(h2.stable (heap_setCell_other w9 ⟨fb,7,none⟩ mb (.i ((f.at':Int)+1)) (fun e=>ha.m e.symm)) (heap_setCell_other w9 ⟨fb,7,none⟩ wb (.i ((f.at':Int)+1)) (fun e=>ha.w e.symm)))
  have q3:aD (fun k=>k=fb\/dJ mb wb k) W (w9.setCell ⟨fb,7,none⟩ (.i ((f.at':Int)+1))):=h3.setCell _ _ (fun _=>.inl rfl);rw[HS.out,hfw];exact⟨by rw[hdd];rfl,q.below hb,q2.below hb,q3.trans (aD.aF hb) (fun _ _ h=>h)⟩
 have HM:=uH hmiss;have H7:=uH (show bQ w7 fb c f/\bB w7 mb wb ws (tc+1)/\aD (fun k=>k=fb\/dJ mb wb k) W w7 from⟨um,qQ,g7⟩);have z7:=um.frozen 7;have z8:=um.frozen 8;have z9:=um.frozen 9;clear hmiss hL6 hL7 um qQ jH J5 eY hb6 g5 g7 hsl hld hsc d0 d1 d2 d3 d4 d5 d6 d7 d8 d9 b0 b1 b2 b3 b4 b5 b6 b7 b8 b9
 cases yY:dec x with
 | none=>
  have hfw:eF x f.kind f.own=false:=by unfold eF;rw[yY]
  rw[yY]at hdc;simp only[Option.getD_none,Option.isSome_none,S.val,S.cells,ai.S.zero]at hdc;go_wp2_with fail;refine hdc.mono ?_;rintro e w8 ⟨rfl,cZ⟩;have jy:Below w7.heap.size w7 (w8.alloc (.cells Zs 57)).drew:=(cZ.trans (bZ.alloc aQ _ |>.mono cZ.size)).drew;have n7:=Field.ak jy k7;have y7:=Field.gW jy k7 z7;have J6:=HM.out _ (H7.out.1.below jy) (H7.out.2.1.below jy) (H7.out.2.2.trans (aD.aF jy) (fun _ _ h=>h));have J7:=uH J6;clear hdc J6 jy cZ;go_wp2_with fail;go_region;go_wp2_with fail;refine(kr J7.out.1).mono ?_;rintro e dH ⟨rfl,jA⟩;have hP:=J7.out.2 dH jA hfw;have HP:=uH hP;clear hP jA;go_wp2_with fail;go_ret;exact HP.out
 | some s=>
  have hfw:eF x f.kind f.own=Find.fits s f.kind f.own:=by unfold eF;rw[yY]
  have hfit:=fun W=>Find.vS W s f.kind f.own hk
  rw[yY]at hdc;obtain⟨st,ow,sm,br,ma,us,ge,ep,ve⟩:=s;generalize Find.fits ⟨st,ow,sm,br,ma,us,ge,ep,ve⟩ f.kind f.own=fv at *;simp only[Option.getD_some,Option.isSome_some,S.val,S.cells]at hdc hfit;go_wp2_with fail;refine hdc.mono ?_;rintro e w8 ⟨rfl,cZ⟩;have jy:Below w7.heap.size w7 (w8.alloc (.cells (Aa st ow sm br ma us ge ep ve) 57)):=cZ.trans (bZ.alloc aQ _ |>.mono cZ.size);have n0:=Field.ak jy k0;have n1:=Field.ak jy k1;have n2:=Field.ak jy k2;have n3:=Field.ak jy k3;have n4:=Field.ak jy k4;have n5:=Field.ak jy k5;have n6:=Field.ak jy k6;have n7:=Field.ak jy k7;have n8:=Field.ak jy k8;have n9:=Field.ak jy k9;have p0:(w8.alloc (.cells (Aa st ow sm br ma us ge ep ve) 57)).cell? ⟨w8.heap.size,0,none⟩=some (.i st):=au
  have p1:(w8.alloc (.cells (Aa st ow sm br ma us ge ep ve) 57)).cell? ⟨w8.heap.size,1,none⟩=some (.i ow):=au
  have p2:(w8.alloc (.cells (Aa st ow sm br ma us ge ep ve) 57)).cell? ⟨w8.heap.size,2,none⟩=some (.i sm):=au
  have p3:(w8.alloc (.cells (Aa st ow sm br ma us ge ep ve) 57)).cell? ⟨w8.heap.size,3,none⟩=some (.bool br):=au
  have p4:(w8.alloc (.cells (Aa st ow sm br ma us ge ep ve) 57)).cell? ⟨w8.heap.size,4,none⟩=some (.bool ma):=au
  have p5:(w8.alloc (.cells (Aa st ow sm br ma us ge ep ve) 57)).cell? ⟨w8.heap.size,5,none⟩=some (.i us):=au
  have p6:(w8.alloc (.cells (Aa st ow sm br ma us ge ep ve) 57)).cell? ⟨w8.heap.size,6,none⟩=some (.i ge):=au
  have p7:(w8.alloc (.cells (Aa st ow sm br ma us ge ep ve) 57)).cell? ⟨w8.heap.size,7,none⟩=some (.i ep):=au
  have p8:(w8.alloc (.cells (Aa st ow sm br ma us ge ep ve) 57)).cell? ⟨w8.heap.size,8,none⟩=some (.i ve):=au
  have y7:=Field.gW jy k7 z7;have y8:=Field.gW jy k8 z8;have y9:=Field.gW jy k9 z9;have HA:=uH jy;clear hdc jy cZ;go_wp2_with fail;generalize w8.alloc (.cells (Aa st ow sm br ma us ge ep ve) 57)=wz at *;generalize w8.heap.size=sb at *
  go_region_held3 (fun w'=>w'.cell? ⟨fb,0,none⟩=some (.i c.workers)/\w'.cell? ⟨fb,1,none⟩=some (.i c.slots)/\w'.cell? ⟨fb,2,none⟩=some (.i c.streams)/\w'.cell? ⟨fb,3,none⟩=some (.i c.waiters)/\w'.cell? ⟨fb,4,none⟩=some (.i c.uses)/\w'.cell? ⟨fb,5,none⟩=some (.i f.kind)/\w'.cell? ⟨fb,6,none⟩=some (.i f.own)/\w'.cell? ⟨fb,7,none⟩=some (.i f.at')/\w'.cell? ⟨fb,8,none⟩=some (.i f.word)/\w'.cell? ⟨fb,9,none⟩=some (.bool false)/\w'.cell? ⟨sb,0,none⟩=some (.i st)/\w'.cell? ⟨sb,1,none⟩=some (.i ow)/\w'.cell? ⟨sb,2,none⟩=some (.i sm)/\w'.cell? ⟨sb,3,none⟩=some (.bool br)/\w'.cell? ⟨sb,4,none⟩=some (.bool ma)/\w'.cell? ⟨sb,5,none⟩=some (.i us)/\w'.cell? ⟨sb,6,none⟩=some (.i ge)/\w'.cell? ⟨sb,7,none⟩=some (.i ep)/\w'.cell? ⟨sb,8,none⟩=some (.i ve)) (first | go_keep | exact⟨aI,aI,aI,aI,aI,aI,aI,aI,aI,aI,aI,aI,aI,aI,aI,aI,aI,aI,aI⟩)
   ((first
   | (go_at_call 85;refine(hfit _).mono ?_;rintro e w9 ⟨rfl,dm⟩;have r0:=Field.ak dm n0;have r1:=Field.ak dm n1;have r2:=Field.ak dm n2;have r3:=Field.ak dm n3;have r4:=Field.ak dm n4;have r5:=Field.ak dm n5;have r6:=Field.ak dm n6;have r7:=Field.ak dm n7;have r8:=Field.ak dm n8;have r9:=Field.ak dm n9;have s0:=Field.ak dm p0;have s1:=Field.ak dm p1;have s2:=Field.ak dm p2;have s3:=Field.ak dm p3;have s4:=Field.ak dm p4;have s5:=Field.ak dm p5;have s6:=Field.ak dm p6;have s7:=Field.ak dm p7;have s8:=Field.ak dm p8)))
  have v7:=Field.gW dm n7 y7;have v8:=Field.gW dm n8 y8;have v9:=Field.gW dm n9 y9;have NI:Below w7.heap.size w7 w9:=HA.out.drew.trans (dm.mono HA.out.size);have q1:=H7.out.1.below NI;have q2:=H7.out.2.1.below NI;have q3:=H7.out.2.2.trans (aD.aF NI) (fun _ _ h=>h);have J6:=HM.out _ q1 q2 q3;have J7:=uH J6;have HQ:=uH (show bQ w9 fb c f/\bB w9 mb wb ws (tc+1)/\aD (fun k=>k=fb\/dJ mb wb k) W w9 from⟨q1,q2,q3⟩);clear J6 NI dm q1 q2 q3 hfit n0 n1 n2 n3 n4 n5 n6 n7 n8 n9 p0 p1 p2 p3 p4 p5 p6 p7 p8 s0 s1 s2 s3 s4 s5 s6 s7 s8 k0 k1 k2 k3 k4 k5 k6 k7 k8 k9 y7 y8 y9 z7 z8 z9;cases fv
  ·go_wp2_with fail;refine(kr J7.out.1).mono ?_;rintro e dH ⟨rfl,jA⟩;have hP:=J7.out.2 dH jA hfw;have HP:=uH hP;clear hP jA;go_wp2_with fail;go_ret;exact HP.out
  ·go_wp2_with fail;go_ret;obtain⟨q1,q2,q3⟩:=HQ.out;have u1:bQ ((w9.setCell ⟨fb,8,none⟩ (.i x)).setCell ⟨fb,9,none⟩ (.bool true)) fb c {f with word:=x,found:=true}:=(q1.vz x).qR true;have u2:bB ((w9.setCell ⟨fb,8,none⟩ (.i x)).setCell ⟨fb,9,none⟩ (.bool true)) mb wb ws (tc+1):=(q2.stable (heap_setCell_other w9 ⟨fb,8,none⟩ mb (.i x) (fun e=>ha.m e.symm)) (heap_setCell_other w9 ⟨fb,8,none⟩ wb (.i x) (fun e=>ha.w e.symm))).stable (heap_setCell_other _ ⟨fb,9,none⟩ mb (.bool true) (fun e=>ha.m e.symm)) (heap_setCell_other _ ⟨fb,9,none⟩ wb (.bool true) (fun e=>ha.w e.symm));have u3:aD (fun k=>k=fb\/dJ mb wb k) W (w9.setCell ⟨fb,8,none⟩ (.i x)):=q3.setCell _ _ (fun _=>.inl rfl);rw[HS.out,hfw];exact⟨rfl,u1,u2,u3.setCell _ _ (fun _=>.inl rfl)⟩
end Cl
namespace Cl
open Go.RowKit Hp ah aj Tk
def zL (rb:Nat):Nat->Value
 | 0=>.func (.func 257) #[ptr rb] #[]
 | 1=>.func (.func 273) #[ptr rb] #[]
 | 2=>.func (.func 277) #[ptr rb] #[]
 | 3=>.func (.func 278) #[ptr rb] #[]
 | _=>.func (.func 272) #[ptr rb] #[]
def qG (rb:Nat) (r:Rt):Array Value:=#[.i r.cell,.i r.word,.i r.aJ,zL rb r.st,.bool r.swapped,.bool r.done]
def cK (W:World) (rb:Nat) (r:Rt):Prop:=af W rb (qG rb r) 220
section
variable {W:World} {rb:Nat} {r:Rt}
theorem cK.lt (h:cK W rb r):rb < W.heap.size:=af.lt h
theorem cK.below {W':World} (h:cK W rb r) (hb:Below W.heap.size W W'):cK W' rb r:=(hb.block _ h.lt).trans h
theorem cK.aK {W':World} {F:Nat->Prop} (h:cK W rb r) (hc:aD F W W') (hF:¬ F rb):cK W' rb r:=(hc.block _ h.lt hF).trans h
theorem cK.cell (h:cK W rb r) (i:Nat):W.cell? ⟨rb,i,none⟩=(qG rb r)[i]?:=af.cell h i
theorem cK.frozen (h:cK W rb r) (i:Nat):W.frozen? ⟨rb,i,none⟩=false:=af.frozen h i
theorem cK.vz (h:cK W rb r) (x:Int):cK (W.setCell ⟨rb,1,none⟩ (.i x)) rb {r with word:=x}:=af.aB h 1 _
theorem cK.L6 (h:cK W rb r) (x:Int):cK (W.setCell ⟨rb,2,none⟩ (.i x)) rb {r with aJ:=x}:=af.aB h 2 _
theorem cK.setSt (h:cK W rb r) (k:Nat):cK (W.setCell ⟨rb,3,none⟩ (zL rb k)) rb {r with st:=k}:=af.aB h 3 _
theorem cK.Es (h:cK W rb r) (b:Bool):cK (W.setCell ⟨rb,4,none⟩ (.bool b)) rb {r with swapped:=b}:=af.aB h 4 _
theorem cK.Pq (h:cK W rb r) (b:Bool):cK (W.setCell ⟨rb,5,none⟩ (.bool b)) rb {r with done:=b}:=af.aB h 5 _
end
theorem rQ {W:World} {rb mb:Nat} {r:Rt} (h:cK W rb r):Calls prog 272 #[ptr rb,ptr mb] W fun e w'=>e=.returned (.bool true)/\cK w' rb r.end'/\aD (fun k=>k=rb) W w':=by
 have c3:=cV (zL rb r.st) (h.cell 3);have c5:=cV (.bool r.done) (h.cell 5);have f3:=h.frozen 3;have f5:=h.frozen 5;have H:=uH h;clear h
 go_enter func272,ntmps272
 go_wp2_with fail;go_ret;have h1:aD (fun k=>k=rb) W (W.setCell ⟨rb,5,none⟩ (.bool true)):=(aD.refl _ _).setCell _ _ (fun _=>rfl);exact⟨rfl,(H.out.Pq true).setSt 4,h1.setCell ⟨rb,3,none⟩ _ (fun _=>rfl)⟩
theorem iG (w:World) (c:Cf) (i:Nat) (word:Int) (hc:Small c) (hi:i < ns c):Calls prog 221 #[c.val,.i i,.i word] w fun e w'=>∃ rb,e=.returned (ptr rb)/\cK w' rb (Rt.new (sc c i) word)/\w.heap.size<=rb/\Below w.heap.size w w':=by
 have hsl:=fun W=>bg W c i hc.w ⟨by have:=hc.s;unfold ns at hi;omega,hc.s.2⟩
 have hsc:(3+2 * c.workers+(i:Int))=((sc c i:Nat):Int):=by have:=hc.w;unfold sc;omega
 simp only[hsc,Cf.val,Cf.cells]at hsl
 go_enter func221,ntmps221
 simp only[Cf.val,Cf.cells];go_wp2_with fail;refine(hsl _).mono ?_;rintro e w5 ⟨rfl,hb5⟩;have hB:Below w.heap.size w w5:=(bZ.alloc aQ _).trans (hb5.mono au);clear hsl hb5;go_wp2_with fail;go_ret;refine⟨w5.heap.size,rfl,?_,hB.size,?_⟩
 ·exact af.new w5 _ _
 ·exact hB.trans ((bZ.alloc aQ _).mono hB.size)
def jJ (W:World) (rb mb wb:Nat) (tc:Int) (r:Bool×Rt×List Int×Nat) (e:Ending) (W':World):Prop:=
 e=.returned (.bool r.1)/\cK W' rb r.2.1/\bB W' mb wb r.2.2.1 (tc+r.2.2.2)/\aD (fun k=>k=rb\/dJ mb wb k) W W'
theorem bB.far {W:World} {mb wb:Nat} {ws:List Int} {tc:Int} (h:bB W mb wb ws tc) (g o:Nat) (v:Value) (h1:mb≠g) (h2:wb≠g):bB (W.setCell ⟨g,o,none⟩ v) mb wb ws tc:=
 h.stable (heap_setCell_other W ⟨g,o,none⟩ mb v h1) (heap_setCell_other W ⟨g,o,none⟩ wb v h2)
theorem IY {W:World} {rb mb wb:Nat} {r:Rt} {ws:List Int} {tc:Int} (h:cK W rb r) (hm:bB W mb wb ws tc) (ha:Apart rb mb wb) (ht:0<=tc/\tc<=4000000000000000000) (hl:3<=ws.length) (hst:r.st=1):
  Calls prog 273 #[ptr rb,ptr mb] W (jJ W rb mb wb tc (r.step ws)):=by
 have hx:ws[2]? =some (rd ws 2):=by unfold rd;rw[List.getD_eq_getElem?_getD,List.getElem?_eq_getElem ag];rfl
 have hs:r.step ws=(false,{r with aJ:=rd ws 2,st:=2},ws,1):=by unfold Rt.step;rw[hst];rfl
 rw[hs];have hld:Calls prog 56 #[ptr mb,.i 2] W _:=aU hm ht 2 _ hx;have c2:=cC r.aJ (h.cell 2);have c3:=cV (zL rb r.st) (h.cell 3);have f2:=h.frozen 2;have f3:=h.frozen 3;have H:=uH h;clear h hm hs hx
 go_enter func273,ntmps273
 go_wp2_with fail;refine hld.mono ?_;rintro e w5 ⟨rfl,wX,gz⟩;have hn:¬ dJ mb wb rb:=fun e=>e.elim ha.m ha.w
 have JK:=H.out.aK gz hn;have d2:=cC r.aJ (JK.cell 2);have d3:=cV (zL rb r.st) (JK.cell 3);have g2:=JK.frozen 2;have g3:=JK.frozen 3;have R5:=uH JK;have M5:=uH wX;have C5:=uH gz;clear hld JK wX gz c2 c3 f2 f3;go_wp2_with fail;go_ret;have h1:aD (fun k=>k=rb\/dJ mb wb k) W (w5.setCell ⟨rb,2,none⟩ (.i (rd ws 2))):=(C5.out.mono (fun _ _ h=>.inr h)).setCell _ _ (fun _=>.inl rfl);exact⟨rfl,(R5.out.L6 _).setSt 2,(M5.out.far rb 2 _ (fun e=>ha.m e.symm) (fun e=>ha.w e.symm)).far rb 3 _ (fun e=>ha.m e.symm) (fun e=>ha.w e.symm),h1.setCell ⟨rb,3,none⟩ _ (fun _=>.inl rfl)⟩
theorem I1 {W:World} {rb mb wb:Nat} {r:Rt} {ws:List Int} {tc:Int} (h:cK W rb r) (hm:bB W mb wb ws tc) (ha:Apart rb mb wb) (ht:0<=tc/\tc<=4000000000000000000) (hl:3<=ws.length) (hst:r.st=3):
  Calls prog 278 #[ptr rb,ptr mb] W (jJ W rb mb wb tc (r.step ws)):=by
 have hx:ws[2]? =some (rd ws 2):=by unfold rd;rw[List.getD_eq_getElem?_getD,List.getElem?_eq_getElem ag];rfl
 have hs:r.step ws=(true,r.end',ws.set 2 (wrap64 (rd ws 2+1)),1):=by unfold Rt.step;rw[hst];rfl
 rw[hs];have hld:Calls prog 279 #[ptr mb,.i 2,.i 1] W _:=Ns hm ht 2 _ hx 1;have H:=uH h;clear h hm hs hx
 go_enter func278,ntmps278
 go_wp2_with fail;refine hld.mono ?_;rintro e w5 ⟨rfl,wX,gz⟩;have hn:¬ dJ mb wb rb:=fun e=>e.elim ha.m ha.w
 have JK:=H.out.aK gz hn;have hen:=rQ (mb:=mb) JK;have M5:=uH wX;have C5:=uH gz;clear hld JK wX gz;go_wp2_with fail;refine hen.mono ?_;rintro e w6 ⟨rfl,hr6,hc6⟩
 have hP:jJ W rb mb wb tc (true,r.end',ws.set 2 (wrap64 (rd ws 2+1)),1) (.returned (.bool true)) w6:=
  ⟨rfl,hr6,M5.out.aK hc6 (fun e=>ha.m e.symm) (fun e=>ha.w e.symm),(C5.out.mono (fun _ _ h=>.inr h)).trans hc6 (fun _ _ h=>.inl h)⟩
 have HP:=uH hP;clear hP hen hr6 hc6;go_wp2_with fail;go_ret;exact HP.out
variable {rb mb wb:Nat} {tc:Int}
theorem Et {W:World} {r:Rt} {q:Bool×Rt×List Int×Nat} (h:cK W rb r) (hst:r.st=0)
  (hc:Calls prog 257 #[ptr rb,ptr mb] W (jJ W rb mb wb tc q)):
  Calls prog 168 #[ptr rb,ptr mb] W (jJ W rb mb wb tc q):=by
 have c3:W.cell? ⟨rb,3,none⟩=some (.func (.func 257) #[ptr rb] #[]):=by
  have c:=h.cell 3;unfold qG at c;rw[hst]at c;exact c
 clear h
 go_enter func168,ntmps168
 go_wp2_with fail;refine hc.mono ?_;rintro e w5 ⟨rfl,h2⟩;have H2:=uH h2;clear hc h2;go_wp2_with fail;go_ret;exact⟨rfl,H2.out⟩
theorem Eu {W:World} {r:Rt} {q:Bool×Rt×List Int×Nat} (h:cK W rb r) (hst:r.st=1)
  (hc:Calls prog 273 #[ptr rb,ptr mb] W (jJ W rb mb wb tc q)):
  Calls prog 168 #[ptr rb,ptr mb] W (jJ W rb mb wb tc q):=by
 have c3:W.cell? ⟨rb,3,none⟩=some (.func (.func 273) #[ptr rb] #[]):=by
  have c:=h.cell 3;unfold qG at c;rw[hst]at c;exact c
 clear h
 go_enter func168,ntmps168
 go_wp2_with fail;refine hc.mono ?_;rintro e w5 ⟨rfl,h2⟩;have H2:=uH h2;clear hc h2;go_wp2_with fail;go_ret;exact⟨rfl,H2.out⟩
theorem IZ {W:World} {r:Rt} {q:Bool×Rt×List Int×Nat} (h:cK W rb r) (hst:r.st=2)
  (hc:Calls prog 277 #[ptr rb,ptr mb] W (jJ W rb mb wb tc q)):
  Calls prog 168 #[ptr rb,ptr mb] W (jJ W rb mb wb tc q):=by
 have c3:W.cell? ⟨rb,3,none⟩=some (.func (.func 277) #[ptr rb] #[]):=by
  have c:=h.cell 3;unfold qG at c;rw[hst]at c;exact c
 clear h
 go_enter func168,ntmps168
 go_wp2_with fail;refine hc.mono ?_;rintro e w5 ⟨rfl,h2⟩;have H2:=uH h2;clear hc h2;go_wp2_with fail;go_ret;exact⟨rfl,H2.out⟩
theorem Ew {W:World} {r:Rt} {q:Bool×Rt×List Int×Nat} (h:cK W rb r) (hst:r.st=3)
  (hc:Calls prog 278 #[ptr rb,ptr mb] W (jJ W rb mb wb tc q)):
  Calls prog 168 #[ptr rb,ptr mb] W (jJ W rb mb wb tc q):=by
 have c3:W.cell? ⟨rb,3,none⟩=some (.func (.func 278) #[ptr rb] #[]):=by
  have c:=h.cell 3;unfold qG at c;rw[hst]at c;exact c
 clear h
 go_enter func168,ntmps168
 go_wp2_with fail;refine hc.mono ?_;rintro e w5 ⟨rfl,h2⟩;have H2:=uH h2;clear hc h2;go_wp2_with fail;go_ret;exact⟨rfl,H2.out⟩
theorem I4 {W:World} {r:Rt} {q:Bool×Rt×List Int×Nat} (h:cK W rb r) (hst:r.st=4)
  (hc:Calls prog 272 #[ptr rb,ptr mb] W (jJ W rb mb wb tc q)):
  Calls prog 168 #[ptr rb,ptr mb] W (jJ W rb mb wb tc q):=by
 have c3:W.cell? ⟨rb,3,none⟩=some (.func (.func 272) #[ptr rb] #[]):=by
  have c:=h.cell 3;unfold qG at c;rw[hst]at c;exact c
 clear h
 go_enter func168,ntmps168
 go_wp2_with fail;refine hc.mono ?_;rintro e w5 ⟨rfl,h2⟩;have H2:=uH h2;clear hc h2;go_wp2_with fail;go_ret;exact⟨rfl,H2.out⟩
end Cl
namespace Cl
open Go.RowKit Hp ah aj Tk
theorem oI {W:World} {rb:Nat} {r:Rt} (h:cK W rb r):Calls prog 169 #[ptr rb] W fun e w'=>e=.returned (.tuple #[.bool r.swapped,.bool r.done])/\Below W.heap.size W w':=by
 have c4:=cV (.bool r.swapped) (h.cell 4);have c5:=cV (.bool r.done) (h.cell 5);clear h
 go_enter func169,ntmps169
 go_wp2_with fail;go_region;go_wp2_with fail;go_ret2;exact⟨rfl,bY⟩
end Cl
namespace Cl
open Go.RowKit Hp ah aj Tk Slot
theorem AZ {W:World} {fb mb wb:Nat} {c:Cf} {f:Tk.Fd} {ws:List Int} {tc x:Int} (hL:Laid W) (h:bQ W fb c f) (hm:bB W mb wb ws tc) (hc:Small c) (ha:Apart fb mb wb) (ht:0<=tc/\tc<=4000000000000000000)
  (hk:f.kind=0\/f.kind=1\/f.kind=2\/f.kind=3\/f.kind=4\/f.kind=5\/f.kind=6) (hf:f.found=false) (hat:f.at' < ns c) (hx:ws[sc c f.at']? =some x):
  Calls prog 163 #[ptr fb,ptr mb] W (uk W fb mb wb c ws tc (f.step c ws)):=by
 have hal:=kr h;have hrd:rd ws (sc c f.at')=x:=by unfold rd;rw[List.getD_eq_getElem?_getD,hx];rfl
 have hs:f.step c ws=if eF x f.kind f.own then (true,{f with word:=x,found:=true},1) else (decide (ns c<=f.at'+1),{f with at':=f.at'+1},1):=by
  unfold Fd.step;rw[if_neg (by rw[hf];simp;exact hat),hrd]
 have HS:=uH hs
 have hd:decide (c.slots<=(f.at':Int))=false:=by
  have h2:=hc.s;unfold ns at hat;simp;omega
 rw[hd]at hal;have hF:=h;have hcell:=fun i=>h.cell i
 simp only[yX,hf]at hcell;obtain⟨a0,a1,a2,a3,a4⟩:=cQ c hcell;have a5:=cC f.kind (hcell 5);have a6:=cC f.own (hcell 6);have a7:=cC f.at' (hcell 7);have a8:=cC f.word (hcell 8);have a9:=cV (.bool false) (hcell 9);clear hcell;have hE:=uH (show Laid W/\bQ W fb c f/\bB W mb wb ws tc from⟨hL,h,hm⟩);clear hs hL h hm hF
 go_enter func163,ntmps163
 go_wp2_with fail;refine hal.mono ?_;rintro e w5 ⟨rfl,hb5⟩;have hL5:=hE.out.1.stable (hb5.block 0 (hE.out.1.lt aT));have uS:=hE.out.2.1.below hb5;have gq:=hE.out.2.2.below hb5;have b0:=cC c.workers (Field.ak hb5 a0);have b1:=cC c.slots (Field.ak hb5 a1);have b2:=cC c.streams (Field.ak hb5 a2);have b3:=cC c.waiters (Field.ak hb5 a3);have b4:=cC c.uses (Field.ak hb5 a4);have b5:=cC f.kind (Field.ak hb5 a5);have b6:=cC f.own (Field.ak hb5 a6);have b7:=cC f.at' (Field.ak hb5 a7);have b8:=cC f.word (Field.ak hb5 a8);have b9:=cV (.bool false) (Field.ak hb5 a9);clear hal a0 a1 a2 a3 a4 a5 a6 a7 a8 a9;have hsl:=fun W=>bg W c f.at' hc.w ⟨by unfold ns at hat;omega,hc.s.2⟩
 have hsc:(3+2 * c.workers+(f.at':Int))=((sc c f.at':Nat):Int):=by have:=hc.w;unfold sc;omega
 simp only[hsc,Cf.val,Cf.cells]at hsl;have hld:=fun W (h:bB W mb wb ws tc)=>aU h ht (sc c f.at') x hx
 have H5:=uH (show Laid w5/\bQ w5 fb c f/\bB w5 mb wb ws tc from⟨hL5,uS,gq⟩);have J5:=gq.below bY;have YH:=uH hb5;clear hL5 uS gq hb5;go_wp2_with fail
 go_region_held3 (fun w'=>w'.cell? ⟨fb,0,none⟩=some (.i c.workers)/\w'.cell? ⟨fb,1,none⟩=some (.i c.slots)/\w'.cell? ⟨fb,2,none⟩=some (.i c.streams)/\w'.cell? ⟨fb,3,none⟩=some (.i c.waiters)/\w'.cell? ⟨fb,4,none⟩=some (.i c.uses)/\w'.cell? ⟨fb,5,none⟩=some (.i f.kind)/\w'.cell? ⟨fb,6,none⟩=some (.i f.own)/\w'.cell? ⟨fb,7,none⟩=some (.i f.at')/\w'.cell? ⟨fb,8,none⟩=some (.i f.word)/\w'.cell? ⟨fb,9,none⟩=some (.bool false)) (first | go_keep | exact⟨aI,aI,aI,aI,aI,aI,aI,aI,aI,aI⟩)
  ((first
  | (go_at_call 54;refine(hsl _).mono ?_;rintro e w6 ⟨rfl,hb6⟩;have jH:=J5.below hb6;have d0:=Field.ak hb6 b0;have d1:=Field.ak hb6 b1;have d2:=Field.ak hb6 b2;have d3:=Field.ak hb6 b3;have d4:=Field.ak hb6 b4;have d5:=Field.ak hb6 b5;have d6:=Field.ak hb6 b6;have d7:=Field.ak hb6 b7;have d8:=Field.ak hb6 b8;have d9:=Field.ak hb6 b9)
  | (go_at_call 56;refine(hld _ jH).mono ?_;rintro e w7 ⟨rfl,qQ,eY⟩;have k0:=(eY.cell (p:=⟨fb,0,none⟩) (dN d0) (fun e=>e.elim ha.m ha.w)).trans d0;have k1:=(eY.cell (p:=⟨fb,1,none⟩) (dN d1) (fun e=>e.elim ha.m ha.w)).trans d1;have k2:=(eY.cell (p:=⟨fb,2,none⟩) (dN d2) (fun e=>e.elim ha.m ha.w)).trans d2;have k3:=(eY.cell (p:=⟨fb,3,none⟩) (dN d3) (fun e=>e.elim ha.m ha.w)).trans d3;have k4:=(eY.cell (p:=⟨fb,4,none⟩) (dN d4) (fun e=>e.elim ha.m ha.w)).trans d4;have k5:=(eY.cell (p:=⟨fb,5,none⟩) (dN d5) (fun e=>e.elim ha.m ha.w)).trans d5;have k6:=(eY.cell (p:=⟨fb,6,none⟩) (dN d6) (fun e=>e.elim ha.m ha.w)).trans d6;have k7:=(eY.cell (p:=⟨fb,7,none⟩) (dN d7) (fun e=>e.elim ha.m ha.w)).trans d7;have k8:=(eY.cell (p:=⟨fb,8,none⟩) (dN d8) (fun e=>e.elim ha.m ha.w)).trans d8;have k9:=(eY.cell (p:=⟨fb,9,none⟩) (dN d9) (fun e=>e.elim ha.m ha.w)).trans d9)))
 have hL6:Laid w6:=(show Laid w5.drew from H5.out.1).stable (hb6.block 0 ((show Laid w5.drew from H5.out.1).lt aT));have hL7:Laid w7:=hL6.stable (eY.block 0 (hL6.lt aT) (fun e=>e.elim ha.m0 ha.w0));have um:bQ w7 fb c f:=((show bQ w5.drew fb c f from H5.out.2.1).below hb6).aK eY (fun e=>e.elim ha.m ha.w);have g5:aD (fun k=>k=fb\/dJ mb wb k) W w5:=aD.aF YH.out;have g7:aD (fun k=>k=fb\/dJ mb wb k) W w7:=(g5.drew.trans (aD.aF hb6) (fun _ _ h=>h)).trans eY (fun _ _ h=>.inr h);have hdc:=aS w7 x hL7;have hns:f.at'+1<=101:=by have:=hc.s;unfold ns at hat;omega
 have e7:wrap64 ((f.at':Int)+1)=(f.at':Int)+1:=by unfold wrap64;omega
 have hdd:decide (c.slots<=((f.at'+1:Nat):Int))=decide (ns c<=f.at'+1):=by
  have:=hc.s;unfold ns
  apply decide_eq_decide.mpr
  omega
 have hmiss:∀ w9,bQ w9 fb c f->bB w9 mb wb ws (tc+1)->aD (fun k=>k=fb\/dJ mb wb k) W w9->bQ (w9.setCell ⟨fb,7,none⟩ (.i ((f.at':Int)+1))) fb c {f with at':=f.at'+1}/\
   (∀ dH,Below (w9.setCell ⟨fb,7,none⟩ (.i ((f.at':Int)+1))).heap.size (w9.setCell ⟨fb,7,none⟩ (.i ((f.at':Int)+1))) dH->eF x f.kind f.own=false->uk W fb mb wb c ws tc (f.step c ws) (.returned (.bool (decide (c.slots<=((f.at'+1:Nat):Int))))) dH):=by
  intro w9 h1 h2 h3;have q:bQ (w9.setCell ⟨fb,7,none⟩ (.i ((f.at':Int)+1))) fb c {f with at':=f.at'+1}:=h1.setAt (f.at'+1);refine⟨q,fun dH hb hfw=>?_⟩;have q2:=(h2.stable (heap_setCell_other w9 ⟨fb,7,none⟩ mb (.i ((f.at':Int)+1)) (fun e=>ha.m e.symm)) (heap_setCell_other w9 ⟨fb,7,none⟩ wb (.i ((f.at':Int)+1)) (fun e=>ha.w e.symm)))
  have q3:aD (fun k=>k=fb\/dJ mb wb k) W (w9.setCell ⟨fb,7,none⟩ (.i ((f.at':Int)+1))):=h3.setCell _ _ (fun _=>.inl rfl);rw[HS.out,hfw];exact⟨by rw[hdd];rfl,q.below hb,q2.below hb,q3.trans (aD.aF hb) (fun _ _ h=>h)⟩
 have HM:=uH hmiss;have H7:=uH (show bQ w7 fb c f/\bB w7 mb wb ws (tc+1)/\aD (fun k=>k=fb\/dJ mb wb k) W w7 from⟨um,qQ,g7⟩);have z7:=um.frozen 7;have z8:=um.frozen 8;have z9:=um.frozen 9;clear hmiss hL6 hL7 um qQ jH J5 eY hb6 g5 g7 hsl hld hsc d0 d1 d2 d3 d4 d5 d6 d7 d8 d9 b0 b1 b2 b3 b4 b5 b6 b7 b8 b9
 cases yY:dec x with
 | none=>
  have hfw:eF x f.kind f.own=false:=by unfold eF;rw[yY]
  rw[yY]at hdc;simp only[Option.getD_none,Option.isSome_none,S.val,S.cells,ai.S.zero]at hdc;go_wp2_with fail;refine hdc.mono ?_;rintro e w8 ⟨rfl,cZ⟩;have jy:Below w7.heap.size w7 (w8.alloc (.cells Zs 57)).drew:=(cZ.trans (bZ.alloc aQ _ |>.mono cZ.size)).drew;have n7:=Field.ak jy k7;have y7:=Field.gW jy k7 z7;have J6:=HM.out _ (H7.out.1.below jy) (H7.out.2.1.below jy) (H7.out.2.2.trans (aD.aF jy) (fun _ _ h=>h));have J7:=uH J6;clear hdc J6 jy cZ;go_wp2_with fail;go_region;go_wp2_with fail;refine(kr J7.out.1).mono ?_;rintro e dH ⟨rfl,jA⟩;have hP:=J7.out.2 dH jA hfw;have HP:=uH hP;clear hP jA;go_wp2_with fail;go_ret;exact HP.out
 | some s=>
  have hfw:eF x f.kind f.own=Find.fits s f.kind f.own:=by unfold eF;rw[yY]
  have hfit:=fun W=>Find.J8 W s f.kind f.own hk
  rw[yY]at hdc;obtain⟨st,ow,sm,br,ma,us,ge,ep,ve⟩:=s;generalize Find.fits ⟨st,ow,sm,br,ma,us,ge,ep,ve⟩ f.kind f.own=fv at *;simp only[Option.getD_some,Option.isSome_some,S.val,S.cells]at hdc hfit;go_wp2_with fail;refine hdc.mono ?_;rintro e w8 ⟨rfl,cZ⟩;have jy:Below w7.heap.size w7 (w8.alloc (.cells (Aa st ow sm br ma us ge ep ve) 57)):=cZ.trans (bZ.alloc aQ _ |>.mono cZ.size);have n0:=Field.ak jy k0;have n1:=Field.ak jy k1;have n2:=Field.ak jy k2;have n3:=Field.ak jy k3;have n4:=Field.ak jy k4;have n5:=Field.ak jy k5;have n6:=Field.ak jy k6;have n7:=Field.ak jy k7;have n8:=Field.ak jy k8;have n9:=Field.ak jy k9;have p0:(w8.alloc (.cells (Aa st ow sm br ma us ge ep ve) 57)).cell? ⟨w8.heap.size,0,none⟩=some (.i st):=au
  have p1:(w8.alloc (.cells (Aa st ow sm br ma us ge ep ve) 57)).cell? ⟨w8.heap.size,1,none⟩=some (.i ow):=au
  have p2:(w8.alloc (.cells (Aa st ow sm br ma us ge ep ve) 57)).cell? ⟨w8.heap.size,2,none⟩=some (.i sm):=au
  have p3:(w8.alloc (.cells (Aa st ow sm br ma us ge ep ve) 57)).cell? ⟨w8.heap.size,3,none⟩=some (.bool br):=au
  have p4:(w8.alloc (.cells (Aa st ow sm br ma us ge ep ve) 57)).cell? ⟨w8.heap.size,4,none⟩=some (.bool ma):=au
  have p5:(w8.alloc (.cells (Aa st ow sm br ma us ge ep ve) 57)).cell? ⟨w8.heap.size,5,none⟩=some (.i us):=au
  have p6:(w8.alloc (.cells (Aa st ow sm br ma us ge ep ve) 57)).cell? ⟨w8.heap.size,6,none⟩=some (.i ge):=au
  have p7:(w8.alloc (.cells (Aa st ow sm br ma us ge ep ve) 57)).cell? ⟨w8.heap.size,7,none⟩=some (.i ep):=au
  have p8:(w8.alloc (.cells (Aa st ow sm br ma us ge ep ve) 57)).cell? ⟨w8.heap.size,8,none⟩=some (.i ve):=au
  have y7:=Field.gW jy k7 z7;have y8:=Field.gW jy k8 z8;have y9:=Field.gW jy k9 z9;have HA:=uH jy;clear hdc jy cZ;go_wp2_with fail;generalize w8.alloc (.cells (Aa st ow sm br ma us ge ep ve) 57)=wz at *;generalize w8.heap.size=sb at *
  go_region_held3 (fun w'=>w'.cell? ⟨fb,0,none⟩=some (.i c.workers)/\w'.cell? ⟨fb,1,none⟩=some (.i c.slots)/\w'.cell? ⟨fb,2,none⟩=some (.i c.streams)/\w'.cell? ⟨fb,3,none⟩=some (.i c.waiters)/\w'.cell? ⟨fb,4,none⟩=some (.i c.uses)/\w'.cell? ⟨fb,5,none⟩=some (.i f.kind)/\w'.cell? ⟨fb,6,none⟩=some (.i f.own)/\w'.cell? ⟨fb,7,none⟩=some (.i f.at')/\w'.cell? ⟨fb,8,none⟩=some (.i f.word)/\w'.cell? ⟨fb,9,none⟩=some (.bool false)/\w'.cell? ⟨sb,0,none⟩=some (.i st)/\w'.cell? ⟨sb,1,none⟩=some (.i ow)/\w'.cell? ⟨sb,2,none⟩=some (.i sm)/\w'.cell? ⟨sb,3,none⟩=some (.bool br)/\w'.cell? ⟨sb,4,none⟩=some (.bool ma)/\w'.cell? ⟨sb,5,none⟩=some (.i us)/\w'.cell? ⟨sb,6,none⟩=some (.i ge)/\w'.cell? ⟨sb,7,none⟩=some (.i ep)/\w'.cell? ⟨sb,8,none⟩=some (.i ve)) (first | go_keep | exact⟨aI,aI,aI,aI,aI,aI,aI,aI,aI,aI,aI,aI,aI,aI,aI,aI,aI,aI,aI⟩)
   ((first
   | (go_at_call 85;refine(hfit _).mono ?_;rintro e w9 ⟨rfl,dm⟩;have r0:=Field.ak dm n0;have r1:=Field.ak dm n1;have r2:=Field.ak dm n2;have r3:=Field.ak dm n3;have r4:=Field.ak dm n4;have r5:=Field.ak dm n5;have r6:=Field.ak dm n6;have r7:=Field.ak dm n7;have r8:=Field.ak dm n8;have r9:=Field.ak dm n9;have s0:=Field.ak dm p0;have s1:=Field.ak dm p1;have s2:=Field.ak dm p2;have s3:=Field.ak dm p3;have s4:=Field.ak dm p4;have s5:=Field.ak dm p5;have s6:=Field.ak dm p6;have s7:=Field.ak dm p7;have s8:=Field.ak dm p8)))
  have v7:=Field.gW dm n7 y7;have v8:=Field.gW dm n8 y8;have v9:=Field.gW dm n9 y9;have NI:Below w7.heap.size w7 w9:=HA.out.drew.trans (dm.mono HA.out.size);have q1:=H7.out.1.below NI;have q2:=H7.out.2.1.below NI;have q3:=H7.out.2.2.trans (aD.aF NI) (fun _ _ h=>h);have J6:=HM.out _ q1 q2 q3;have J7:=uH J6;have HQ:=uH (show bQ w9 fb c f/\bB w9 mb wb ws (tc+1)/\aD (fun k=>k=fb\/dJ mb wb k) W w9 from⟨q1,q2,q3⟩);clear J6 NI dm q1 q2 q3 hfit n0 n1 n2 n3 n4 n5 n6 n7 n8 n9 p0 p1 p2 p3 p4 p5 p6 p7 p8 s0 s1 s2 s3 s4 s5 s6 s7 s8 k0 k1 k2 k3 k4 k5 k6 k7 k8 k9 y7 y8 y9 z7 z8 z9;cases fv
  ·go_wp2_with fail;refine(kr J7.out.1).mono ?_;rintro e dH ⟨rfl,jA⟩;have hP:=J7.out.2 dH jA hfw;have HP:=uH hP;clear hP jA;go_wp2_with fail;go_ret;exact HP.out
  ·go_wp2_with fail;go_ret;obtain⟨q1,q2,q3⟩:=HQ.out;have u1:bQ ((w9.setCell ⟨fb,8,none⟩ (.i x)).setCell ⟨fb,9,none⟩ (.bool true)) fb c {f with word:=x,found:=true}:=(q1.vz x).qR true;have u2:bB ((w9.setCell ⟨fb,8,none⟩ (.i x)).setCell ⟨fb,9,none⟩ (.bool true)) mb wb ws (tc+1):=(q2.stable (heap_setCell_other w9 ⟨fb,8,none⟩ mb (.i x) (fun e=>ha.m e.symm)) (heap_setCell_other w9 ⟨fb,8,none⟩ wb (.i x) (fun e=>ha.w e.symm))).stable (heap_setCell_other _ ⟨fb,9,none⟩ mb (.bool true) (fun e=>ha.m e.symm)) (heap_setCell_other _ ⟨fb,9,none⟩ wb (.bool true) (fun e=>ha.w e.symm));have u3:aD (fun k=>k=fb\/dJ mb wb k) W (w9.setCell ⟨fb,8,none⟩ (.i x)):=q3.setCell _ _ (fun _=>.inl rfl);rw[HS.out,hfw];exact⟨rfl,u1,u2,u3.setCell _ _ (fun _=>.inl rfl)⟩
theorem oF {W:World} {fb mb wb:Nat} {c:aj.Cf} {f:Tk.Fd} {ws:List Int} {tc:Int} (hL:Laid W) (h:bQ W fb c f) (hm:bB W mb wb ws tc) (hc:Small c) (ha:Apart fb mb wb) (ht:0<=tc/\tc<=4000000000000000000)
  (hf:Ty.fQ c f) (hlen:ws.length=3+2 * c.workers.toNat+Tk.ns c):
  Calls prog 163 #[ptr fb,ptr mb] W (uk W fb mb wb c ws tc (f.step c ws)):=by
 by_cases hI:f.found=true\/Tk.ns c<=f.at'
 ·exact vR h hm hc hI
 ·simp only[not_or]at hI;have hlt:Tk.sc c f.at' < ws.length:=by unfold Tk.sc;omega
  have hx:ws[Tk.sc c f.at']? =some ws[Tk.sc c f.at']:=List.getElem?_eq_getElem hlt;exact AZ hL h hm hc ha ht (by have:=hf.1;omega) (by simpa using hI.1) ag hx
end Cl
namespace Line
open Go.RowKit Hp je
attribute [local go_sem] Oper.semAt_some
structure LQ (q:Int) (L:List Int):Prop where
 q:q=Ty.lw L
 len:L.length<=8
 bd:∀ x ∈ L,0<=x/\x<=14
theorem KE:∀ (k:Nat) (L:List Int),(∀ x ∈ L,0<=x/\x<=14)->su (Ty.lw L) k=Ty.lw (L.drop k):=by
 intro k
 induction k with
 | zero=>intro L _;rfl
 | succ k ih=>
  intro L h;rw[wm,ih L h]
  cases hd:L.drop k with
  | nil=>
   have:L.drop (k+1)=[]:=by
    rw[List.drop_eq_nil_iff]at hd ⊢;omega
   rw[this];rfl
  | cons x l=>
   have e:L.drop (k+1)=l:=by
    have:=congrArg List.tail hd
    rwa [List.tail_drop,List.tail_cons]at this
   have hx:=h x (List.mem_of_mem_drop (i:=k) (by rw[hd];simp));have h0:0<=Ty.lw l:=Ty.jX fun y hy=>(h y (List.mem_of_mem_drop (i:=k) (by rw[hd];simp[hy]))).1
   rw[e];simp only[Ty.lw];omega
section
variable {q:Int} {L:List Int}
theorem LQ.at' (h:LQ q L) {k:Nat} (hk:k < L.length):0 < su q k/\su q k % 16 - 1=L[k]:=by
 rw[h.q,KE k L h.bd,List.drop_eq_getElem_cons hk];have hx:=h.bd L[k] (List.getElem_mem _);have h0:0<=Ty.lw (L.drop (k+1)):=Ty.jX fun y hy=>(h.bd y (List.mem_of_mem_drop hy)).1
 simp only[Ty.lw];omega
theorem LQ.end' (h:LQ q L) {k:Nat} (hk:L.length<=k):su q k=0:=by
 rw[h.q,KE k L h.bd,List.drop_eq_nil_of_le hk];rfl
theorem LQ.lt (h:LQ q L) {k:Nat} (hk:0 < su q k):k < L.length:=by
 by_cases hl:k < L.length
 ·exact hl
 ·have:=h.end' (k:=k) ag;omega
theorem QH:∀ l:List Int,(∀ x ∈ l,0<=x/\x<=14)->0<=Ty.lw l/\Ty.lw l < 16 ^ l.length:=by
 intro l
 induction l with
 | nil=>intro _;simp[Ty.lw]
 | cons x l ih=>
  intro h;have hx:=h x au;have hl:=ih (fun y hy=>h y (by simp[hy]));simp only[Ty.lw,List.length_cons,Int.pow_succ];omega
theorem Sd {k:Nat} (h:k<=8):(16:Int) ^ k<=4294967296:=by
 have hc:k=0\/k=1\/k=2\/k=3\/k=4\/k=5\/k=6\/k=7\/k=8:=ag
 rcases hc with rfl | rfl | rfl | rfl | rfl | rfl | rfl | rfl | rfl<;>decide
theorem LQ.hi (h:LQ q L):0<=q/\q < 4294967296:=by
 have h1:=QH L h.bd;have h2:=Sd h.len;rw[h.q];omega
end
def nK (w:World) (s:Nat) (W:World):Prop:=Below w.heap.size w W/\W.cell? ⟨w.heap.size,0,none⟩=some (.i s)/\W.frozen? ⟨w.heap.size,0,none⟩=false
theorem nK.aK {w W W':World} {s:Nat} {F:Nat->Prop} (h:nK w s W) (hc:aD F W W') (hF:∀ k,F k->w.heap.size+1<=k):nK w s W':=by
 obtain⟨h1,h2,h3⟩:=h;have b1:=dN h2;have n1:¬ F w.heap.size:=fun e=>by have:=hF _ e;omega
 refine⟨h1.trans (hc.below h1.size fun k e=>?_),(hc.cell b1 n1).trans h2,(hc.frozen (p:=⟨w.heap.size,0,none⟩) b1 n1).trans h3⟩;have:=hF k e;omega
theorem Bq (w:World) {q:Int} {L:List Int} (hL:LQ q L):Calls prog 265 #[.i q] w fun e w'=>e=.returned (.i L.length)/\Below w.heap.size w w':=by
 have hq:q<=9223372036854775807:=by have:=hL.hi;omega
 have h8:=hL.len;refine(callsIn_wide (n:=9)).1 ?_;refine callsIn_of_wp_marks func265 rfl trivial ?_;simp only[ntmps265,List.size_toArray,List.length_cons,List.length_nil,Nat.reduceAdd,Nat.reduceSub,Array.replicate_succ,Array.replicate_zero,List.push_toArray,List.append_toArray,List.nil_append,List.cons_append]
 gi_wp2_with (refine⟨trivial,?_⟩;gi_at_call 251;refine(callsIn_wide.2 (ni _ _)).mono ?_;rintro e w' ⟨rfl,rfl⟩)
 have hb0:Below w.heap.size w ((w.alloc (.cells #[.i 0] 3)).alloc (.cells #[.i q] 3)):=(bZ.alloc aQ _).alloc au _;have pQ:nK w 0 ((w.alloc (.cells #[.i 0] 3)).alloc (.cells #[.i q] 3)):=⟨hb0,by go_simp,by go_simp⟩
 have hbx:((w.alloc (.cells #[.i 0] 3)).alloc (.cells #[.i q] 3)).cell? ⟨w.heap.size+1,0,none⟩=some (.i q):=by go_simp
 have hbz:((w.alloc (.cells #[.i 0] 3)).alloc (.cells #[.i q] 3)).frozen? ⟨w.heap.size+1,0,none⟩=false:=by go_simp
 clear hb0;generalize ((w.alloc (.cells #[.i 0] 3)).alloc (.cells #[.i q] 3))=wq at *;have Db:=dN hbx
 refine jg (gf:=268) (lb:=#[ptr (w.heap.size+1)]) (by first | rfl | kernel_rfl) (aH func268) (encs:=xO)
  (Ww:=fun k=>k=w.heap.size) (Wr:=fun k=>k=w.heap.size+1) (qP:=fun _ _ _=>False) (Yields:=rq q) (Done:=fun s _=>su q s<=0) (s0:=0)
  ?hps ?Fg ?hseq (fun s W=>s<=L.length/\nK w s W) (fun c W=>False) ?hKs (fun _ _ _ _ h=>h.elim) ?hKt (fun _ _ _ h _=>h) (fun _ _ _ _ _ h _=>h) (fun _ _ _ h _=>h) (fun _ _ _ _ _ h _=>h) ?h0
  ?round ?done ?stop
 case hps=>intro x;rfl
 case Fg=>rintro k (hk | hk)<;>simp only at Db<;>omega
 case hseq=>
  intro W1 hT;exact nk _ q hq _ W1 (hT.cell hbx) ((hT.frozen hbx).trans hbz) ag
 case hKs=>exact fun s W W' h hc=>⟨h.1,h.2.aK hc (fun k e=>ag)⟩
 case hKt=>exact fun s W W' h ht=>⟨h.1,ht.below h.2.1 pQ.1.size aQ,ht.cell h.2.2.1,(ht.frozen h.2.2.1).trans h.2.2.2⟩
 case h0=>exact⟨Nat.zero_le _,pQ⟩
 case round=>
  rintro l s ⟨j,y⟩ s' W hl VD ⟨hs,hk⟩ ⟨rfl,hj,hy,h0⟩;have hsl:=hL.lt h0;simp only[xO]
  gi_wp2
  refine⟨aD.refl _ _,?_⟩;intro W2 vQ rr hlp hk2 hy2;obtain⟨k1,k2,k3⟩:=hk2;have hwr:IntKind.i64.wrap ((s:Int)+1)=((s+1:Nat):Int):=by rw[IntKind.wrap_i64];omega
  have n0:(0:Int)<=(s:Int):=ag
  have n1:(s:Int)<=100:=ag
  have Hs:=uH hsl;clear vQ hk hl VD hy2 h0 hj hy hs hsl Db
  gi_wp2_with fail
  have e1:aD (fun k=>k=w.heap.size) W2 (W2.setCell ⟨w.heap.size,0,none⟩ (.i ((s:Int)+1))):=(aD.refl _ _).setCell _ _ (fun _=>rfl);refine⟨gY.pU e1 (fun _ _ h=>h),by have:=Hs.out;omega,k1.setCell au _,?_,?_⟩
  ·rw[World.cell?_setCell_same _ _ _ k2]
   go_num
  ·rw[World.frozen?_setCell];exact k3
 case done=>
  rintro D s W hD hdn ⟨hs,k1,k2,k3⟩ Ay
  have hsl:s=L.length:=by
   by_cases e:s < L.length
   ·have:=(hL.at' e).1;omega
   ·omega
  subst hsl
  gi_wp2
  have Sl:w.heap.size+1 < D:=ag
  have hT:dK wq.heap.size W (W.putObj D (.deferred none)):=(dK.refl _ _).putObj _ hD Ay rfl;refine⟨au,.inl ⟨_,_,rfl,run_takeDeferred Ay,?_⟩⟩;exact⟨_,by simp[results,results265,go_sem],rfl,hT.below k1 pQ.1.size aQ⟩
 case stop=>
  rintro D c W hD h Ay;exact h.elim
def bK (w:World) (who:Int) (W:World):Prop:=Below w.heap.size w W/\W.cell? ⟨w.heap.size,0,none⟩=some (.i who)/\W.cell? ⟨w.heap.size+1,0,none⟩=some (.bool false)/\W.frozen? ⟨w.heap.size+1,0,none⟩=false
theorem bK.aK {w W W':World} {who:Int} {F:Nat->Prop} (h:bK w who W) (hc:aD F W W') (hF:∀ k,F k->w.heap.size+2<=k):bK w who W':=by
 obtain⟨h1,h2,h3,h4⟩:=h;have b1:=dN h2;have b2:=dN h3;have n1:¬ F w.heap.size:=fun e=>by have:=hF _ e;omega
 have n2:¬ F (w.heap.size+1):=fun e=>by have:=hF _ e;omega
 refine⟨h1.trans (hc.below h1.size fun k e=>?_),(hc.cell b1 n1).trans h2,(hc.cell b2 n2).trans h3,(hc.frozen (p:=⟨w.heap.size+1,0,none⟩) b2 n2).trans h4⟩;have:=hF k e;omega
theorem wu (w:World) {q:Int} {L:List Int} (hL:LQ q L) (who:Int):Calls prog 203 #[.i q,.i who] w fun e w'=>e=.returned (.bool (decide (who ∈ L)))/\Below w.heap.size w w':=by
 have hq:q<=9223372036854775807:=by have:=hL.hi;omega
 generalize hR:decide (who ∈ L)=R;refine(callsIn_wide (n:=9)).1 ?_;refine callsIn_of_wp_marks func203 rfl trivial ?_;simp only[ntmps203,List.size_toArray,List.length_cons,List.length_nil,Nat.reduceAdd,Nat.reduceSub,Array.replicate_succ,Array.replicate_zero,List.push_toArray,List.append_toArray,List.nil_append,List.cons_append]
 gi_wp2_with (refine⟨trivial,?_⟩;gi_at_call 251;refine(callsIn_wide.2 (ni _ _)).mono ?_;rintro e w' ⟨rfl,rfl⟩)
 have hb0:Below w.heap.size w (((w.alloc (.cells #[.i who] 3)).alloc (.cells #[.bool false] 4)).alloc (.cells #[.i q] 3)):=((bZ.alloc aQ _).alloc au _).alloc (by simp;omega) _;have pQ:bK w who (((w.alloc (.cells #[.i who] 3)).alloc (.cells #[.bool false] 4)).alloc (.cells #[.i q] 3)):=⟨hb0,by go_simp,by go_simp,by go_simp⟩
 have hbx:(((w.alloc (.cells #[.i who] 3)).alloc (.cells #[.bool false] 4)).alloc (.cells #[.i q] 3)).cell? ⟨w.heap.size+2,0,none⟩=some (.i q):=by go_simp
 have hbz:(((w.alloc (.cells #[.i who] 3)).alloc (.cells #[.bool false] 4)).alloc (.cells #[.i q] 3)).frozen? ⟨w.heap.size+2,0,none⟩=false:=by go_simp
 clear hb0;generalize (((w.alloc (.cells #[.i who] 3)).alloc (.cells #[.bool false] 4)).alloc (.cells #[.i q] 3))=wq at *;have Db:=dN hbx
 refine jg (gf:=268) (lb:=#[ptr (w.heap.size+2)]) (by first | rfl | kernel_rfl) (aH func268) (encs:=xO)
  (Ww:=fun k=>k=w.heap.size+1) (Wr:=fun k=>k=w.heap.size+2) (qP:=fun _ _ _=>False) (Yields:=rq q) (Done:=fun s _=>su q s<=0) (s0:=0)
  ?hps ?Fg ?hseq (fun s W=>who ∉ L.take s/\bK w who W) (fun c W=>c=.ret/\who ∈ L/\Below w.heap.size w W/\W.cell? ⟨w.heap.size+1,0,none⟩=some (.bool true)) ?hKs (fun _ _ _ _ h=>h.elim) ?hKt ?xP (fun _ _ _ _ _ h _=>h) (fun _ _ _ h _=>h) (fun _ _ _ _ _ h _=>h) ?h0
  ?round ?done ?stop
 case hps=>intro x;rfl
 case Fg=>rintro k (hk | hk)<;>simp only at Db<;>omega
 case hseq=>
  intro W1 hT;exact nk _ q hq _ W1 (hT.cell hbx) ((hT.frozen hbx).trans hbz) ag
 case hKs=>exact fun s W W' h hc=>⟨h.1,h.2.aK hc (fun k e=>ag)⟩
 case hKt=>exact fun s W W' h ht=>⟨h.1,ht.below h.2.1 pQ.1.size aQ,ht.cell h.2.2.1,ht.cell h.2.2.2.1,(ht.frozen h.2.2.2.1).trans h.2.2.2.2⟩
 case xP=>exact fun c W W' h ht=>⟨h.1,h.2.1,ht.below h.2.2.1 pQ.1.size aQ,ht.cell h.2.2.2⟩
 case h0=>exact⟨au,pQ⟩
 case round=>
  rintro l s ⟨j,y⟩ s' W hl VD ⟨hs,hk⟩ ⟨rfl,hj,hy,h0⟩;have hsl:=hL.lt h0;have VE:=(hL.at' hsl).2;simp only at hj hy;obtain rfl:s=j:=hj.symm;rw[VE]at hy;have HY:=uH (show y=L[s] from hy);have HS:=uH hs;clear hy VE hs;simp only[xO]
  gi_wp2
  refine⟨aD.refl _ _,?_⟩;intro W2 vQ rr hlp hk1 hk2 hy2;obtain⟨k1,k2,k3,k4⟩:=hk2;clear hk1;have hlt:w.heap.size+1 < W2.heap.size:=dN k3;have YT:=uH hsl;clear vQ hk hl VD hy2 h0 Db
  by_cases Si:y=who
  ·subst Si
   gi_wp2_with fail
   have e1:aD (fun k=>k=w.heap.size+1) W2 (W2.setCell ⟨w.heap.size+1,0,none⟩ (.bool true)):=(aD.refl _ _).setCell _ _ (fun _=>rfl);exact⟨gY.pU e1 (fun _ _ h=>h),rfl,by rw[HY.out];exact List.getElem_mem _,k1.setCell au _,World.cell?_setCell_same _ _ _ k3⟩
  ·have hyb:(y == who)=false:=by simpa using Si
   gi_wp2_with fail
   refine⟨gY.pU (aD.refl _ _) (fun _ _ h=>h),?_,k1,k2,k3,k4⟩;rw[List.take_succ_eq_append_getElem YT.out];simp only[List.mem_append,List.mem_singleton,not_or];exact⟨HS.out,by rw[<- HY.out];exact fun e=>Si e.symm⟩
 case done=>
  rintro D s W hD hdn ⟨hs,k1,k2,k3,k4⟩ Ay
  have hsl:L.length<=s:=by
   by_cases e:s < L.length
   ·have:=(hL.at' e).1;omega
   ·omega
  rw[List.take_of_length_le hsl]at hs;rw[decide_eq_false hs]at hR;subst hR
  gi_wp2
  have Sl:w.heap.size+2 < D:=ag
  have hK2:(W.setCell ⟨w.heap.size+1,0,none⟩ (.bool false)).heap[D]? =some (.deferred (some [])):=(Below.heap_setCell _ _ _ _ (by simp;omega)).trans Ay;have h7:Below w.heap.size w (W.setCell ⟨w.heap.size+1,0,none⟩ (.bool false)):=k1.setCell au _;have c1:(W.setCell ⟨w.heap.size+1,0,none⟩ (.bool false)).cell? ⟨w.heap.size+1,0,none⟩=some (.bool false):=World.cell?_setCell_same _ _ _ k3;generalize (W.setCell ⟨w.heap.size+1,0,none⟩ (.bool false))=W3 at *;have hT:dK wq.heap.size W3 (W3.putObj D (.deferred none)):=(dK.refl _ _).putObj _ hD hK2 rfl;have d1:=hT.cell c1;refine⟨au,.inl ⟨_,_,rfl,run_takeDeferred hK2,?_⟩⟩;exact⟨_,by simp[results,results203,go_sem,d1],rfl,hT.below h7 pQ.1.size aQ⟩
 case stop=>
  rintro D c W hD ⟨rfl,h0,k1,k3⟩ Ay;rw[decide_eq_true h0]at hR;subst hR
  gi_wp2
  have hT:dK wq.heap.size W (W.putObj D (.deferred none)):=(dK.refl _ _).putObj _ hD Ay rfl;have d1:=hT.cell k3;refine⟨au,.inl ⟨_,_,rfl,run_takeDeferred Ay,?_⟩⟩;exact⟨_,by simp[results,results203,go_sem,d1],rfl,hT.below k1 pQ.1.size aQ⟩
theorem LQ.GQ {q:Int} {L:List Int} (h:LQ q L) (hl:L.length < 8) {who:Int} (hw:0<=who/\who<=14):wrap64 (q+wrap64 ((who+1) * 2 ^ (4 * L.length)))=q+(who+1) * 16 ^ L.length:=by
 have h1:=h.hi
 have e:(2:Int) ^ (4 * L.length)=16 ^ L.length:=by
  rw[Int.pow_mul];rfl
 have hp:=Sd (k:=L.length) ag;have hp1:(0:Int) < 16 ^ L.length:=Int.pow_pos aT;have h2:(who+1) * 16 ^ L.length<=15 * 16 ^ L.length:=Int.mul_le_mul_of_nonneg_right ag ag;have h3:0<=(who+1) * 16 ^ L.length:=Int.mul_nonneg ag ag;rw[e];unfold wrap64;omega
theorem GR (w:World) {q:Int} {L:List Int} (hL:LQ q L) (hl:L.length < 8) {who:Int} (hw:0<=who/\who<=14) (hn:who ∉ L):Calls prog 275 #[.i q,.i who] w fun e w'=>
  e=.returned (.tuple #[.i (q+(who+1) * 16 ^ L.length),.bool true])/\Below w.heap.size w w':=by
 have hlen:=fun w=>Bq w hL
 have hhas:=fun w=>wu w hL who
 have hwr:=uH (hL.GQ hl hw);rw[decide_eq_false hn]at hhas;obtain⟨w0,w1⟩:=hw;have n0:(0:Int)<=(L.length:Int):=ag
 have n1:(L.length:Int)<=8:=ag
 clear hL hn hl;generalize L.length=n at *
 go_enter func275,ntmps275
 go_wp2_with fail;refine(hlen _).mono ?_;rintro e w5 ⟨rfl,hb5⟩;clear hlen;go_wp2_with fail;refine(hhas _).mono ?_;rintro e w6 ⟨rfl,hb6⟩;have hB:=hb5.trans (hb6.mono hb5.size);clear hhas hb5 hb6;go_wp2_with fail;go_ret2;refine⟨?_,hB⟩
 show Ending.returned (.tuple #[.i (wrap64 (q+wrap64 ((who+1) * 2 ^ (4 * n)))),.bool true])=_
 rw[hwr.out]
end Line
namespace Line
open Go.RowKit Go.Shelf Hp je
attribute [local go_sem] Oper.semAt_some
theorem KC:∀ a b:List Int,Ty.lw (a ++ b)=Ty.lw a+16 ^ a.length * Ty.lw b:=by
 intro a b
 induction a with
 | nil=>simp[Ty.lw]
 | cons x a ih=>
  simp only[List.cons_append,Ty.lw,ih,List.length_cons,Int.pow_succ];rw[Int.mul_add,<- Int.mul_assoc,Int.mul_comm 16 (16 ^ a.length)];omega
theorem Bn {L:List Int} (hnd:L.Nodup) {p:Nat} (hp:p < L.length):L.filter (fun x=>x != L[p])=L.take p ++ L.drop (p+1):=by
 have eL:L=L.take p ++ L[p] :: L.drop (p+1):=by rw[<- List.drop_eq_getElem_cons hp,List.take_append_drop]
 have e0:∀ z,L.filter (fun x=>x != z)=(L.take p ++ L[p] :: L.drop (p+1)).filter (fun x=>x != z):=fun z=>congrArg _ eL
 rw[e0];have hnd:(L.take p ++ L[p] :: L.drop (p+1)).Nodup:=by rw[<- eL];exact hnd
 rw[List.nodup_append]at hnd;obtain⟨h1,h2,h3⟩:=hnd;rw[List.filter_append]
 have e1:(L.take p).filter (fun x=>x != L[p])=L.take p:=by
  rw[List.filter_eq_self];intro x hx;have:=h3 x hx L[p] List.mem_cons_self
  simpa using this
 have e2:(L[p] :: L.drop (p+1)).filter (fun x=>x != L[p])=L.drop (p+1):=by
  rw[List.filter_cons_of_neg au,List.filter_eq_self];intro x hx;have:=(List.nodup_cons.1 h2).1;simp only[bne_iff_ne,ne_eq];exact fun e=>this (e ▸ hx)
 rw[e1,e2]
theorem LQ.KD {q:Int} {L:List Int} (h:LQ q L) (hnd:L.Nodup) {p:Nat} (hp:p < L.length):q % 16 ^ p+q / 16 ^ (p+1) * 16 ^ p=Ty.lw (L.filter fun x=>x != L[p]):=by
 have h1:=QH (L.take p) (fun x hx=>h.bd x (List.mem_of_mem_take hx));have hl:(L.take p).length=p:=by rw[List.length_take];omega
 rw[hl]at h1;have hx:=h.bd L[p] (List.getElem_mem _)
 have e:q=Ty.lw (L.take p)+16 ^ p * ((L[p]+1)+16 * Ty.lw (L.drop (p+1))):=by
  conv=>lhs;rw[h.q,<- List.take_append_drop p L,KC,hl,List.drop_eq_getElem_cons hp]
  rfl
 have hP:(0:Int) < 16 ^ p:=Int.pow_pos aT;have hr:=Ty.jX (L:=L.drop (p+1)) fun y hy=>(h.bd y (List.mem_of_mem_drop hy)).1
 have e1:q % 16 ^ p=Ty.lw (L.take p):=by
  rw[e,Int.add_mul_emod_self_left];exact Int.emod_eq_of_lt h1.1 h1.2
 have e2:q / 16 ^ p=(L[p]+1)+16 * Ty.lw (L.drop (p+1)):=by
  rw[e,Int.add_mul_ediv_left _ _ ag,Int.ediv_eq_zero_of_lt h1.1 h1.2];omega
 have e3:q / 16 ^ (p+1)=Ty.lw (L.drop (p+1)):=by
  rw[Int.pow_succ,<- Int.ediv_ediv_of_nonneg ag,e2];omega
 rw[Bn hnd hp,KC,hl,e1,e3,Int.mul_comm]
theorem Bo (s:Nat):(2:Int) ^ (4 * s)=16 ^ s:=by rw[Int.pow_mul];rfl
theorem LQ.GL {q:Int} {L:List Int} (h:LQ q L) (hnd:L.Nodup) {p:Nat} (hp:p < L.length):bits .or .i64 (bits .and .i64 q (wrap64 (wrap64 (2 ^ (4 * p)) - 1))) (wrap64 (q / 2 ^ (4 * (p+1)) * 2 ^ (4 * p)))=Ty.lw (L.filter fun x=>x != L[p]):=by
 have h8:=h.len;have hq:=h.hi;have hp8:(2:Int) ^ (4 * p)<=4294967296:=by rw[Bo];exact Sd ag
 have hP:(0:Int) < 2 ^ (4 * p):=Int.pow_pos aT
 have e1:wrap64 (wrap64 (2 ^ (4 * p)) - 1)=((2 ^ (4 * p) - 1:Nat):Int):=by
  have hc:((2 ^ (4 * p) - 1:Nat):Int)=(2:Int) ^ (4 * p) - 1:=by
   have:1<=2 ^ (4 * p):=Nat.one_le_two_pow;rw[Int.natCast_sub this];simp
  rw[hc];unfold wrap64;omega
 have hQ:(0:Int) < 2 ^ (4 * (p+1)):=Int.pow_pos aT;have v0:0<=q / 2 ^ (4 * (p+1)):=Int.ediv_nonneg hq.1 ag
 have v2:q / 2 ^ (4 * (p+1)) * 2 ^ (4 * p)<=q:=by
  have e:(2:Int) ^ (4 * (p+1))=2 ^ (4 * p) * 16:=by rw[Bo,Bo,Int.pow_succ]
  rw[e,<- Int.ediv_ediv_of_nonneg ag];have a1:=Int.ediv_mul_le q (b:=2 ^ (4 * p)) ag
  have a2:q / 2 ^ (4 * p) / 16<=q / 2 ^ (4 * p):=by
   have:=Int.ediv_nonneg hq.1 (show(0:Int)<=2 ^ (4 * p) by omega);omega
  have a3:=Int.mul_le_mul_of_nonneg_right a2 (show(0:Int)<=2 ^ (4 * p) by omega);omega
 have v3:0<=q / 2 ^ (4 * (p+1)) * 2 ^ (4 * p):=Int.mul_nonneg v0 ag;have e2:wrap64 (q / 2 ^ (4 * (p+1)) * 2 ^ (4 * p))=q / 2 ^ (4 * (p+1)) * 2 ^ (4 * p):=by unfold wrap64;omega
 have v4:q / 2 ^ (4 * (p+1))<=q:=Int.ediv_le_self _ hq.1;rw[e1,Bt.vL q (4 * p) ag,e2,Bt.AJ _ _ (4 * p) 32 (Int.emod_nonneg _ ag) (Int.emod_lt_of_pos _ hP) v0 ag ag,Bo,Bo];exact h.KD hnd hp
def rK (w:World) (q who:Int) (W:World):Prop:=Below w.heap.size w W/\W.cell? ⟨w.heap.size,0,none⟩=some (.i q)/\W.cell? ⟨w.heap.size+1,0,none⟩=some (.i who)/\W.cell? ⟨w.heap.size+2,0,none⟩=some (.i 0)/\W.frozen? ⟨w.heap.size+2,0,none⟩=false/\W.cell? ⟨w.heap.size+3,0,none⟩=some (.bool false)/\W.frozen? ⟨w.heap.size+3,0,none⟩=false
theorem rK.aK {w W W':World} {q who:Int} {F:Nat->Prop} (h:rK w q who W) (hc:aD F W W') (hF:∀ k,F k->w.heap.size+4<=k):rK w q who W':=by
 obtain⟨h1,h2,h3,h4,h5,h6,h7⟩:=h;have nf:∀ k,k < w.heap.size+4->¬ F k:=fun k hk e=>by have:=hF _ e;omega
 have b0:w.heap.size < W.heap.size:=dN h2;have b1:w.heap.size+1 < W.heap.size:=dN h3;have b2:w.heap.size+2 < W.heap.size:=dN h4;have b3:w.heap.size+3 < W.heap.size:=dN h6;refine⟨h1.trans (hc.below h1.size fun k e=>?_),(hc.cell b0 (nf w.heap.size ag)).trans h2,(hc.cell b1 (nf (w.heap.size+1) ag)).trans h3,(hc.cell b2 (nf (w.heap.size+2) ag)).trans h4,(hc.frozen (p:=⟨w.heap.size+2,0,none⟩) b2 (nf (w.heap.size+2) ag)).trans h5,(hc.cell b3 (nf (w.heap.size+3) ag)).trans h6,(hc.frozen (p:=⟨w.heap.size+3,0,none⟩) b3 (nf (w.heap.size+3) ag)).trans h7⟩;have:=hF k e;omega
theorem GM (w:World) {q:Int} {L:List Int} (hL:LQ q L) (hnd:L.Nodup) {who:Int} (hin:who ∈ L):Calls prog 252 #[.i q,.i who] w fun e w'=>
  e=.returned (.tuple #[.i (Ty.lw (L.filter fun x=>x != who)),.bool true])/\Below w.heap.size w w':=by
 have hq:q<=9223372036854775807:=by have:=hL.hi;omega
 generalize hR:Ty.lw (L.filter fun x=>x != who)=R;refine(callsIn_wide (n:=9)).1 ?_;refine callsIn_of_wp_marks func252 rfl trivial ?_;simp only[ntmps252,List.size_toArray,List.length_cons,List.length_nil,Nat.reduceAdd,Nat.reduceSub,Array.replicate_succ,Array.replicate_zero,List.push_toArray,List.append_toArray,List.nil_append,List.cons_append]
 gi_wp2_with (refine⟨trivial,?_⟩;gi_at_call 251;refine(callsIn_wide.2 (ni _ _)).mono ?_;rintro e w' ⟨rfl,rfl⟩)
 obtain⟨wq,hwq⟩:∃ wq,wq=(((((w.alloc (.cells #[.i q] 3)).alloc (.cells #[.i who] 3)).alloc (.cells #[.i 0] 3)).alloc (.cells #[.bool false] 4)).alloc (.cells #[.i q] 3)):=⟨_,rfl⟩
 have pQ:rK w q who wq:=by
  rw[hwq];exact⟨((((bZ.alloc aQ _).alloc au _).alloc (by simp;omega) _).alloc (by simp;omega) _).alloc (by simp;omega) _,by go_simp,by go_simp,by go_simp,by go_simp,by go_simp,by go_simp⟩
 have hbx:wq.cell? ⟨w.heap.size+4,0,none⟩=some (.i q):=by rw[hwq];go_simp
 have hbz:wq.frozen? ⟨w.heap.size+4,0,none⟩=false:=by rw[hwq];go_simp
 rw[<- hwq];clear hwq;have Db:=dN hbx
 refine jg (gf:=268) (lb:=#[ptr (w.heap.size+4)]) (by first | rfl | kernel_rfl) (aH func268) (encs:=xO)
  (Ww:=fun k=>k=w.heap.size+2\/k=w.heap.size+3) (Wr:=fun k=>k=w.heap.size+4) (qP:=fun _ _ _=>False) (Yields:=rq q) (Done:=fun s _=>su q s<=0) (s0:=0)
  ?hps ?Fg ?hseq (fun s W=>who ∉ L.take s/\rK w q who W) (fun c W=>c=.ret/\Below w.heap.size w W/\W.cell? ⟨w.heap.size+2,0,none⟩=some (.i R)/\W.cell? ⟨w.heap.size+3,0,none⟩=some (.bool true)) ?hKs (fun _ _ _ _ h=>h.elim) ?hKt ?xP (fun _ _ _ _ _ h _=>h) (fun _ _ _ h _=>h) (fun _ _ _ _ _ h _=>h) ?h0
  ?round ?done ?stop
 case hps=>intro x;rfl
 case Fg=>rintro k ((hk | hk) | hk)<;>simp only at Db<;>omega
 case hseq=>
  intro W1 hT;exact nk _ q hq _ W1 (hT.cell hbx) ((hT.frozen hbx).trans hbz) ag
 case hKs=>exact fun s W W' h hc=>⟨h.1,h.2.aK hc (fun k e=>ag)⟩
 case hKt=>exact fun s W W' ⟨h0,h1,h2,h3,h4,h5,h6,h7⟩ ht=>⟨h0,ht.below h1 pQ.1.size aQ,ht.cell h2,ht.cell h3,ht.cell h4,(ht.frozen h4).trans h5,ht.cell h6,(ht.frozen h6).trans h7⟩
 case xP=>exact fun c W W' h ht=>⟨h.1,ht.below h.2.1 pQ.1.size aQ,ht.cell h.2.2.1,ht.cell h.2.2.2⟩
 case h0=>exact⟨au,pQ⟩
 case round=>
  rintro l s ⟨j,y⟩ s' W hl VD ⟨hs,hk⟩ ⟨rfl,hj,hy,h0⟩;have hsl:=hL.lt h0;have VE:=(hL.at' hsl).2;simp only at hj hy;obtain rfl:s=j:=hj.symm;rw[VE]at hy;have HY:=uH (show y=L[s] from hy);have HS:=uH hs;clear hy VE hs;simp only[xO]
  gi_wp2
  refine⟨aD.refl _ _,?_⟩;intro W2 vQ rr hlp hk1 hk2 hy2;obtain⟨k1,k2,k3,k4,k5,k6,k7⟩:=hk2;clear hk1;have hlt:w.heap.size+3 < W2.heap.size:=dN k6;have h8:=hL.len;have Sg:s<=7:=ag
  have hv:=hL.GL hnd hsl;have hi:=hL.hi;have HV:=uH hv;have YT:=uH hsl;clear vQ hk hl VD hy2 h0 Db hv h8
  by_cases Si:y=who
  ·subst Si
   gi_wp2_with fail
   have hw4:IntKind.i64.wrap (4 * (s:Int))=((4 * s:Nat):Int):=by rw[IntKind.wrap_i64];omega
   have n0:(0:Int)<=((4 * s:Nat):Int):=ag
   have n1:((4 * s:Nat):Int) < 64:=ag
   have aaP:prog.follows Departure.mixedOrders=true:=ax
   gi_region_with_o (fail)
   all_goals gi_wp2
   all_goals
    have hz:bits .or .i64 (bits .and .i64 q (wrap64 (wrap64 (2 ^ (4 * s)) - 1))) (wrap64 (q / 2 ^ (4 * (s+1)) * 2 ^ (4 * s)))=R:=by rw[HV.out,<- hR,HY.out]
    rw[hz];have e1:aD (fun k=>k=w.heap.size+2\/k=w.heap.size+3) W2 ((W2.setCell ⟨w.heap.size+1+1,0,none⟩ (.i R)).setCell ⟨w.heap.size+1+1+1,0,none⟩ (.bool true)).drew:=((((aD.refl _ _).setCell _ _ (fun _=>.inl rfl)).setCell _ _ (fun _=>.inr rfl))).drew
    exact⟨gY.pU e1 (fun _ _ h=>h),rfl,((k1.setCell (by simp;omega) _).setCell (by simp;omega) _).drew,by
     rw[World.cell?_drew,World.cell?_setCell_other _ _ _ _ au];exact World.cell?_setCell_same _ _ _ k4,by
     rw[World.cell?_drew];exact World.cell?_setCell_same _ _ _ (by rw[World.cell?_setCell_other _ _ _ _ au];exact k6)⟩
  ·have hyb:(y == who)=false:=by simpa using Si
   gi_wp2_with fail
   refine⟨gY.pU (aD.refl _ _) (fun _ _ h=>h),?_,k1,k2,k3,k4,k5,k6,k7⟩;rw[List.take_succ_eq_append_getElem YT.out];simp only[List.mem_append,List.mem_singleton,not_or];exact⟨HS.out,by rw[<- HY.out];exact fun e=>Si e.symm⟩
 case done=>
  rintro D s W hD hdn ⟨hs,hk⟩ Ay
  have hsl:L.length<=s:=by
   by_cases e:s < L.length
   ·have:=(hL.at' e).1;omega
   ·omega
  rw[List.take_of_length_le hsl]at hs;exact absurd hin hs
 case stop=>
  rintro D c W hD ⟨rfl,k1,k2,k3⟩ Ay
  gi_wp2
  have hT:dK wq.heap.size W (W.putObj D (.deferred none)):=(dK.refl _ _).putObj _ hD Ay rfl;have d1:=hT.cell k2;have d2:=hT.cell k3;refine⟨au,.inl ⟨_,_,rfl,run_takeDeferred Ay,?_⟩⟩;exact⟨_,by simp[results,results252,go_sem,d1,d2],rfl,hT.below k1 pQ.1.size aQ⟩
end Line
namespace Mc
open Go.RowKit Hp
def XX:List Nat:=[0,1,3,7,15,31,63,62]
def TabAt (W:World):Prop:=∀ k,k < 8->W.cell? ⟨2,XX.getD k 0,none⟩=some (.int .u8 k)
theorem TabAt.stable {W W':World} (h:TabAt W) (e:W'.heap[2]? =W.heap[2]?):TabAt W':=fun k hk=>(World.cell?_of_block (w:=W) e).trans (h k hk)
theorem TabAt.below {W W':World} (h:TabAt W) (hb:Below W.heap.size W W'):TabAt W':=h.stable (hb.block 2 (dN (h 0 aT)))
theorem MU (W:World) (k:Nat) (hk:k < 8) (h:TabAt W):Calls prog 270 #[.int .u64 (2 ^ k)] W fun e W'=>e=.returned (.i k)/\W=W':=by
 have hc:=h k hk;have ZM:k=0\/k=1\/k=2\/k=3\/k=4\/k=5\/k=6\/k=7:=ag
 clear h hk
 rcases ZM with rfl | rfl | rfl | rfl | rfl | rfl | rfl | rfl
 focus
  have hc2:W.cell? ⟨2,0,none⟩=some (.int .u8 0):=hc;clear hc;have hm:IntKind.u64.wrap (bits .and .u64 1 (IntKind.u64.wrap (-1)) * 285870213051353865) / 288230376151711744=0:=aT
 rotate_left
 focus
  have hc2:W.cell? ⟨2,1,none⟩=some (.int .u8 1):=hc;clear hc;have hm:IntKind.u64.wrap (bits .and .u64 2 (IntKind.u64.wrap (-2)) * 285870213051353865) / 288230376151711744=1:=aT
 rotate_left
 focus
  have hc2:W.cell? ⟨2,3,none⟩=some (.int .u8 2):=hc;clear hc;have hm:IntKind.u64.wrap (bits .and .u64 4 (IntKind.u64.wrap (-4)) * 285870213051353865) / 288230376151711744=3:=aT
 rotate_left
 focus
  have hc2:W.cell? ⟨2,7,none⟩=some (.int .u8 3):=hc;clear hc;have hm:IntKind.u64.wrap (bits .and .u64 8 (IntKind.u64.wrap (-8)) * 285870213051353865) / 288230376151711744=7:=aT
 rotate_left
 focus
  have hc2:W.cell? ⟨2,15,none⟩=some (.int .u8 4):=hc;clear hc;have hm:IntKind.u64.wrap (bits .and .u64 16 (IntKind.u64.wrap (-16)) * 285870213051353865) / 288230376151711744=15:=aT
 rotate_left
 focus
  have hc2:W.cell? ⟨2,31,none⟩=some (.int .u8 5):=hc;clear hc;have hm:IntKind.u64.wrap (bits .and .u64 32 (IntKind.u64.wrap (-32)) * 285870213051353865) / 288230376151711744=31:=aT
 rotate_left
 focus
  have hc2:W.cell? ⟨2,63,none⟩=some (.int .u8 6):=hc;clear hc;have hm:IntKind.u64.wrap (bits .and .u64 64 (IntKind.u64.wrap (-64)) * 285870213051353865) / 288230376151711744=63:=aT
 rotate_left
 focus
  have hc2:W.cell? ⟨2,62,none⟩=some (.int .u8 7):=hc;clear hc;have hm:IntKind.u64.wrap (bits .and .u64 128 (IntKind.u64.wrap (-128)) * 285870213051353865) / 288230376151711744=62:=aT
 rotate_left
 all_goals
  go_enter func270,ntmps270
  go_wp2_with fail;go_ret;exact⟨rfl,rfl⟩
theorem Ui (W:World) (k:Nat) (hk:k < 8) (h:TabAt W):Calls prog 256 #[.int .u64 (2 ^ k)] W fun e W'=>e=.returned (.i k)/\W=W':=by
 have ht:=MU W k hk h;have h0:(0:Int)<=2 ^ k:=by exact Int.le_of_lt (Int.pow_pos aT)
 clear h
 go_enter func256,ntmps256
 go_wp2_with fail;refine ht.mono ?_;rintro e w2 ⟨rfl,rfl⟩;clear ht;go_wp2_with fail;go_ret;exact⟨rfl,rfl⟩
end Mc
end Go.Proofs.YtbklamnimfmjkaaGreatDoor
