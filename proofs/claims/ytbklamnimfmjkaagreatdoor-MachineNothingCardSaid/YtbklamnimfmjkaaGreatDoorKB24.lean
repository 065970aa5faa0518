/- Part 24 of the walks and plain laws that the last text joins. -/
import Derived.Test.YtbklamnimfmjkaaGreatDoorKB23
set_option maxRecDepth 100000
set_option maxHeartbeats 16000000
set_option linter.all false
open Go.Proofs.Tryz
namespace Go.Proofs.YtbklamnimfmjkaaGreatDoor
namespace Mc
open Go.RowKit Hp ah aj Slot ai Tk Cl
variable {x:Sm}
theorem xY {s t:S} (h:x.becomes s=.inl t):t.right=true:=by
 unfold Sm.becomes at h
 split at h
 ·split at h
  ·cases h
  ·split at h
   ·rename_i u hu
    cases h;exact fC (Cl.iw.x (by unfold iw;omega)) hu
   ·cases h
 ·split at h
  ·rename_i u hu
   cases h;exact fC (Cl.iw.x (by unfold iw;omega)) hu
  ·cases h
def bS (x:Sm) (s:S):S:=match x.becomes s with | .inl t=>t | .inr _=>S.zero
def bE (x:Sm) (s:S):Int:=match x.becomes s with | .inl _=>0 | .inr e=>e
theorem Xa {s:S} {e:Int} (h:x.becomes s=.inr e):e=9\/e=10\/e=11:=by
 unfold Sm.becomes at h
 split at h
 ·split at h
  ·cases h;omega
  ·split at h<;>cases h;omega
 ·split at h<;>cases h;omega
def xH (x:Sm):Nat:=if x.opens then 159 else 160
theorem nD (x:Sm):∀ args w,(callFunc (xH x) args).run prog w=.ok (.enter (xH x) args) w:=by
 unfold xH
 split
 ·exact aH func159
 ·exact aH func160
theorem eD.bv {W:World} {sb b1 b2 mb wb:Nat} {bv:Value} {ws:List Int} {tc:Int} (h:eD W sb b1 b2 mb wb bv x ws tc):bv=.func (.func (xH x)) #[] #[ptr b1,ptr b2]:=by
 rcases h.fn.2 with e | e
 ·rw[e.2.1];unfold xH;rw[if_pos e.1]
 ·rw[e.2.1];unfold xH;rw[if_neg (by rw[e.1];decide)]
theorem EI {W:World} {sb b1 b2 mb wb:Nat} {bv:Value} {ws:List Int} {tc:Int} (h:eD W sb b1 b2 mb wb bv x ws tc) {s:S} (hr:s.right=true):
  Calls prog (xH x) #[s.val,ptr b1,ptr b2] W fun e W'=>e=.returned (.tuple #[(bS x s).val,.i (bE x s)])/\Below W.heap.size W W':=by
 unfold bS bE xH Sm.becomes
 rcases h.fn.2 with e | e
 ·simp only[e.1,if_true]
  by_cases hb:s.broken=true
  ·rw[if_pos hb];exact zN W s b1 b2 hb
  ·rw[if_neg hb];have hc:=I8 W s b1 b2 x.w x.cf h.fn.1 e.2.2 hr h.laid (by simpa using hb);cases hn:Tk.bC s 14 x.w x.cf.streams<;>simpa [hn] using hc
 ·simp only[e.1,Bool.false_eq_true,if_false];have hc:=I7 W s b1 b2 x.w x.num h.fn.1 e.2.2 hr h.laid;cases hn:Tk.bC s 15 x.w x.num<;>simpa [hn] using hc
theorem kI {P:Program} {ops:Array Oper} {Q:Exit->Act->World->Prop} {md:Region.Mode} {S:World->Prop} {i fuel:Nat} {listed:Array Bool} {a:Act} {w:World} (F k:Nat) (args:Array Operand) (ats:Array TypeId) (d:Option Tmp) (cs:Array Value)
  (ho:(ops[i]?).map (fun o=>(o.dst,o.op,o.guard))=some (d,Op.call {callee:=Callee.value (.tmp k),args:=args,argTypes:=ats},none)) (hT:a.eval (.tmp k)=.func (.func F) #[] cs)
  (vals:Array Value) (hv:args.map a.eval ++ cs=vals) (hE:∀ args w,(callFunc F args).run P w=.ok (.enter F args) w)
  (h:Calls P F vals w fun e w'=>∃ v,e=.returned v/\S w'/\(S w'->wpAnyH P md ops Q S fuel (listed.setIfInBounds i true) (a.put d v) w')):ko P md ops Q S fuel listed a w i:=by
 obtain⟨o,sF,vO,vP,yU⟩:=nG ho;refine wpOp_step sF fun K hK=>?_
 rw[if_pos (by simp[Region.wanted,yU])]
 have hx:(execOp a.eval o).run P w=.ok (.enter F vals) w:=by
  unfold execOp;simp only[vP,resolve];have vQ:a.tmps[k]?.getD undef=.func (.func F) #[] cs:=by simpa [Act.eval] using hT
  simp[go_sem,vQ,hv,hE,Act.eval,invoke,Deferred.ofValue]
 unfold Oper.wp;rw[hx,Oper.upon_enter];refine h.mono ?_;rintro e w' ⟨v,rfl,hS,hk⟩;dsimp only;rw[vO];exact hK _ _ ⟨hS,hk hS⟩
theorem Ue {s t:S} (h:x.becomes s=.inl t):bS x s=t:=by unfold bS;rw[h]
theorem Uf {s:S} {e:Int} (h:x.becomes s=.inr e):bS x s=S.zero:=by unfold bS;rw[h]
theorem Ug {s t:S} (h:x.becomes s=.inl t):bE x s=0:=by unfold bE;rw[h]
theorem Uh {s:S} {e:Int} (h:x.becomes s=.inr e):bE x s=e:=by unfold bE;rw[h]
theorem Mg:(∀ {W:World} {sb b1 b2 mb wb:Nat} {bv:Value} {x:Sm} {ws:List Int} {tc:Int} (h:eD W sb b1 b2 mb wb bv x ws tc) (ht:0<=tc/\tc<=4000000000000000000) (hc:aA x.cf) (hlen:ws.length=sc x.cf (ns x.cf)) (hh:bW x.cf x.i=true) {s:S} (hd:dec (rd ws (sc x.cf x.i.toNat))=some s) (e3:s.state=3) (eo:s.own=x.w) (eg:s.gen=x.gen) (hk:x.st=1) {er:Int} (hbc:x.becomes s=.inr er),Calls prog 219 #[ptr sb,ptr mb] W (ig W sb b1 b2 mb wb bv (.tuple #[]) (x.step ws).1 (x.step ws).2.1 (tc+(x.step ws).2.2)))/\(∀ {W:World} {sb b1 b2 mb wb:Nat} {bv:Value} {x:Sm} {ws:List Int} {tc:Int} (h:eD W sb b1 b2 mb wb bv x ws tc) (ht:0<=tc/\tc<=4000000000000000000) (hc:aA x.cf) (hlen:ws.length=sc x.cf (ns x.cf)) (hh:bW x.cf x.i=true) {s:S} (hd:dec (rd ws (sc x.cf x.i.toNat))=some s) (e3:s.state=3) (eo:s.own=x.w) (eg:s.gen=x.gen) (hk:x.st=1) {t:S} (hbc:x.becomes s=.inl t) (htab:TabAt W) (hn2:¬ xQ sb b1 b2 2/\¬ dJ mb wb 2),Calls prog 219 #[ptr sb,ptr mb] W (ig W sb b1 b2 mb wb bv (.tuple #[]) (x.step ws).1 (x.step ws).2.1 (tc+(x.step ws).2.2))):=by
 refine⟨?_,?_⟩
 focus
  intro W sb b1 b2 mb wb bv x ws tc h ht hc hlen hh s hd e3 eo eg hk er hbc;have xG:s.right=true:=(gM hd).1;have hbv:=h.bv;subst hbv;have how:owns s x.w x.gen=true:=by unfold owns;simp[e3,eo,eg]
  have hi0:0<=x.i/\x.i < x.cf.slots:=of_decide_eq_true hh;have hns:=hc.ns;have hin:x.i.toNat < ns x.cf:=ag
  have hi1:((x.i.toNat:Nat):Int)=x.i:=Int.toNat_of_nonneg hi0.1;have hsl:=fun W=>bg W x.cf x.i.toNat (by have:=hc.w;omega) (by have:=hc.s;omega)
  have hsc:(3+2 * x.cf.workers+x.i)=((sc x.cf x.i.toNat:Nat):Int):=by have:=hc.w;unfold sc;omega
  simp only[hi1,hsc,Cf.val,Cf.cells]at hsl;have hrd:=rd_some (ws:=ws) (i:=sc x.cf x.i.toNat) (by rw[hlen];unfold sc;omega);rw[rU x ws hk,hh];simp only[if_true];generalize rd ws (sc x.cf x.i.toNat)=y at *;have hld:=fun W (h:bB W mb wb ws tc)=>aU h ht (sc x.cf x.i.toNat) y hrd
  have hdc:=fun W hL=>aS W y hL
  obtain⟨c0,c1,c2,c3,c4⟩:=cQ x.cf h.cell;have c6:=cC x.i (h.cell 6);have H:=uH h;have T0:=uH (OR.refl (W:=W) (mb:=mb) (wb:=wb) (F:=xQ sb b1 b2));clear h hrd hsc hi1 hin hns hi0 hlen;generalize sc x.cf x.i.toNat=cell at *;rw[hd];simp only[hd,Option.getD_some,Option.isSome_some]at hdc;dsimp only;rw[how];simp only[Bool.not_true,Bool.false_eq_true,if_false];rw[hbc];dsimp only;have her:er≠0:=by have:=Xa hbc;omega
 rotate_left
 focus
  intro W sb b1 b2 mb wb bv x ws tc h ht hc hlen hh s hd e3 eo eg hk t hbc htab hn2;have xG:s.right=true:=(gM hd).1;have hbv:=h.bv;subst hbv;have how:owns s x.w x.gen=true:=by unfold owns;simp[e3,eo,eg]
  have hi0:0<=x.i/\x.i < x.cf.slots:=of_decide_eq_true hh;have hns:=hc.ns;have hin:x.i.toNat < ns x.cf:=ag
  have hi1:((x.i.toNat:Nat):Int)=x.i:=Int.toNat_of_nonneg hi0.1;have hsl:=fun W=>bg W x.cf x.i.toNat (by have:=hc.w;omega) (by have:=hc.s;omega)
  have hsc:(3+2 * x.cf.workers+x.i)=((sc x.cf x.i.toNat:Nat):Int):=by have:=hc.w;unfold sc;omega
  simp only[hi1,hsc,Cf.val,Cf.cells]at hsl;have hrd:=rd_some (ws:=ws) (i:=sc x.cf x.i.toNat) (by rw[hlen];unfold sc;omega);rw[rU x ws hk,hh];simp only[if_true];generalize rd ws (sc x.cf x.i.toNat)=y at *;have hld:=fun W (h:bB W mb wb ws tc)=>aU h ht (sc x.cf x.i.toNat) y hrd
  have hdc:=fun W hL=>aS W y hL
  obtain⟨c0,c1,c2,c3,c4⟩:=cQ x.cf h.cell;have c6:=cC x.i (h.cell 6);have H:=uH h;have T0:=uH (OR.refl (W:=W) (mb:=mb) (wb:=wb) (F:=xQ sb b1 b2));clear h hrd hsc hi1 hin hns hi0 hlen;generalize sc x.cf x.i.toNat=cell at *;rw[hd];simp only[hd,Option.getD_some,Option.isSome_some]at hdc;dsimp only;rw[how];simp only[Bool.not_true,Bool.false_eq_true,if_false];rw[hbc];dsimp only;have hur:=xY hbc;obtain⟨sn,Sg,hwh,hxr⟩:=CF (x:=x) ((bN s).1 xG).1.2.2.1 hbc;rw[hwh];have HT:=uH htab;clear htab hwh
 rotate_left
 all_goals
  go_enter func219,ntmps219
  go_wp2_with fail
  go_region_held3 (fun w'=>w'.cell? ⟨sb,0,none⟩=some (.i x.cf.workers)/\w'.cell? ⟨sb,1,none⟩=some (.i x.cf.slots)/\w'.cell? ⟨sb,2,none⟩=some (.i x.cf.streams)/\w'.cell? ⟨sb,3,none⟩=some (.i x.cf.waiters)/\w'.cell? ⟨sb,4,none⟩=some (.i x.cf.uses)/\w'.cell? ⟨sb,6,none⟩=some (.i x.i)) (first | go_keep | exact⟨aI,aI,aI,aI,aI,aI⟩ | (refine⟨?_,?_,?_,?_,?_,?_⟩<;>first | assumption | (rw[World.cell?_setCell_other _ _ _ _ au];assumption)))
   ((first
   | (go_at_call 54;refine(hsl _).mono ?_;rintro e w5 ⟨rfl,hb5⟩;have h5:=(H.out.below bY).below hb5;have q5:=((T0.out).below bY).below hb5;obtain⟨a0,a1,a2,a3,a4⟩:=cQ x.cf h5.cell;have a6:=cC x.i (h5.cell 6))))
  have qU:=hld w5 h5.mem;have H5:=uH h5;have Q5:=uH q5;clear h5 q5 hb5 hsl;go_wp2_with fail;refine qU.mono ?_;rintro e w6 ⟨rfl,jH,fT⟩;have h6:=H5.out.bU fT jH;have q6:=Q5.out.mem fT;have b11:=cC x.word (h6.cell 9);have za:=h6.frozen 9;have h7:=h6.put 9 (.i y) {x with word:=y} rfl rfl rfl rfl rfl;have q7:=q6.set (tb:=sb) (.inl rfl) 9 (.i y);clear qU jH fT h6 q6;go_upto_region 4 with(fail);generalize (w6.setCell ⟨sb,9,none⟩ (.i y))=w7 at *;clear b11 za;have d11:=cC y (h7.cell 9);have hD:=hdc w7 h7.laid;have H7:=uH h7;have Q7:=uH q7;clear h7 q7;go_wp2_with fail;refine hD.mono ?_;rintro e w8 ⟨rfl,cZ⟩;have h8:=H7.out.below cZ;have q8:=Q7.out.below cZ;dsimp only;go_step;refine gl (.tuple #[s.val,.bool true]) ?_;refine gl s.val ?_;refine gl (.bool true) ?_;refine dU (ob:=.cells av 57) (Z:=av) (cs:=s.cells) (t:=57) 57 (.tmp 5) (.tmp 34) rfl ?_
  refine gl (.bool true) (ay ?_)
  rw[aG];have dm:Below w8.heap.size w8 (w8.alloc (.cells s.cells 57)):=bZ.alloc aQ _;have fe:af (w8.alloc (.cells s.cells 57)) w8.heap.size s.cells 57:=heap_alloc_new w8 _;have h9:=h8.below dm;have q9:=q8.below dm;have Kb:sb < w8.heap.size:=h8.lt;generalize (w8.alloc (.cells s.cells 57))=w9 at *;generalize w8.heap.size=db at *;clear hD cZ dm h8 q8 d11 hld hdc;have e5:=cC x.w (h9.cell 5);have e7:=cC x.gen (h9.cell 7);have s0:=cC 3 ((af.cell fe 0).trans (by show some (Value.int .i64 s.state)=_;first | rfl | rw[e3]));have s1:=cC x.w ((af.cell fe 1).trans (by show some (Value.int .i64 s.own)=_;first | rfl | rw[eo]));have s6:=cC x.gen ((af.cell fe 6).trans (by show some (Value.int .i64 s.gen)=_;first | rfl | rw[eg]));have Vn:=uH fe;have H9:=uH (h9.below bY);have Q9:=uH (q9.below bY);clear h9 q9 fe how e3 eo eg;go_wp2_with fail;go_region
  have nJ:af w9.drew db s.cells 57:=Vn.out;generalize w9.drew=dH at *;clear e5 e7 s0 s1 s6 Vn;have hbe:=fun W (h:eD W sb b1 b2 mb wb (.func (.func (xH x)) #[] #[ptr b1,ptr b2]) {x with word:=y} ws (tc+1))=>EI h xG
 focus
  rw[show xH {x with word:=y}=xH x from rfl,show bS {x with word:=y} s=S.zero from Uf hbc,show bE {x with word:=y} s=er from Uh hbc]at hbe
 rotate_left
 focus
  rw[show xH {x with word:=y}=xH x from rfl,show bS {x with word:=y} s=t from Ue hbc,show bE {x with word:=y} s=0 from Ug hbc]at hbe
 rotate_left
 all_goals
  have U7:=uH hbe;clear hbe;have k12:=cV (.func (.func (xH x)) #[] #[ptr b1,ptr b2]) (H9.out.cell 12);have k0:=cC s.state (af.cell nJ 0);have k1:=cC s.own (af.cell nJ 1);have k2:=cC s.streams (af.cell nJ 2);have k3:=cV (.bool s.broken) (af.cell nJ 3);have k4:=cV (.bool s.marked) (af.cell nJ 4);have k5:=cC s.uses (af.cell nJ 5);have k6:=cC s.gen (af.cell nJ 6);have k7:=cC s.aJ (af.cell nJ 7);have k8:=cC s.version (af.cell nJ 8);have xJ:=uH nJ;clear nJ hbc;go_upto_region 7 with(fail)
 ·go_cut [7,8] from 63 to 71 (fun pv ev wx=>ev=.i er/\∃ tb,pv=ptr tb/\RowKit.Hid (dH.heap.size<=tb)/\RowKit.Hid (af wx tb S.zero.cells 57)/\RowKit.Hid (Below dH.heap.size dH wx))
  case first=>
   rename_i JJ KK JI Fe
   have hS:∀ w,Below dH.heap.size dH w->w.cell? ⟨sb,12,none⟩=some (.func (.func (xH x)) #[] #[ptr b1,ptr b2])/\af w db s.cells 57:=fun w hb=>⟨(H9.out.below hb).cell 12,af.below xJ.out hb⟩
   refine wp_region_held_drew (S:=(fun w'=>w'.cell? ⟨sb,12,none⟩=some (.func (.func (xH x)) #[] #[ptr b1,ptr b2])/\af w' db s.cells 57)) ax (by exact hS _ bY) (fun hHeld=>?_);refine tH 0 64 hHeld ?_;refine tH 1 65 hHeld ?_;refine tH 2 66 hHeld ?_;refine tH 3 67 hHeld ?_;refine iC (gd:=none) 4 68 (.load 57 (.tmp 5)) (.agg s.cells) (aM 57 (.tmp 5) db 57 s.cells _ ax underlying57 rfl ax (fun w h=>h.2)) hHeld (ay ?_)
   refine gI (i:=5) (k:=9) ax ?_ ?_
   focus
    refine kI (xH x) 67 #[.tmp 68] #[57] (some 69) #[ptr b1,ptr b2] ax rfl #[s.val,ptr b1,ptr b2] ax (nD x) ?_;refine(U7.out _ (H9.out.below bY)).mono ?_;rintro e kU ⟨rfl,ku⟩;have hB:Below dH.heap.size dH kU:=aW bY ku;have hs:=hB.size
   rotate_left
   focus
    have hB2:Below dH.heap.size dH (dH.drew.alloc (.cells av 57)):=bY.alloc aQ _;refine aY (some 7) (ptr dH.heap.size) ax ax (w':=dH.drew.alloc (.cells av 57)) ax (hS _ hB2) (fun hHeld=>ay ?_)
    refine aX (i:=5) ax (kI (xH x) 67 #[.tmp 68] #[57] (some 69) #[ptr b1,ptr b2] ax rfl #[s.val,ptr b1,ptr b2] ax (nD x) ?_);refine(U7.out _ (H9.out.below hB2)).mono ?_;rintro e kU ⟨rfl,ku⟩;have hB:Below dH.heap.size dH kU:=aW hB2 ku;have hs:=hB.size;have hz:af kU dH.heap.size av 57:=af.below (af.new dH.drew av 57) ku
   rotate_left
   all_goals
    refine⟨_,rfl,hS _ hB,fun hHeld=>ay ?_⟩
    refine tH 6 63 hHeld ?_;refine tH 7 70 hHeld ?_;refine tH 8 71 hHeld ?_
   focus
    have hB2:Below dH.heap.size dH (kU.alloc (.cells av 57)):=hB.alloc hB.size _;refine aX (i:=9) ax (aY (some 7) (ptr kU.heap.size) ax ax (w':=kU.alloc (.cells av 57)) ax (hS _ hB2) (fun hHeld=>ay ?_))
    have hB3:=bX hB2 hs S.zero.cells;refine aX (i:=10) ax (gp 57 (.tmp 7) (.tmp 70) ax kU.heap.size 57 av S.zero.cells rfl rfl (af.new _ _ _) ax ax ax (hS _ hB3) (fun hHeld=>?_))
   rotate_left
   focus
    have hB3:=bX hB aQ S.zero.cells;refine aX (i:=10) ax (gp 57 (.tmp 7) (.tmp 70) ax dH.heap.size 57 av S.zero.cells rfl rfl hz ax ax ax (hS _ hB3) (fun hHeld=>?_))
   rotate_left
   all_goals
    try simp only[Act.put,sA,sZ,sS]
    refine tH 11 8 hHeld ?_;refine iR ?_;refine Fe _ _ (Met.intro (JI _ _ ?_))
    (repeat apply Exists.intro)
    refine⟨?_,rfl⟩
   ·exact⟨rfl,kU.heap.size,rfl,uH hs,uH ((af.new _ _ _).set _),uH hB3⟩
   ·exact⟨rfl,dH.heap.size,rfl,uH aQ,uH (hz.set _),uH hB3⟩
  case rest=>
   obtain⟨rfl,tb,rfl,Ht,HR,HB⟩:=hcut;have h11:=H9.out.below HB.out;have xK:=Q9.out.below HB.out;have hen:=mM h11 er;have ke:(er != 0)=true:=by simpa using her
   have pV:=uH h11;have xF:=uH xK;clear h11 xK U7 her k0 k1 k2 k3 k4 k5 k6 k7 k8 k12;go_wp2_with fail;refine hen.mono ?_;rintro e w9 ⟨rfl,h9,q9⟩;have H9:=uH h9;have Q9:=uH (xF.out.trans q9);clear hen h9 q9;go_wp2_with fail
   first | go_end0 | refine bP ?_
   exact⟨rfl,H9.out,Q9.out⟩
 ·go_cut [7,8] from 63 to 71 (fun pv ev wx=>ev=.i 0/\∃ tb,pv=ptr tb/\RowKit.Hid (dH.heap.size<=tb)/\RowKit.Hid (af wx tb t.cells 57)/\RowKit.Hid (Below dH.heap.size dH wx))
  case first=>
   rename_i JJ KK JI Fe
   have hS:∀ w,Below dH.heap.size dH w->w.cell? ⟨sb,12,none⟩=some (.func (.func (xH x)) #[] #[ptr b1,ptr b2])/\af w db s.cells 57:=fun w hb=>⟨(H9.out.below hb).cell 12,af.below xJ.out hb⟩
   refine wp_region_held_drew (S:=(fun w'=>w'.cell? ⟨sb,12,none⟩=some (.func (.func (xH x)) #[] #[ptr b1,ptr b2])/\af w' db s.cells 57)) ax (by exact hS _ bY) (fun hHeld=>?_);refine tH 0 64 hHeld ?_;refine tH 1 65 hHeld ?_;refine tH 2 66 hHeld ?_;refine tH 3 67 hHeld ?_;refine iC (gd:=none) 4 68 (.load 57 (.tmp 5)) (.agg s.cells) (aM 57 (.tmp 5) db 57 s.cells _ ax underlying57 rfl ax (fun w h=>h.2)) hHeld (ay ?_)
   refine gI (i:=5) (k:=9) ax ?_ ?_
   focus
    refine kI (xH x) 67 #[.tmp 68] #[57] (some 69) #[ptr b1,ptr b2] ax rfl #[s.val,ptr b1,ptr b2] ax (nD x) ?_;refine(U7.out _ (H9.out.below bY)).mono ?_;rintro e kU ⟨rfl,ku⟩;have hB:Below dH.heap.size dH kU:=aW bY ku;have hs:=hB.size
   rotate_left
   focus
    have hB2:Below dH.heap.size dH (dH.drew.alloc (.cells av 57)):=bY.alloc aQ _;refine aY (some 7) (ptr dH.heap.size) ax ax (w':=dH.drew.alloc (.cells av 57)) ax (hS _ hB2) (fun hHeld=>ay ?_)
    refine aX (i:=5) ax (kI (xH x) 67 #[.tmp 68] #[57] (some 69) #[ptr b1,ptr b2] ax rfl #[s.val,ptr b1,ptr b2] ax (nD x) ?_);refine(U7.out _ (H9.out.below hB2)).mono ?_;rintro e kU ⟨rfl,ku⟩;have hB:Below dH.heap.size dH kU:=aW hB2 ku;have hs:=hB.size;have hz:af kU dH.heap.size av 57:=af.below (af.new dH.drew av 57) ku
   rotate_left
   all_goals
    refine⟨_,rfl,hS _ hB,fun hHeld=>ay ?_⟩
    refine tH 6 63 hHeld ?_;refine tH 7 70 hHeld ?_;refine tH 8 71 hHeld ?_
   focus
    have hB2:Below dH.heap.size dH (kU.alloc (.cells av 57)):=hB.alloc hB.size _;refine aX (i:=9) ax (aY (some 7) (ptr kU.heap.size) ax ax (w':=kU.alloc (.cells av 57)) ax (hS _ hB2) (fun hHeld=>ay ?_))
    have hB3:=bX hB2 hs t.cells;refine aX (i:=10) ax (gp 57 (.tmp 7) (.tmp 70) ax kU.heap.size 57 av t.cells rfl rfl (af.new _ _ _) ax ax ax (hS _ hB3) (fun hHeld=>?_))
   rotate_left
   focus
    have hB3:=bX hB aQ t.cells;refine aX (i:=10) ax (gp 57 (.tmp 7) (.tmp 70) ax dH.heap.size 57 av t.cells rfl rfl hz ax ax ax (hS _ hB3) (fun hHeld=>?_))
   rotate_left
   all_goals
    try simp only[Act.put,sA,sZ,sS]
    refine tH 11 8 hHeld ?_;refine iR ?_;refine Fe _ _ (Met.intro (JI _ _ ?_))
    (repeat apply Exists.intro)
    refine⟨?_,rfl⟩
   ·exact⟨rfl,kU.heap.size,rfl,uH hs,uH ((af.new _ _ _).set _),uH hB3⟩
   ·exact⟨rfl,dH.heap.size,rfl,uH aQ,uH (hz.set _),uH hB3⟩
  case rest=>
   obtain⟨rfl,tb,rfl,Ht,HR,HB⟩:=hcut;have h11:=H9.out.below HB.out;have xK:=Q9.out.below HB.out;have hen:=fP wc t h11.laid hur;simp only[S.val,S.cells]at hen;have v0:=cC t.state (af.cell HR.out 0);have v1:=cC t.own (af.cell HR.out 1);have v2:=cC t.streams (af.cell HR.out 2);have v3:=cV (.bool t.broken) (af.cell HR.out 3);have v4:=cV (.bool t.marked) (af.cell HR.out 4);have v5:=cC t.uses (af.cell HR.out 5);have v6:=cC t.gen (af.cell HR.out 6);have v7:=cC t.aJ (af.cell HR.out 7);have v8:=cC t.version (af.cell HR.out 8);have u10:=cC x.next (h11.cell 10);have TC:=h11.frozen 10;have hsc:af wc db s.cells 57:=af.below xJ.out HB.out;have pV:=uH h11;have xF:=uH xK;have HSC:=uH hsc;clear h11 xK U7 k0 k1 k2 k3 k4 k5 k6 k7 k8 k12 hsc;go_wp2_with fail;refine hen.mono ?_;rintro e uo ⟨rfl,jL⟩;have h12:=pV.out.below jL
   have vV:=h12.put 10 (.i t.word) {x with word:=y,next:=t.word} rfl rfl rfl rfl rfl;have UR:=(xF.out.below jL).set (tb:=sb) (.inl rfl) 10 (.i t.word);have y10:=cC x.next (h12.cell 10);have ZL:=h12.frozen 10;have hlb:=h12.lt;have Ep:aD (fun k=>k=sb) uo (uo.setCell ⟨sb,10,none⟩ (.i t.word)):=(aD.refl _ _).setCell _ _ (fun _=>rfl);have hds:db≠sb:=ag
   have hts:tb≠sb:=by have:=Ht.out;have:=xJ.out.lt;omega
   have Xb:af (uo.setCell ⟨sb,10,none⟩ (.i t.word)) db s.cells 57:=af.aK (af.below HSC.out jL) Ep hds;have xz:af (uo.setCell ⟨sb,10,none⟩ (.i t.word)) tb t.cells 57:=af.aK (af.below HR.out jL) Ep hts;clear h12 hen u10 TC Ep v0 v1 v2 v3 v4 v5 v6 v7 v8;go_upto_region 11 with(fail);generalize (uo.setCell ⟨sb,10,none⟩ (.i t.word))=JL at *;have d2:=cC s.streams (af.cell Xb 2);have e2:=cC t.streams (af.cell xz 2);have u11:=cC x.stream (vV.cell 11);have Ik:=vV.frozen 11;have ht2:TabAt JL:=HT.out.stable (UR.2.block 2 (dN (HT.out 0 aT)) (fun e=>e.elim hn2.1 hn2.2));have htz:=Ui JL sn Sg ht2
   have hwr:IntKind.u64.wrap (2 ^ sn)=2 ^ sn:=by
    have ZM:sn=0\/sn=1\/sn=2\/sn=3\/sn=4\/sn=5\/sn=6\/sn=7:=ag
    rcases ZM with rfl | rfl | rfl | rfl | rfl | rfl | rfl | rfl<;>decide
   have yE:=vV.put 11 (.i sn) {x with word:=y,next:=t.word,stream:=sn} rfl rfl rfl rfl rfl;have q14:=UR.set (tb:=sb) (.inl rfl) 11 (.i sn);have S9:=uH yE;have Xc:=uH q14;clear vV UR Xb xz y10 ZL ht2 yE q14 jL HR HB Ht HSC xJ;go_wp2_with fail;refine htz.mono ?_;rintro e w14 ⟨rfl,rfl⟩;clear htz hwr hxr d2 e2;go_upto_region 12 with(fail);generalize (JL.setCell ⟨sb,11,none⟩ (.i sn))=w15 at *;have m8:=cC x.st (S9.out.cell 8);have mf8:=S9.out.frozen 8;clear u11 Ik;go_wp2_with fail
   first | go_end0 | refine bP ?_
   exact⟨rfl,S9.out.put 8 (.i 2) {x with word:=y,next:=t.word,stream:=sn,st:=2} rfl rfl rfl rfl rfl,Xc.out.set (tb:=sb) (.inl rfl) 8 _⟩
def I9:=@And.left _ _ Mg
def Ja:=@And.right _ _ Mg
end Mc
end Go.Proofs.YtbklamnimfmjkaaGreatDoor
