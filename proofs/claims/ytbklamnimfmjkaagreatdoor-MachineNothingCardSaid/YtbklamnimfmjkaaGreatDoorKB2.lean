/- Part 2 of the walks and plain laws that the last text joins. -/
import Derived.Test.YtbklamnimfmjkaaGreatDoorKB1
import Derived.Laws.MakeOwn
import Derived.Lib.SliceRun
import Derived.Laws.AppendOwn
import Derived.Laws.StructEq
import Derived.Laws.Small
import Derived.Deep.WholeRow
import Derived.Laws.EntriesVeiled
import Derived.MapKept
import Derived.Carry
set_option maxRecDepth 100000
set_option maxHeartbeats 16000000
set_option linter.all false
open Go.Proofs.Tryz
namespace Go.Proofs.YtbklamnimfmjkaaGreatDoor
namespace aj
open Go.RowKit Hp
structure Cf where
 workers:Int
 slots:Int
 streams:Int
 waiters:Int
 uses:Int
def Cf.cells (c:Cf):Array Value:=(Ab c.workers c.slots c.streams c.waiters c.uses)
abbrev Cf.val (c:Cf):Value:=.agg c.cells
def vM (l n m:Int):Bool:=decide (l<=n/\n<=m)
def Cf.right (c:Cf):Bool:=vM 1 c.workers 8 && (vM 1 c.slots 16 && (vM 0 c.streams 8 && (vM 0 c.waiters 8 && vM 1 c.uses 60)))
theorem AL (w:World) (l n m:Int):Calls prog 47 #[.i l,.i n,.i m] w fun e w'=>e=.returned (.bool (vM l n m))/\w=w':=by
 go_enter func47,ntmps47
 by_cases h:l<=n
 ·go_wp2
  go_ret;exact⟨Base.aN (by simp[vM,h]),rfl⟩
 ·go_wp2
  go_ret;exact⟨Base.aN (by simp[vM];omega),rfl⟩
theorem eP (w:World) (c:Cf):Calls prog 29 #[c.val] w fun e w'=>e=.returned (.bool c.right)/\Below w.heap.size w w':=by
 have hb:=fun w l n m=>AL w l n m
 have hr:RowKit.Hid (c.right=(vM 1 c.workers 8 && (vM 1 c.slots 16 && (vM 0 c.streams 8 && (vM 0 c.waiters 8 && vM 1 c.uses 60))))):=rfl;have h1:=fun w=>hb w 1 c.workers 8
 have h2:=fun w=>hb w 1 c.slots 16
 have h3:=fun w=>hb w 0 c.streams 8
 have h4:=fun w=>hb w 0 c.waiters 8
 have h5:=fun w=>hb w 1 c.uses 60
 clear hb;generalize vM 1 c.workers 8=b1 at *;generalize vM 1 c.slots 16=b2 at *;generalize vM 0 c.streams 8=b3 at *;generalize vM 0 c.waiters 8=b4 at *;generalize vM 1 c.uses 60=b5 at *;generalize c.right=r at *;obtain⟨c1,c2,c3,c4,c5⟩:=c;simp only[Cf.val,Cf.cells]at *;have hB:Below w.heap.size w (w.alloc (.cells (Ab c1 c2 c3 c4 c5) 27)):=bZ.alloc aQ _
 go_enter func29,ntmps29
 go_wp2_with fail;refine(h1 _).mono ?_;rintro e w1 ⟨rfl,rfl⟩;cases b1
 ·go_wp2_with fail;go_ret;exact⟨Base.aN (by rw[hr.out];rfl),hB⟩
 go_wp2_with fail;refine(h2 _).mono ?_;rintro e w1 ⟨rfl,rfl⟩;cases b2
 ·go_wp2_with fail;go_ret;exact⟨Base.aN (by rw[hr.out];rfl),hB⟩
 go_wp2_with fail;refine(h3 _).mono ?_;rintro e w1 ⟨rfl,rfl⟩;cases b3
 ·go_wp2_with fail;go_ret;exact⟨Base.aN (by rw[hr.out];rfl),hB⟩
 go_wp2_with fail;refine(h4 _).mono ?_;rintro e w1 ⟨rfl,rfl⟩;cases b4
 ·go_wp2_with fail;go_ret;exact⟨Base.aN (by rw[hr.out];rfl),hB⟩
 go_wp2_with fail;refine(h5 _).mono ?_;rintro e w1 ⟨rfl,rfl⟩;cases b5
 all_goals (
  go_wp2_with fail;go_ret;exact⟨Base.aN (by rw[hr.out];rfl),hB⟩)
end aj
namespace Cl
open Go.RowKit Hp ah aj
theorem bg (w:World) (c:Cf) (i:Nat) (hw:0<=c.workers/\c.workers<=8) (hi:(i:Int) < c.slots/\c.slots<=100):Calls prog 54 #[c.val,.i i] w fun e w'=>e=.returned (.i (3+2 * c.workers+i))/\Below w.heap.size w w':=by
 obtain⟨cw,cs,cst,jm,cu⟩:=c;dsimp only at hw hi
 go_enter func54,ntmps54
 simp only[Cf.val,Cf.cells];have n0:¬ ((i:Int) < 0):=ag
 have n1:¬ (cs<=(i:Int)):=ag
 have n2:decide (cs<=(i:Int))=false:=by simpa using n1
 have e2:wrap64 (3+2 * cw+i)=3+2 * cw+i:=by unfold wrap64;omega
 go_wp2_with fail;go_ret;exact⟨by first | rfl | (simp<;>omega),bZ.alloc aQ _⟩
theorem Gq (w:World) (c:Cf) (hw:0<=c.workers/\c.workers<=8) (hi:0<=c.slots/\c.slots<=100):Calls prog 49 #[c.val] w fun e w'=>e=.returned (.i (3+2 * c.workers+c.slots))/\Below w.heap.size w w':=by
 obtain⟨cw,cs,cst,jm,cu⟩:=c;dsimp only at hw hi
 go_enter func49,ntmps49
 simp only[Cf.val,Cf.cells];go_wp2_with fail;go_ret;exact⟨by first | rfl | (simp<;>omega),bZ.alloc aQ _⟩
theorem yh (n:Nat):madeCells #[.i 0] n=⟨(List.replicate n (0:Int)).map (Value.int .i64)⟩:=by
 apply Array.ext'
 rw[toList_madeCells_one];simp
theorem qL (n:Nat):madeCells #[.i 0] n=Array.replicate n (.i 0):=by
 apply Array.ext'
 rw[toList_madeCells_one];simp
theorem iZ (w:World) (n:Nat) (hn:1<=n/\n<=4096):Calls prog 48 #[.i n] w fun e w'=>
  e=.returned (.tuple #[ptr (w.heap.size+1),.i 0])/\bB w' (w.heap.size+1) w.heap.size (List.replicate n 0) 0/\Below w.heap.size w w':=by
 obtain⟨i0,hi,hz0,hz1,hz2⟩:=Field.info_parts Field.lJ
 have hmk:(Instr.makeSlice 43 (.i n) (.i n)).run prog w=.ok (.slice (some ⟨w.heap.size,0,none⟩) n n) (w.alloc (.cells (Array.replicate n (.i 0)) 3)):=by
  have h:=run_makeSlice (P:=prog) (w:=w) 43 3 i0 (.i 0) underlying43 hi hz0 .i64 .i64 n n ag ag (by rw[hz1];simp;omega) (by rw[hz2];omega) ag;rw[hz1]at h;simp only[Int.toNat_natCast,Nat.mul_one]at h;rw[h,<- qL];rfl
 have hA:mR (w.alloc (.cells (Array.replicate n (.i 0)) 3)) w.heap.size (List.replicate n 0):=by
  unfold mR;rw[<- yh,qL];exact af.new w _ _
 have n0:¬ ((n:Int) < 1):=ag
 have n1:¬ (4096 < (n:Int)):=ag
 clear hi hz0 hz1 hz2
 go_enter func48,ntmps48
 go_wp2_with fail;go_ret2;refine⟨rfl,⟨au,au,au,?_,ag,by simpa using hn⟩,(bZ.alloc aQ _).alloc au _⟩;exact(Below.heap_alloc _ _ _ au).trans hA
theorem AO (w:World) (g:Nat) (l:List Int) (h0:0 < l.length) (hl:l.length<=4096) (h:mR w g l):
  Calls prog 58 #[.slice (some ⟨g,0,none⟩) l.length l.length] w fun e w'=>∃ a c,e=.returned (.slice a l.length c)/\bR w' (.slice a l.length c) l.length 1 (l.map (Value.int .i64))/\(∀ k,Fp (.slice a l.length c) k->w.heap.size<=k)/\Below w.heap.size w w':=by
 have q22:∀ (w:World) (a:Option Addr) (n c n' c':Nat),(binOp .eql 43 (.slice a n c) (.slice none n' c')).run prog w=.ok (.bool a.isNone) w:=fun w a n c n' c'=>Lib.run_eql_slice_nil w _ _ a n c n' c' underlying43
 have hc:∀ j u,(l.map (Value.int .i64))[j]? =some u->w.cell? ⟨g,0+j,none⟩=some u:=by
  intro j u hu;rw[Nat.zero_add,af.cell h j]
  simpa using hu
 have HC:=uH hc;obtain⟨i0,hi,hz0,hz1,hz2⟩:=Field.info_parts Field.lJ;clear hc
 go_enter func58,ntmps58
 go_wp2_with (at_builtin;refine wpList_append_own _ rfl _ _ 43 rfl w.heap.size 3 i0 (.i 0) 1 8 underlying43 hi hz0 hz1 hz2 rfl aT _ _ _ rfl (World.ownsRow_made w #[] 0 aQ (Nat.zero_le _) au) ⟨g,0,none⟩ l.length l.length (l.map (Value.int .i64)) rfl ?qc1 ?qc2 ?qc3 ?qc4 ?qc5 ?qc6 ?_)
 case qc1=>simp
 case qc2=>
  intro j u hj;rw[Addr.add_lit];exact Lib.cell?_alloc_some _ (HC.out j u hj)
 case qc3=>simp[Value.oneCell']
 case qc4=>unfold maxLen;omega
 case qc5=>omega
 case qc6=>simp
 intro v' w1 hown hgrow hnil;have h3:=nO hown
 try simp only[Nat.zero_add,List.nil_append]at h3
 obtain⟨a',c',rfl⟩:=h3.form;have hlt:=hown.lt;have Vd:=uH hlt;have H3:=uH h3;have Qv:=uH hgrow;clear hown hgrow hnil q22 hi hz0 hz1 hz2 hlt h3
 go_wp2
 go_ret;refine⟨a',c',rfl,H3.out,?_,?_⟩
 ·intro k hk;obtain⟨aa,n1,c1,hv,he⟩:=hk;cases hv;subst he;exact(Vd.out _ rfl).1
 ·exact((Below.refl _ w).alloc aQ _).grown Qv.out au (by intro k hk;simp[Value.ownBlock]at hk;omega)
theorem yj {W:World} {mb wb:Nat} {ws:List Int} {tc:Int} (h:bB W mb wb ws tc):Calls prog 40 #[ptr mb] W fun e W'=>∃ a c,e=.returned (.slice a ws.length c)/\bR W' (.slice a ws.length c) ws.length 1 (ws.map (Value.int .i64))/\(∀ k,Fp (.slice a ws.length c) k->W.heap.size<=k)/\Below W.heap.size W W':=by
 have c0:=h.c0;have hcl:=AO W wb ws (by have:=h.len;omega) h.len.2 h.row
 go_enter func40,ntmps40
 go_wp2_with fail;refine hcl.mono ?_;rintro e w2 ⟨a,c,rfl,h1,h2,h3⟩;clear hcl;go_wp2_with fail;go_ret;exact⟨a,c,rfl,h1,h2,h3⟩
end Cl
namespace Slot
open Go.RowKit Hp
theorem zM (w:World) (a1 a2 a3:Int) (a4 a5:Bool) (a6 a7 a8 a9 b1 b2 b3:Int) (b4 b5:Bool) (b6 b7 b8 b9:Int):
  (Op.equalIn 10000 57 (.agg (Aa a1 a2 a3 a4 a5 a6 a7 a8 a9))
   (.agg (Aa b1 b2 b3 b4 b5 b6 b7 b8 b9))).run prog w=.ok (decide ((⟨a1,a2,a3,a4,a5,a6,a7,a8,a9⟩:S)=⟨b1,b2,b3,b4,b5,b6,b7,b8,b9⟩)) w:=by
 have u3:=underlying3;have a3':=isAgg3;have z3:=sizeOf3;have u4:=underlying4;have a4':=isAgg4;have z4:=sizeOf4;have hS:prog.underlying 57=some (.struct (prog.fieldsOf 57)):=ax
 have hp:∀ w,((typeInfo 57).run prog w).andThen (fun i w'=>Result.ok (i.hasPointers && prog.cutTypes.any fun x=>x.snd == 57) w')=.ok false w:=fun w=>by rw[typeInfo57];kernel_rfl
 rw[show(10000:Nat)=9999+1 from rfl]
 first
  | rw[run_equalIn_agg w 9999 57 _ _ hS ax]
  | rw[run_equalIn_agg w 9999 57 _ _ hS (hp w)]
 simp only[Program.fieldsOf,underlying57]
 go_simp
 repeat' split
 all_goals simp_all
def bH:List (Nat×Nat):=[(0,3),(3,4),(7,8),(15,1),(16,1),(17,6),(23,12),(35,12),(47,15)]
theorem sw:Field.JX bH:=by
 intro x hx;simp only[bH,List.mem_cons,List.not_mem_nil,or_false]at hx
 rcases hx with rfl | rfl | rfl | rfl | rfl | rfl | rfl | rfl | rfl<;>exact⟨aT,aT⟩
theorem Pw (l:List (Nat×Nat)) (h:((List.range l.length).all fun i=>(List.range l.length).all fun j=>decide (j<=i) || (bits .and .i64 (Field.mk (l.getD i (0,0))) (Field.mk (l.getD j (0,0))) == 0))=true):Field.JW l:=by
 intro i j x y hx hy hij;obtain⟨hi,rfl⟩:=List.getElem?_eq_some_iff.1 hx;obtain⟨hj,rfl⟩:=List.getElem?_eq_some_iff.1 hy;have h1:=(List.all_eq_true.1 (List.all_eq_true.1 h i (List.mem_range.2 hi))) j (List.mem_range.2 hj);simp only[Bool.or_eq_true,decide_eq_true_eq,beq_iff_eq]at h1
 rcases h1 with h1 | h1
 ·omega
 ·simpa [List.getD_eq_getElem?_getD,hi,hj] using h1
theorem yM:Field.JW bH:=Pw _ ax
def S.nums (s:S):List Int:=[s.state,s.own,s.streams,bit s.broken,bit s.marked,s.uses,s.gen,s.aJ,s.version]
def S.right (s:S):Bool:=decide (s.state<=6) && (decide (s=s.bare) && Field.gZ bH s.nums)
def S.wf (s:S):Prop:=∀ x ∈ s.nums,-9223372036854775808<=x/\x<=9223372036854775807
abbrev Laid (w:World):Prop:=Field.uQ w 0 bH
def xI:List Value:=[.i 0,.i 3,.i 3,.i 4,.i 7,.i 8,.i 15,.i 1,.i 16,.i 1,.i 17,.i 6,.i 23,.i 12,.i 35,.i 12,.i 47,.i 15]
theorem Dm {w:World} (h:Laid w):w.rangeAt 0 0 xI:=by
 intro j v hv;have hc:∀ (i:Nat) (x:Nat×Nat),bH[i]? =some x->w.cell? ⟨0,i * 2,none⟩=some (.i x.1)/\w.cell? ⟨0,i * 2+1,none⟩=some (.i x.2):=h;have hj:j < 18:=(List.getElem?_eq_some_iff.1 hv).1;rw[Nat.zero_add]
 match j,hj,hv with
 | 0,_,hv=>cases hv;exact(hc 0 _ rfl).1
 | 1,_,hv=>cases hv;exact(hc 0 _ rfl).2
 | 2,_,hv=>cases hv;exact(hc 1 _ rfl).1
 | 3,_,hv=>cases hv;exact(hc 1 _ rfl).2
 | 4,_,hv=>cases hv;exact(hc 2 _ rfl).1
 | 5,_,hv=>cases hv;exact(hc 2 _ rfl).2
 | 6,_,hv=>cases hv;exact(hc 3 _ rfl).1
 | 7,_,hv=>cases hv;exact(hc 3 _ rfl).2
 | 8,_,hv=>cases hv;exact(hc 4 _ rfl).1
 | 9,_,hv=>cases hv;exact(hc 4 _ rfl).2
 | 10,_,hv=>cases hv;exact(hc 5 _ rfl).1
 | 11,_,hv=>cases hv;exact(hc 5 _ rfl).2
 | 12,_,hv=>cases hv;exact(hc 6 _ rfl).1
 | 13,_,hv=>cases hv;exact(hc 6 _ rfl).2
 | 14,_,hv=>cases hv;exact(hc 7 _ rfl).1
 | 15,_,hv=>cases hv;exact(hc 7 _ rfl).2
 | 16,_,hv=>cases hv;exact(hc 8 _ rfl).1
 | 17,_,hv=>cases hv;exact(hc 8 _ rfl).2
theorem Rx {w:World} {g:Nat} (h:w.rangeAt g 0 xI):Field.uQ w g bH:=by
 have hc:∀ (j:Nat) (v:Value),xI[j]? =some v->w.cell? ⟨g,j,none⟩=some v:=fun j v hv=>by have:=h j v hv;rwa [Nat.zero_add]at this
 intro i x hx;have hi:i < 9:=(List.getElem?_eq_some_iff.1 hx).1
 match i,hi,hx with
 | 0,_,hx=>cases hx;exact⟨hc 0 _ rfl,hc 1 _ rfl⟩
 | 1,_,hx=>cases hx;exact⟨hc 2 _ rfl,hc 3 _ rfl⟩
 | 2,_,hx=>cases hx;exact⟨hc 4 _ rfl,hc 5 _ rfl⟩
 | 3,_,hx=>cases hx;exact⟨hc 6 _ rfl,hc 7 _ rfl⟩
 | 4,_,hx=>cases hx;exact⟨hc 8 _ rfl,hc 9 _ rfl⟩
 | 5,_,hx=>cases hx;exact⟨hc 10 _ rfl,hc 11 _ rfl⟩
 | 6,_,hx=>cases hx;exact⟨hc 12 _ rfl,hc 13 _ rfl⟩
 | 7,_,hx=>cases hx;exact⟨hc 14 _ rfl,hc 15 _ rfl⟩
 | 8,_,hx=>cases hx;exact⟨hc 16 _ rfl,hc 17 _ rfl⟩
theorem sD (w:World) (t:TypeId):(w.alloc (.cells xI.toArray t)).rangeAt w.heap.size 0 xI:=by
 intro j v hv;rw[cell_of_row _ _ _ _ _ _ (heap_alloc_new w _),Nat.zero_add]
 simpa using hv
theorem Dn (W:World):(storeCells ⟨W.heap.size,0,none⟩ xI 0).run prog (W.alloc (.cells (Ac 0 0 0 0 0 0 0 0 0 0 0 0 0 0 0 0 0 0) 137))
  =.ok () (W.alloc (.cells xI.toArray 137)):=
 run_storeCells_new W _ _ xI.toArray ax rfl ax
theorem Cz (w:World) (s:S) (t:TypeId):∀ i x,s.nums[i]? =some x->(w.alloc (.cells (Ad s.state s.own s.streams (bit s.broken) (bit s.marked) s.uses s.gen s.aJ s.version) t)).cell? ⟨w.heap.size,0+i,none⟩=some (.i x):=by
 intro i x hx;have hi:i < 9:=(List.getElem?_eq_some_iff.1 hx).1;rw[cell_of_row _ _ _ _ _ _ (heap_alloc_new w _),Nat.zero_add]
 match i,hi,hx with
 | 0,_,hx=>cases hx;rfl
 | 1,_,hx=>cases hx;rfl
 | 2,_,hx=>cases hx;rfl
 | 3,_,hx=>cases hx;rfl
 | 4,_,hx=>cases hx;rfl
 | 5,_,hx=>cases hx;rfl
 | 6,_,hx=>cases hx;rfl
 | 7,_,hx=>cases hx;rfl
 | 8,_,hx=>cases hx;rfl
theorem Ex (w:World) (s:S) (h6:6 < s.state):Calls prog 73 #[s.val] w fun e w'=>∃ z,e=.returned (.tuple #[.i z,.bool s.right])/\Below w.heap.size w w':=by
 have hs:S.right s=false:=by unfold S.right;rw[decide_eq_false ag];rfl
 have HS:=uH hs;clear hs;obtain⟨st,ow,sm,br,ma,us,ge,ep,ve⟩:=s
 go_enter func73,ntmps73
 simp only[S.val,S.cells]at h6 ⊢;go_wp2_with fail;have hg:decide (6 < st)=true:=by simpa using h6
 go_region;go_wp2_with fail;go_ret2;exact⟨0,by rw[HS.out];rfl,(bZ.alloc aQ _).drew⟩
theorem Ey (w:World) (s:S) (h6:¬ 6 < s.state) (hn:s≠s.bare):Calls prog 73 #[s.val] w fun e w'=>∃ z,e=.returned (.tuple #[.i z,.bool s.right])/\Below w.heap.size w w':=by
 have hb:=fun w=>xx w s
 have hs:S.right s=false:=by unfold S.right;rw[decide_eq_false hn];simp
 have HS:=uH hs;clear hs;generalize s.bare=t at *;obtain⟨st,ow,sm,br,ma,us,ge,ep,ve⟩:=s;obtain⟨st',iN,sm',iO,iP,us',iB,lH,iQ⟩:=t;have hne:=decide_eq_false hn;have hq:=fun w=>zM w st ow sm br ma us ge ep ve st' iN sm' iO iP us' iB lH iQ
 simp only[hne]at hq;clear hn
 go_enter func73,ntmps73
 simp only[S.val,S.cells]at hb h6 ⊢
 ·skip
  have hg:decide (6 < st)=false:=by simpa using h6
  have hA:=(Below.refl w.heap.size w).alloc aQ (.cells (Aa st ow sm br ma us ge ep ve) 57);have hB:=hA.drew;have c0:(w.alloc (.cells (Aa st ow sm br ma us ge ep ve) 57)).cell? ⟨w.heap.size,0,none⟩=some (.i st):=au
  have c1:(w.alloc (.cells (Aa st ow sm br ma us ge ep ve) 57)).cell? ⟨w.heap.size,1,none⟩=some (.i ow):=au
  have c2:(w.alloc (.cells (Aa st ow sm br ma us ge ep ve) 57)).cell? ⟨w.heap.size,2,none⟩=some (.i sm):=au
  have c3:(w.alloc (.cells (Aa st ow sm br ma us ge ep ve) 57)).cell? ⟨w.heap.size,3,none⟩=some (.bool br):=au
  have c4:(w.alloc (.cells (Aa st ow sm br ma us ge ep ve) 57)).cell? ⟨w.heap.size,4,none⟩=some (.bool ma):=au
  have c5:(w.alloc (.cells (Aa st ow sm br ma us ge ep ve) 57)).cell? ⟨w.heap.size,5,none⟩=some (.i us):=au
  have c6:(w.alloc (.cells (Aa st ow sm br ma us ge ep ve) 57)).cell? ⟨w.heap.size,6,none⟩=some (.i ge):=au
  have c7:(w.alloc (.cells (Aa st ow sm br ma us ge ep ve) 57)).cell? ⟨w.heap.size,7,none⟩=some (.i ep):=au
  have c8:(w.alloc (.cells (Aa st ow sm br ma us ge ep ve) 57)).cell? ⟨w.heap.size,8,none⟩=some (.i ve):=au
  have hsz:w.heap.size < (w.alloc (.cells (Aa st ow sm br ma us ge ep ve) 57)).heap.size:=au
  go_wp2_with fail;generalize w.alloc (.cells (Aa st ow sm br ma us ge ep ve) 57)=wa at *
  go_region_held3 (fun w'=>w'.cell? ⟨w.heap.size,0,none⟩=some (.i st)/\w'.cell? ⟨w.heap.size,1,none⟩=some (.i ow)/\w'.cell? ⟨w.heap.size,2,none⟩=some (.i sm)/\w'.cell? ⟨w.heap.size,3,none⟩=some (.bool br)/\w'.cell? ⟨w.heap.size,4,none⟩=some (.bool ma)/\w'.cell? ⟨w.heap.size,5,none⟩=some (.i us)/\w'.cell? ⟨w.heap.size,6,none⟩=some (.i ge)/\w'.cell? ⟨w.heap.size,7,none⟩=some (.i ep)/\w'.cell? ⟨w.heap.size,8,none⟩=some (.i ve)) (first | go_keep | exact⟨aI,aI,aI,aI,aI,aI,aI,aI,aI⟩)
   ((first
   | (go_at_call 97;refine(hb _).mono ?_;rintro e w5 ⟨rfl,hb5⟩;have kM:=hB.trans (hb5.mono (Nat.le_of_lt hsz));have d0:=Field.ak hb5 c0;have d1:=Field.ak hb5 c1;have d2:=Field.ak hb5 c2;have d3:=Field.ak hb5 c3;have d4:=Field.ak hb5 c4;have d5:=Field.ak hb5 c5;have d6:=Field.ak hb5 c6;have d7:=Field.ak hb5 c7;have d8:=Field.ak hb5 c8)))
  clear c0 c1 c2 c3 c4 c5 c6 c7 c8 d0 d1 d2 d3 d4 d5 d6 d7 d8 hb5;go_wp2_with fail;go_ret2;exact⟨0,by rw[HS.out];rfl,kM⟩
theorem Ez (w:World) (s:S) (hL:Laid w) (hw:s.wf) (h6:¬ 6 < s.state) (hn:s=s.bare):Calls prog 73 #[s.val] w fun e w'=>∃ z,e=.returned (.tuple #[.i z,.bool s.right])/\Below w.heap.size w w':=by
 have hb:=fun w=>xx w s
 have hs:S.right s=Field.gZ bH s.nums:=by unfold S.right;rw[decide_eq_true hn,decide_eq_true ag];rfl
 have HS:=uH hs;have HW:=uH hw;rw[<- hn]at hb;clear hs hn hw;obtain⟨st,ow,sm,br,ma,us,ge,ep,ve⟩:=s;have hq:=fun w=>zM w st ow sm br ma us ge ep ve st ow sm br ma us ge ep ve
 simp only[decide_true]at hq
 go_enter func73,ntmps73
 simp only[S.val,S.cells]at hb h6 ⊢
 ·skip
  have hg:decide (6 < st)=false:=by simpa using h6
  have hA:=(Below.refl w.heap.size w).alloc aQ (.cells (Aa st ow sm br ma us ge ep ve) 57);have hB:=hA.drew;have TN:Laid (w.alloc (.cells (Aa st ow sm br ma us ge ep ve) 57)):=hL.stable (hA.block 0 (hL.lt aT));have c0:(w.alloc (.cells (Aa st ow sm br ma us ge ep ve) 57)).cell? ⟨w.heap.size,0,none⟩=some (.i st):=au
  have c1:(w.alloc (.cells (Aa st ow sm br ma us ge ep ve) 57)).cell? ⟨w.heap.size,1,none⟩=some (.i ow):=au
  have c2:(w.alloc (.cells (Aa st ow sm br ma us ge ep ve) 57)).cell? ⟨w.heap.size,2,none⟩=some (.i sm):=au
  have c3:(w.alloc (.cells (Aa st ow sm br ma us ge ep ve) 57)).cell? ⟨w.heap.size,3,none⟩=some (.bool br):=au
  have c4:(w.alloc (.cells (Aa st ow sm br ma us ge ep ve) 57)).cell? ⟨w.heap.size,4,none⟩=some (.bool ma):=au
  have c5:(w.alloc (.cells (Aa st ow sm br ma us ge ep ve) 57)).cell? ⟨w.heap.size,5,none⟩=some (.i us):=au
  have c6:(w.alloc (.cells (Aa st ow sm br ma us ge ep ve) 57)).cell? ⟨w.heap.size,6,none⟩=some (.i ge):=au
  have c7:(w.alloc (.cells (Aa st ow sm br ma us ge ep ve) 57)).cell? ⟨w.heap.size,7,none⟩=some (.i ep):=au
  have c8:(w.alloc (.cells (Aa st ow sm br ma us ge ep ve) 57)).cell? ⟨w.heap.size,8,none⟩=some (.i ve):=au
  have hsz:w.heap.size < (w.alloc (.cells (Aa st ow sm br ma us ge ep ve) 57)).heap.size:=au
  go_wp2_with fail;generalize w.alloc (.cells (Aa st ow sm br ma us ge ep ve) 57)=wa at *
  go_region_held3 (fun w'=>w'.cell? ⟨w.heap.size,0,none⟩=some (.i st)/\w'.cell? ⟨w.heap.size,1,none⟩=some (.i ow)/\w'.cell? ⟨w.heap.size,2,none⟩=some (.i sm)/\w'.cell? ⟨w.heap.size,3,none⟩=some (.bool br)/\w'.cell? ⟨w.heap.size,4,none⟩=some (.bool ma)/\w'.cell? ⟨w.heap.size,5,none⟩=some (.i us)/\w'.cell? ⟨w.heap.size,6,none⟩=some (.i ge)/\w'.cell? ⟨w.heap.size,7,none⟩=some (.i ep)/\w'.cell? ⟨w.heap.size,8,none⟩=some (.i ve)) (first | go_keep | exact⟨aI,aI,aI,aI,aI,aI,aI,aI,aI⟩)
   ((first
   | (go_at_call 97;refine(hb _).mono ?_;rintro e w5 ⟨rfl,hb5⟩;have hL5:=TN.stable (hb5.block 0 (TN.lt aT));have kM:=hB.trans (hb5.mono (Nat.le_of_lt hsz));have d0:=Field.ak hb5 c0;have d1:=Field.ak hb5 c1;have d2:=Field.ak hb5 c2;have d3:=Field.ak hb5 c3;have d4:=Field.ak hb5 c4;have d5:=Field.ak hb5 c5;have d6:=Field.ak hb5 c6;have d7:=Field.ak hb5 c7;have d8:=Field.ak hb5 c8)))
  have ym:=Dm hL5;have hst:=Dn;clear c0 c1 c2 c3 c4 c5 c6 c7 c8 hb5 hq hb
  go_wp2_with (first
   | (refine wpList_load_mid rfl 137 (.global 0) rfl 0 0 rfl xI _ ym underlying137 rfl ax ?_))
  have hA2:Below w5.heap.size w5 (w5.alloc (.cells xI.toArray 137)):=bZ.alloc aQ _;have hF:Field.uQ (w5.alloc (.cells xI.toArray 137)) w5.heap.size bH:=Rx (sD _ _);have kS:=kM.trans (hA2.mono (kM.size));have Uc:w5.heap.size < (w5.alloc (.cells xI.toArray 137)).heap.size:=au
  have c0:=Field.ak hA2 d0;have c1:=Field.ak hA2 d1;have c2:=Field.ak hA2 d2;have c3:=Field.ak hA2 d3;have c4:=Field.ak hA2 d4;have c5:=Field.ak hA2 d5;have c6:=Field.ak hA2 d6;have c7:=Field.ak hA2 d7;have c8:=Field.ak hA2 d8;generalize w5.alloc (.cells xI.toArray 137)=wb at *;generalize w5.heap.size=gb at *;clear d0 d1 d2 d3 d4 d5 d6 d7 d8 hA2 ym hst;have hsw:=kS.size;have xy:Below wb.heap.size wb (wb.drew.alloc (.cells (Ad st ow sm (bit br) (bit ma) us ge ep ve) 3)):=bY.alloc au _;have k0:=Field.ak xy c0;have k1:=Field.ak xy c1;have k2:=Field.ak xy c2;have k3:=Field.ak xy c3;have k4:=Field.ak xy c4;have k5:=Field.ak xy c5;have k6:=Field.ak xy c6;have k7:=Field.ak xy c7;have k8:=Field.ak xy c8
  have hpk:=Field.JZ (wb.drew.alloc (.cells (Ad st ow sm (bit br) (bit ma) us ge ep ve) 3)) gb bH wb.heap.size 0 9 (S.nums ⟨st,ow,sm,br,ma,us,ge,ep,ve⟩) aT (hF.stable (Below.heap_alloc _ _ _ Uc)) (by simp;omega) sw yM (Cz wb.drew ⟨st,ow,sm,br,ma,us,ge,ep,ve⟩ _) rfl HW.out
  go_region_held3 (fun w'=>w'.cell? ⟨w.heap.size,0,none⟩=some (.i st)/\w'.cell? ⟨w.heap.size,1,none⟩=some (.i ow)/\w'.cell? ⟨w.heap.size,2,none⟩=some (.i sm)/\w'.cell? ⟨w.heap.size,3,none⟩=some (.bool br)/\w'.cell? ⟨w.heap.size,4,none⟩=some (.bool ma)/\w'.cell? ⟨w.heap.size,5,none⟩=some (.i us)/\w'.cell? ⟨w.heap.size,6,none⟩=some (.i ge)/\w'.cell? ⟨w.heap.size,7,none⟩=some (.i ep)/\w'.cell? ⟨w.heap.size,8,none⟩=some (.i ve)) (first | go_keep | exact⟨aI,aI,aI,aI,aI,aI,aI,aI,aI⟩)
   ((first
   | (go_at_call 99;refine(vF _ br).mono ?_;rintro e w6 ⟨rfl,rfl⟩)
   | (go_at_call 99;refine(vF _ ma).mono ?_;rintro e w6 ⟨rfl,rfl⟩)
   | (go_at_call 98;refine hpk.mono ?_;rintro e w7 ⟨z,rfl,cB⟩;have m0:=Field.ak cB k0;have m1:=Field.ak cB k1;have m2:=Field.ak cB k2;have m3:=Field.ak cB k3;have m4:=Field.ak cB k4;have m5:=Field.ak cB k5;have m6:=Field.ak cB k6;have m7:=Field.ak cB k7;have m8:=Field.ak cB k8)))
  have kN:=kS.trans ((xy.trans (cB.mono xy.size)).mono hsw);clear k0 m0 c0 k1 m1 c1 k2 m2 c2 k3 m3 c3 k4 m4 c4 k5 m5 c5 k6 m6 c6 k7 m7 c7 k8 m8 c8 cB hpk;go_wp2_with fail;go_ret2;exact⟨z,by rw[HS.out];rfl,kN⟩
theorem vN (w:World) (s:S) (hL:Laid w) (hw:s.wf):Calls prog 73 #[s.val] w fun e w'=>∃ z,e=.returned (.tuple #[.i z,.bool s.right])/\Below w.heap.size w w':=by
 by_cases h6:6 < s.state
 ·exact Ex w s h6
 ·by_cases hn:s=s.bare
  ·exact Ez w s hL hw h6 hn
  ·exact Ey w s h6 hn
theorem eP (w:World) (s:S) (hL:Laid w) (hw:s.wf):Calls prog 96 #[s.val] w fun e w'=>e=.returned (.bool s.right)/\Below w.heap.size w w':=by
 have he:=vN (w.alloc (.cells s.cells 57)) s (hL.stable (Below.heap_alloc _ _ _ (hL.lt aT))) hw;obtain⟨st,ow,sm,br,ma,us,ge,ep,ve⟩:=s;simp only[S.val,S.cells]at he
 go_enter func96,ntmps96
 simp only[S.val,S.cells];go_wp2_with fail;refine he.mono ?_;rintro e w5 ⟨z,rfl,hb5⟩;have hB:Below w.heap.size w w5:=(bZ.alloc aQ _).trans (hb5.mono au);clear he hb5;go_wp2_with fail;go_ret;exact⟨rfl,hB⟩
end Slot
namespace ai
open Go.RowKit Hp Slot ah
abbrev cO (s:S) (own more:Int):Value:=.agg (Ae s.state s.own s.streams s.broken s.marked s.uses s.gen s.aJ s.version own more)
theorem ic (w:World) (s:S) (own more k:Int):Calls prog 207 #[cO s own more,.i k] w fun e w'=>e=.returned (.bool (s.state == k))/\Below w.heap.size w w':=by
 obtain⟨st,ow,sm,br,ma,us,ge,ep,ve⟩:=s
 go_enter func207,ntmps207
 go_wp2
 go_ret;exact⟨rfl,bZ.alloc aQ _⟩
theorem kD (w:World) (s:S) (own more k:Int):Calls prog 209 #[cO s own more,.i k] w fun e w'=>e=.returned (.bool (s.state == k && s.own == own))/\Below w.heap.size w w':=by
 have hi:=fun W=>ic W s own more k
 obtain⟨st,ow,sm,br,ma,us,ge,ep,ve⟩:=s;simp only[cO]at hi
 go_enter func209,ntmps209
 go_wp2_with fail;refine(hi _).mono ?_;rintro e w5 ⟨rfl,hb5⟩;have hc1:w5.cell? ⟨w.heap.size,1,none⟩=some (.i ow):=Field.ak hb5 au;have hc2:w5.cell? ⟨w.heap.size,9,none⟩=some (.i own):=Field.ak hb5 au;have hB:Below w.heap.size w w5:=(bZ.alloc aQ _).trans (hb5.mono au);clear hb5 hi
 by_cases h:st=k
 ·have hk:(st == k)=true:=by simpa using h
  rw[hk];go_wp2_with fail;go_ret;exact⟨Base.aN (by simp[h]),hB⟩
 ·have hk:(st == k)=false:=by simpa using h
  rw[hk];go_wp2_with fail;go_ret;exact⟨Base.aN (by simp[h]),hB⟩
theorem jQ (w:World) (s:S) (own more:Int):Calls prog 210 #[cO s own more] w fun e w'=>e=.returned (.bool (s.state == 2 && !s.broken))/\Below w.heap.size w w':=by
 have hi:=fun W=>ic W s own more 2
 obtain⟨st,ow,sm,br,ma,us,ge,ep,ve⟩:=s;simp only[cO]at hi
 go_enter func210,ntmps210
 go_wp2_with fail;refine(hi _).mono ?_;rintro e w5 ⟨rfl,hb5⟩;have hc1:w5.cell? ⟨w.heap.size,3,none⟩=some (.bool br):=Field.ak hb5 au;have hB:Below w.heap.size w w5:=(bZ.alloc aQ _).trans (hb5.mono au);clear hb5 hi
 by_cases h:st=2
 ·have hk:(st == 2)=true:=by simpa using h
  rw[hk];go_wp2_with fail;go_ret;exact⟨Base.aN (by simp[h]),hB⟩
 ·have hk:(st == 2)=false:=by simpa using h
  rw[hk];go_wp2_with fail;go_ret;exact⟨Base.aN (by simp[h]),hB⟩
def toK (s:S) (own k:Int):S:=
 {s with
  state:=k
  streams:=if k=3 then s.streams else 0
  marked:=if k=2 then s.marked else false
  broken:=if k=2\/k=3\/k=4 then s.broken else false
  uses:=if k=2\/k=3\/k=4 then s.uses else 0
  aJ:=if k=6 then s.aJ else 0
  own:=if k=0\/k=6 then 0 else own}
theorem dW (w:World) (A B C:Obj):(((w.alloc A).alloc B).alloc C).heap[w.heap.size+1]? =some B:=by
 rw[Below.heap_alloc _ _ _ au];exact heap_alloc2_new w A B
theorem jB (w:World) (s:S) (own more k:Int) (hk:k=0\/k=1\/k=2\/k=3\/k=4\/k=5\/k=6):Calls prog 206 #[cO s own more,.i k] w fun e w'=>e=.returned (toK s own k).val/\Below w.heap.size w w':=by
 obtain⟨st,ow,sm,br,ma,us,ge,ep,ve⟩:=s
 go_enter func206,ntmps206
 simp only[cO]
 rcases hk with rfl | rfl | rfl | rfl | rfl | rfl | rfl
 all_goals (
  go_wp2
  go_region
  go_wp2)
 all_goals (
  refine bodyPost_ret (results_cell_row rfl _ _ (w.heap.size+1) _ _ _ _ rfl (dW _ _ _ _) underlying57 rfl ax) rfl ?_;exact⟨by simp[toK,S.val,S.cells],(((bZ.alloc aQ _).alloc au _).alloc (by simp;omega) _).drew⟩)
def eu (s:S) (own:Int):S:={toK s own 3 with uses:=min (s.uses+1) 63,gen:=(s.gen+1) % 4096}
theorem pY (w:World) (s:S) (own more:Int) (hu:0<=s.uses/\s.uses<=63) (hg:0<=s.gen/\s.gen<=4095):Calls prog 208 #[cO s own more] w fun e w'=>e=.returned (eu s own).val/\Below w.heap.size w w':=by
 have ht:=fun W=>jB W s own more 3 au
 have hl:eu s own={toK s own 3 with uses:=min (s.uses+1) 63,gen:=(s.gen+1) % 4096}:=rfl;have htu:(toK s own 3).uses=s.uses:=by simp[toK]
 have htg:(toK s own 3).gen=s.gen:=rfl;rw[<- htu]at hu hl;rw[<- htg]at hg hl;generalize toK s own 3=t at *;have HL:=uH hl;clear hl htu htg;obtain⟨st,ow,sm,br,ma,us,ge,ep,ve⟩:=s;obtain⟨st',iN,sm',iO,iP,us',iB,lH,iQ⟩:=t;simp only[cO,S.val,S.cells]at ht hu hg;obtain⟨hu0,hu1⟩:=hu;obtain⟨hg0,hg1⟩:=hg
 have hm:IntKind.i64.wrap ((iB+1).tmod 4096)=(iB+1) % 4096:=by
  rw[Int.tmod_eq_emod_of_nonneg ag,IntKind.wrap_i64];omega
 go_enter func208,ntmps208
 go_wp2_with fail;refine(ht _).mono ?_;rintro e w5 ⟨rfl,hb5⟩;have hA:Below w.heap.size w ((w.alloc (.cells (Ae st ow sm br ma us ge ep ve own more) 144)).alloc (.cells Zs 57)):=(bZ.alloc aQ _).alloc au _;have hB:Below w.heap.size w w5:=hA.trans (hb5.mono (by simp;omega));have hr:af w5 (w.heap.size+1) Zs 57:=af.below (heap_alloc2_new w _ _) hb5;have hr2:=fun o=>hr.alloc o
 have q0:∀ o,(w5.alloc o).cell? ⟨w.heap.size+1,0,none⟩=some (.i 0):=fun o=>(hr.alloc o).cell 0
 have f0:∀ o,(w5.alloc o).frozen? ⟨w.heap.size+1,0,none⟩=false:=fun o=>(hr.alloc o).frozen 0
 have q1:∀ o,(w5.alloc o).cell? ⟨w.heap.size+1,1,none⟩=some (.i 0):=fun o=>(hr.alloc o).cell 1
 have f1:∀ o,(w5.alloc o).frozen? ⟨w.heap.size+1,1,none⟩=false:=fun o=>(hr.alloc o).frozen 1
 have q2:∀ o,(w5.alloc o).cell? ⟨w.heap.size+1,2,none⟩=some (.i 0):=fun o=>(hr.alloc o).cell 2
 have f2:∀ o,(w5.alloc o).frozen? ⟨w.heap.size+1,2,none⟩=false:=fun o=>(hr.alloc o).frozen 2
 have q3:∀ o,(w5.alloc o).cell? ⟨w.heap.size+1,3,none⟩=some (.bool false):=fun o=>(hr.alloc o).cell 3
 have f3:∀ o,(w5.alloc o).frozen? ⟨w.heap.size+1,3,none⟩=false:=fun o=>(hr.alloc o).frozen 3
 have q4:∀ o,(w5.alloc o).cell? ⟨w.heap.size+1,4,none⟩=some (.bool false):=fun o=>(hr.alloc o).cell 4
 have f4:∀ o,(w5.alloc o).frozen? ⟨w.heap.size+1,4,none⟩=false:=fun o=>(hr.alloc o).frozen 4
 have q5:∀ o,(w5.alloc o).cell? ⟨w.heap.size+1,5,none⟩=some (.i 0):=fun o=>(hr.alloc o).cell 5
 have f5:∀ o,(w5.alloc o).frozen? ⟨w.heap.size+1,5,none⟩=false:=fun o=>(hr.alloc o).frozen 5
 have q6:∀ o,(w5.alloc o).cell? ⟨w.heap.size+1,6,none⟩=some (.i 0):=fun o=>(hr.alloc o).cell 6
 have f6:∀ o,(w5.alloc o).frozen? ⟨w.heap.size+1,6,none⟩=false:=fun o=>(hr.alloc o).frozen 6
 have q7:∀ o,(w5.alloc o).cell? ⟨w.heap.size+1,7,none⟩=some (.i 0):=fun o=>(hr.alloc o).cell 7
 have f7:∀ o,(w5.alloc o).frozen? ⟨w.heap.size+1,7,none⟩=false:=fun o=>(hr.alloc o).frozen 7
 have q8:∀ o,(w5.alloc o).cell? ⟨w.heap.size+1,8,none⟩=some (.i 0):=fun o=>(hr.alloc o).cell 8
 have f8:∀ o,(w5.alloc o).frozen? ⟨w.heap.size+1,8,none⟩=false:=fun o=>(hr.alloc o).frozen 8
 have Hr:=uH hr;clear hr2 hr;have hmin:us'+1<=63\/63 < us'+1:=ag
 clear hb5 hA ht
 rcases hmin with hmin | hmin
 all_goals (
  go_wp2_with fail)
 all_goals (
  refine N7 (w.heap.size+1) ((((((((((Hr.out.alloc _).aB 0 _).aB 1 _).aB 2 _).aB 3 _).aB 4 _).aB 5 _).aB 6 _).aB 7 _).aB 8 _) underlying57 ?_;refine⟨?_,?_⟩
  ·rw[HL.out];simp[S.val,S.cells]
   try omega
  ·iterate 9 refine Below.setCell ?_ au _
   exact hB.alloc hB.size _)
end ai
namespace Find
open Go.RowKit Hp Slot
theorem Gn (W:World) (o o':Obj):({W.alloc o with heap:=(W.alloc o).heap.setIfInBounds W.heap.size o'}:World)=W.alloc o':=by
 simp only[World.alloc]
 congr 1
 apply Array.ext_getElem?
 intro i;simp only[Array.getElem?_setIfInBounds,Array.getElem?_push,Array.size_push]
 by_cases h:W.heap.size=i
 ·subst h;simp
 ·have h':¬ i=W.heap.size:=fun e=>h e.symm
  simp[h,h']
theorem bf {P:Program} (W:World) (r:Nat) (t kt et:TypeId) (es:Array MapEntry) (clock:Nat) (k:Int) (v:Value) (hu:P.underlying t=some (.map kt et)) (hk:P.underlying kt=some (.int .i64))
  (hr:r=W.heap.size) (hf:Instr.findNow (.int .i64) (.i k) es.toList 0=some none):
  (Instr.mapUpdate t (.map (some r)) (.i k) v).run P (W.alloc (.map es clock))=.ok () (W.alloc (.map (es.push ⟨.i k,v,clock⟩) (clock+1))):=by
 subst hr;have hb:(W.alloc (.map es clock)).heap[W.heap.size]? =some (.map es clock):=World.alloc_heap_new W _;have h1:=MapKept.run_setObj_map (P:=P) (.map (es.push ⟨.i k,v,clock⟩) (clock+1)) hb;rw[Gn]at h1;simp[Instr.mapUpdate,run_underlying hu,MapKept.run_getObj_map hb,MapKept.run_checkKey (k:=.i k) hk rfl,MapKept.run_findKey hk hf,h1,Result.andThen]
theorem eB {P:Program} (W:World) (r:Nat) (t kt et:TypeId) (es:Array MapEntry) (clock:Nat) (k:Int) (i:Nat) (v:Value) (hu:P.underlying t=some (.map kt et)) (hk:P.underlying kt=some (.int .i64))
  (hb:W.heap[r]? =some (.map es clock)) (hf:Instr.findNow (.int .i64) (.i k) es.toList 0=some (some (i,v))):
  (Instr.lookup t (.map (some r)) (.i k) true).run P W=.ok (.tuple #[v,.bool true]) W:=by
 simp[Instr.lookup,run_underlying hu,MapKept.run_getObj_map hb,MapKept.run_checkKey (k:=.i k) hk rfl,MapKept.run_findKey hk hf,Result.andThen]
def table (n:Nat):Array MapEntry:=#[⟨.i 0,.func (.func 178) #[] #[ptr (n+2),ptr n],0⟩,⟨.i 1,.func (.func 176) #[] #[ptr (n+1)],1⟩,⟨.i 2,.func (.func 177) #[] #[],2⟩,⟨.i 3,.func (.func 179) #[] #[ptr (n+2),ptr (n+3)],3⟩,⟨.i 4,.func (.func 180) #[] #[ptr (n+1),ptr n],4⟩,⟨.i 5,.func (.func 181) #[] #[],5⟩,⟨.i 6,.func (.func 175) #[] #[],6⟩]
def lI (w:World) (own:Int):World:=
 ((((w.alloc (.cells #[.i own] 3)).alloc (.cells #[.func (.func 175) #[] #[]] 85)).alloc (.cells #[.func (.func 176) #[] #[ptr (w.heap.size+1)]] 85)).alloc (.cells #[.func (.func 177) #[] #[]] 85)).alloc (.map (table w.heap.size) 7)
theorem AF (w:World) (own:Int):Calls prog 119 #[.i own] w fun e w'=>e=.returned (.map (some (w.heap.size+4)))/\w'=lI w own:=by
 have hmk:=fun W=>run_makeMap (P:=prog) 161 W
 have h0:=bf (P:=prog) ((((w.alloc (.cells #[.i own] 3)).alloc (.cells #[.func (.func 175) #[] #[]] 85)).alloc (.cells #[.func (.func 176) #[] #[ptr (w.heap.size+1)]] 85)).alloc (.cells #[.func (.func 177) #[] #[]] 85)) (w.heap.size+1+1+1+1) 161 3 85 #[] 0 0 (.func (.func 178) #[] #[ptr (w.heap.size+2),ptr w.heap.size]) underlying161 underlying3 au rfl;have h1:=bf (P:=prog) ((((w.alloc (.cells #[.i own] 3)).alloc (.cells #[.func (.func 175) #[] #[]] 85)).alloc (.cells #[.func (.func 176) #[] #[ptr (w.heap.size+1)]] 85)).alloc (.cells #[.func (.func 177) #[] #[]] 85)) (w.heap.size+1+1+1+1) 161 3 85 #[⟨.i 0,.func (.func 178) #[] #[ptr (w.heap.size+2),ptr w.heap.size],0⟩] 1 1 (.func (.func 176) #[] #[ptr (w.heap.size+1)]) underlying161 underlying3 au rfl
 have h2:=bf (P:=prog) ((((w.alloc (.cells #[.i own] 3)).alloc (.cells #[.func (.func 175) #[] #[]] 85)).alloc (.cells #[.func (.func 176) #[] #[ptr (w.heap.size+1)]] 85)).alloc (.cells #[.func (.func 177) #[] #[]] 85)) (w.heap.size+1+1+1+1) 161 3 85 #[⟨.i 0,.func (.func 178) #[] #[ptr (w.heap.size+2),ptr w.heap.size],0⟩,⟨.i 1,.func (.func 176) #[] #[ptr (w.heap.size+1)],1⟩] 2 2 (.func (.func 177) #[] #[]) underlying161 underlying3 au rfl
 have h3:=bf (P:=prog) ((((w.alloc (.cells #[.i own] 3)).alloc (.cells #[.func (.func 175) #[] #[]] 85)).alloc (.cells #[.func (.func 176) #[] #[ptr (w.heap.size+1)]] 85)).alloc (.cells #[.func (.func 177) #[] #[]] 85)) (w.heap.size+1+1+1+1) 161 3 85 #[⟨.i 0,.func (.func 178) #[] #[ptr (w.heap.size+2),ptr w.heap.size],0⟩,⟨.i 1,.func (.func 176) #[] #[ptr (w.heap.size+1)],1⟩,⟨.i 2,.func (.func 177) #[] #[],2⟩] 3 3 (.func (.func 179) #[] #[ptr (w.heap.size+2),ptr (w.heap.size+3)]) underlying161 underlying3 au rfl
 have h4:=bf (P:=prog) ((((w.alloc (.cells #[.i own] 3)).alloc (.cells #[.func (.func 175) #[] #[]] 85)).alloc (.cells #[.func (.func 176) #[] #[ptr (w.heap.size+1)]] 85)).alloc (.cells #[.func (.func 177) #[] #[]] 85)) (w.heap.size+1+1+1+1) 161 3 85 #[⟨.i 0,.func (.func 178) #[] #[ptr (w.heap.size+2),ptr w.heap.size],0⟩,⟨.i 1,.func (.func 176) #[] #[ptr (w.heap.size+1)],1⟩,⟨.i 2,.func (.func 177) #[] #[],2⟩,⟨.i 3,.func (.func 179) #[] #[ptr (w.heap.size+2),ptr (w.heap.size+3)],3⟩] 4 4 (.func (.func 180) #[] #[ptr (w.heap.size+1),ptr w.heap.size]) underlying161 underlying3 au rfl
 have h5:=bf (P:=prog) ((((w.alloc (.cells #[.i own] 3)).alloc (.cells #[.func (.func 175) #[] #[]] 85)).alloc (.cells #[.func (.func 176) #[] #[ptr (w.heap.size+1)]] 85)).alloc (.cells #[.func (.func 177) #[] #[]] 85)) (w.heap.size+1+1+1+1) 161 3 85 #[⟨.i 0,.func (.func 178) #[] #[ptr (w.heap.size+2),ptr w.heap.size],0⟩,⟨.i 1,.func (.func 176) #[] #[ptr (w.heap.size+1)],1⟩,⟨.i 2,.func (.func 177) #[] #[],2⟩,⟨.i 3,.func (.func 179) #[] #[ptr (w.heap.size+2),ptr (w.heap.size+3)],3⟩,⟨.i 4,.func (.func 180) #[] #[ptr (w.heap.size+1),ptr w.heap.size],4⟩] 5 5 (.func (.func 181) #[] #[]) underlying161 underlying3 au rfl
 have h6:=bf (P:=prog) ((((w.alloc (.cells #[.i own] 3)).alloc (.cells #[.func (.func 175) #[] #[]] 85)).alloc (.cells #[.func (.func 176) #[] #[ptr (w.heap.size+1)]] 85)).alloc (.cells #[.func (.func 177) #[] #[]] 85)) (w.heap.size+1+1+1+1) 161 3 85 #[⟨.i 0,.func (.func 178) #[] #[ptr (w.heap.size+2),ptr w.heap.size],0⟩,⟨.i 1,.func (.func 176) #[] #[ptr (w.heap.size+1)],1⟩,⟨.i 2,.func (.func 177) #[] #[],2⟩,⟨.i 3,.func (.func 179) #[] #[ptr (w.heap.size+2),ptr (w.heap.size+3)],3⟩,⟨.i 4,.func (.func 180) #[] #[ptr (w.heap.size+1),ptr w.heap.size],4⟩,⟨.i 5,.func (.func 181) #[] #[],5⟩] 6 6 (.func (.func 175) #[] #[]) underlying161 underlying3 au rfl;simp only[List.push_toArray,List.nil_append,List.cons_append,Nat.zero_add,Nat.reduceAdd]at hmk h0 h1 h2 h3 h4 h5 h6
 go_enter func119,ntmps119
 go_wp2
 go_ret;exact⟨rfl,rfl⟩
def sound (s:S):Bool:=s.state == 2 && !s.broken
theorem vU (w:World) (s:S):Calls prog 175 #[s.val] w fun e w'=>e=.returned (.bool (s.state == 2))/\Below w.heap.size w w':=by
 obtain⟨st,ow,sm,br,ma,us,ge,ep,ve⟩:=s
 go_enter func175,ntmps175
 simp only[S.val,S.cells]
 go_wp2
 go_ret;exact⟨rfl,bZ.alloc aQ _⟩
theorem yt (w:World) (s:S):Calls prog 177 #[s.val] w fun e w'=>e=.returned (.bool (s.state == 0))/\Below w.heap.size w w':=by
 obtain⟨st,ow,sm,br,ma,us,ge,ep,ve⟩:=s
 go_enter func177,ntmps177
 simp only[S.val,S.cells]
 go_wp2
 go_ret;exact⟨rfl,bZ.alloc aQ _⟩
theorem NJ (w:World) (s:S):Calls prog 181 #[s.val] w fun e w'=>e=.returned (.bool (s.state == 6))/\Below w.heap.size w w':=by
 obtain⟨st,ow,sm,br,ma,us,ge,ep,ve⟩:=s
 go_enter func181,ntmps181
 simp only[S.val,S.cells]
 go_wp2
 go_ret;exact⟨rfl,bZ.alloc aQ _⟩
theorem jQ (w:World) (s:S) (p3:Nat) (h3:w.cell? ⟨p3,0,none⟩=some (.func (.func 175) #[] #[])):Calls prog 176 #[s.val,ptr p3] w fun e w'=>e=.returned (.bool (sound s))/\Below w.heap.size w w':=by
 have hi:=fun w=>vU w s
 obtain⟨st,ow,sm,br,ma,us,ge,ep,ve⟩:=s;simp only[S.val,S.cells]at hi;have h3':(w.alloc (.cells (Aa st ow sm br ma us ge ep ve) 57)).cell? ⟨p3,0,none⟩=some (.func (.func 175) #[] #[]):=(World.cell?_alloc_lt _ _ _ (dN h3)).trans h3;have RN:=uH h3';clear h3';generalize hq:(st == 2)=b at hi;have HQ:=uH hq;clear hq;have Dr:=dN h3;simp only at Dr
 go_enter func176,ntmps176
 simp only[S.val,S.cells];go_wp2_with (simp only[RN.out]);refine(hi _).mono ?_;rintro e w5 ⟨rfl,hb5⟩;have hB:Below w.heap.size w w5:=(bZ.alloc aQ _).trans (hb5.mono au);have Vj:w5.cell? ⟨w.heap.size,3,none⟩=some (.bool br):=Field.ak hb5 au;clear hi hb5;cases b
 all_goals (
  go_wp2_with fail;go_ret;exact⟨Base.aN (by simp[sound,HQ.out]),hB⟩)
theorem NK (w:World) (s:S) (own:Int) (p1 p3 p4:Nat) (h1:w.cell? ⟨p1,0,none⟩=some (.i own)) (h3:w.cell? ⟨p3,0,none⟩=some (.func (.func 175) #[] #[])) (h4:w.cell? ⟨p4,0,none⟩=some (.func (.func 176) #[] #[ptr p3])):Calls prog 178 #[s.val,ptr p4,ptr p1] w fun e w'=>e=.returned (.bool (sound s && s.own == own))/\Below w.heap.size w w':=by
 have hi:=fun w h=>jQ w s p3 h
 obtain⟨st,ow,sm,br,ma,us,ge,ep,ve⟩:=s;simp only[S.val,S.cells]at hi;have h1':(w.alloc (.cells (Aa st ow sm br ma us ge ep ve) 57)).cell? ⟨p1,0,none⟩=some (.i own):=(World.cell?_alloc_lt _ _ _ (dN h1)).trans h1;have h3':(w.alloc (.cells (Aa st ow sm br ma us ge ep ve) 57)).cell? ⟨p3,0,none⟩=some (.func (.func 175) #[] #[]):=(World.cell?_alloc_lt _ _ _ (dN h3)).trans h3;have h4':(w.alloc (.cells (Aa st ow sm br ma us ge ep ve) 57)).cell? ⟨p4,0,none⟩=some (.func (.func 176) #[] #[ptr p3]):=(World.cell?_alloc_lt _ _ _ (dN h4)).trans h4;have YI:=uH h1';have RN:=uH h3';have YJ:=uH h4';clear h1' h3' h4';generalize hq:sound ⟨st,ow,sm,br,ma,us,ge,ep,ve⟩=b at *;clear hq;have RO:=dN h1;have Dr:=dN h3;have RP:=dN h4
 simp only at RO Dr RP
 go_enter func178,ntmps178
 simp only[S.val,S.cells];go_wp2_with (simp only[YJ.out]);refine(hi _ RN.out).mono ?_;rintro e w5 ⟨rfl,hb5⟩;have hB:Below w.heap.size w w5:=(bZ.alloc aQ _).trans (hb5.mono au);have YK:w5.cell? ⟨w.heap.size,1,none⟩=some (.i ow):=Field.ak hb5 au;have xE:=cC own (Field.ak hb5 YI.out);clear hi hb5;cases b
 all_goals (
  go_wp2_with fail;go_ret;exact⟨Base.aN au,hB⟩)
theorem J9 (w:World) (s:S) (p3 p4 p5:Nat) (h3:w.cell? ⟨p3,0,none⟩=some (.func (.func 175) #[] #[])) (h4:w.cell? ⟨p4,0,none⟩=some (.func (.func 176) #[] #[ptr p3])) (h5:w.cell? ⟨p5,0,none⟩=some (.func (.func 177) #[] #[])):Calls prog 179 #[s.val,ptr p4,ptr p5] w fun e w'=>e=.returned (.bool (sound s || s.state == 0))/\Below w.heap.size w w':=by
 have hi:=fun w h=>jQ w s p3 h
 have he:=fun w=>yt w s
 obtain⟨st,ow,sm,br,ma,us,ge,ep,ve⟩:=s;simp only[S.val,S.cells]at hi he;have h3':(w.alloc (.cells (Aa st ow sm br ma us ge ep ve) 57)).cell? ⟨p3,0,none⟩=some (.func (.func 175) #[] #[]):=(World.cell?_alloc_lt _ _ _ (dN h3)).trans h3;have h4':(w.alloc (.cells (Aa st ow sm br ma us ge ep ve) 57)).cell? ⟨p4,0,none⟩=some (.func (.func 176) #[] #[ptr p3]):=(World.cell?_alloc_lt _ _ _ (dN h4)).trans h4;have h5':(w.alloc (.cells (Aa st ow sm br ma us ge ep ve) 57)).cell? ⟨p5,0,none⟩=some (.func (.func 177) #[] #[]):=(World.cell?_alloc_lt _ _ _ (dN h5)).trans h5;have RN:=uH h3';have YJ:=uH h4';have Hh5:=uH h5';clear h3' h4' h5';generalize hq:sound ⟨st,ow,sm,br,ma,us,ge,ep,ve⟩=b at *;clear hq;have Dr:=dN h3;have RP:=dN h4;have YL:=dN h5
 simp only at Dr RP YL
 go_enter func179,ntmps179
 simp only[S.val,S.cells];go_wp2_with (simp only[YJ.out]);refine(hi _ RN.out).mono ?_;rintro e w5 ⟨rfl,hb5⟩;have hB:Below w.heap.size w w5:=(bZ.alloc aQ _).trans (hb5.mono au);have YM:w5.cell? ⟨w.heap.size,0,none⟩=some (.i st):=Field.ak hb5 au;have YK:w5.cell? ⟨w.heap.size,1,none⟩=some (.i ow):=Field.ak hb5 au;have aaG:w5.cell? ⟨w.heap.size,2,none⟩=some (.i sm):=Field.ak hb5 au;have Vj:w5.cell? ⟨w.heap.size,3,none⟩=some (.bool br):=Field.ak hb5 au;have aaH:w5.cell? ⟨w.heap.size,4,none⟩=some (.bool ma):=Field.ak hb5 au;have aaI:w5.cell? ⟨w.heap.size,5,none⟩=some (.i us):=Field.ak hb5 au;have aaJ:w5.cell? ⟨w.heap.size,6,none⟩=some (.i ge):=Field.ak hb5 au;have aaK:w5.cell? ⟨w.heap.size,7,none⟩=some (.i ep):=Field.ak hb5 au
 have aaL:w5.cell? ⟨w.heap.size,8,none⟩=some (.i ve):=Field.ak hb5 au;have h55:=cV (.func (.func 177) #[] #[]) (Field.ak hb5 Hh5.out);clear hi hb5;cases b
 ·go_wp2_with fail;refine(he _).mono ?_;rintro e w6 ⟨rfl,hb6⟩;have kS:=hB.trans (hb6.mono hB.size);go_wp2_with fail;go_ret;exact⟨Base.aN au,kS⟩
 ·go_wp2_with fail;go_ret;exact⟨Base.aN au,hB⟩
theorem Gz (w:World) (s:S) (own:Int) (p1 p3:Nat) (h1:w.cell? ⟨p1,0,none⟩=some (.i own)) (h3:w.cell? ⟨p3,0,none⟩=some (.func (.func 175) #[] #[])):Calls prog 180 #[s.val,ptr p3,ptr p1] w fun e w'=>e=.returned (.bool (if s.state == 2 then s.broken || (own == 1 || own == 2) else s.state == 3 && own == 2))/\Below w.heap.size w w':=by
 have hi:=fun w=>vU w s
 obtain⟨st,ow,sm,br,ma,us,ge,ep,ve⟩:=s;simp only[S.val,S.cells]at hi;have h1':(w.alloc (.cells (Aa st ow sm br ma us ge ep ve) 57)).cell? ⟨p1,0,none⟩=some (.i own):=(World.cell?_alloc_lt _ _ _ (dN h1)).trans h1;have h3':(w.alloc (.cells (Aa st ow sm br ma us ge ep ve) 57)).cell? ⟨p3,0,none⟩=some (.func (.func 175) #[] #[]):=(World.cell?_alloc_lt _ _ _ (dN h3)).trans h3;have YI:=uH h1';have RN:=uH h3';clear h1' h3';generalize hq:(st == 2)=b at *;clear hq;have RO:=dN h1;have Dr:=dN h3;simp only at RO Dr
 go_enter func180,ntmps180
 simp only[S.val,S.cells];go_wp2_with (simp only[RN.out]);refine(hi _).mono ?_;rintro e w5 ⟨rfl,hb5⟩;have hB:Below w.heap.size w w5:=(bZ.alloc aQ _).trans (hb5.mono au);have YM:w5.cell? ⟨w.heap.size,0,none⟩=some (.i st):=Field.ak hb5 au;have Vj:w5.cell? ⟨w.heap.size,3,none⟩=some (.bool br):=Field.ak hb5 au;have xE:=cC own (Field.ak hb5 YI.out);clear hi hb5;cases b
 ·by_cases h:st=3
  ·subst h;go_wp2_with fail;go_ret;exact⟨Base.aN au,hB⟩
  ·have hk:(st == 3)=false:=by simpa using h
   go_wp2_with fail;go_ret;exact⟨Base.aN (by simp[h]),hB⟩
 ·cases br
  ·by_cases h:own=1
   ·subst h;go_wp2_with fail;go_ret;exact⟨Base.aN au,hB⟩
   ·have hk:(own == 1)=false:=by simpa using h
    go_wp2_with fail;go_ret;exact⟨Base.aN (by simp[h]),hB⟩
  ·go_wp2_with fail;go_ret;exact⟨Base.aN au,hB⟩
def A7 (s:S) (own:Int):Bool:=if s.state == 2 then s.broken || (own == 1 || own == 2) else s.state == 3 && own == 2
def fits (s:S) (kind own:Int):Bool:=
 if kind=0 then sound s && s.own == own else if kind=1 then sound s else if kind=2 then s.state == 0 else if kind=3 then sound s || s.state == 0
 else if kind=4 then A7 s own else if kind=5 then s.state == 6 else if kind=6 then s.state == 2 else false
structure Vk (w:World) (n:Nat) (own:Int):Prop where
 h1:w.cell? ⟨n,0,none⟩=some (.i own)
 h3:w.cell? ⟨n+1,0,none⟩=some (.func (.func 175) #[] #[])
 h4:w.cell? ⟨n+2,0,none⟩=some (.func (.func 176) #[] #[ptr (n+1)])
 h5:w.cell? ⟨n+3,0,none⟩=some (.func (.func 177) #[] #[])
 tab:w.heap[n+4]? =some (.map (table n) 7)
theorem asked (w:World) (own:Int):Vk (lI w own) w.heap.size own:=by
 unfold lI;refine⟨by go_simp,by go_simp,by go_simp,by go_simp,?_⟩;have h:∀ (W:World) (o:Obj),W.heap.size=w.heap.size+4->(W.alloc o).heap[w.heap.size+4]? =some o:=fun W o e=>by rw[<- e];exact World.alloc_heap_new W o
 exact h _ _ au
theorem mV (w:World) (own:Int):Below w.heap.size w (lI w own):=by
 unfold lI;exact((((bZ.alloc aQ _).alloc au _).alloc (by simp;omega) _).alloc (by simp;omega) _).alloc (by simp;omega) _
theorem vS (w:World) (s:S) (kind own:Int) (hk:kind=0\/kind=1\/kind=2\/kind=3\/kind=4\/kind=6):Calls prog 85 #[s.val,.i kind,.i own] w fun e w'=>
  e=.returned (.bool (fits s kind own))/\Below w.heap.size w w':=by
 have ha:=AF (w.alloc (.cells s.cells 57)) own;have hA:=asked (w.alloc (.cells s.cells 57)) own;have hB:=((Below.refl w.heap.size w).alloc aQ (.cells s.cells 57)).trans ((mV (w.alloc (.cells s.cells 57)) own).mono au);have hcc:∀ (i:Nat) (v:Value),s.cells[i]? =some v->(lI (w.alloc (.cells s.cells 57)) own).cell? ⟨w.heap.size,i,none⟩=some v:=fun i v hv=>((mV _ own).cell (p:=⟨w.heap.size,i,none⟩) au).trans (by rw[World.cell?,World.alloc_heap_new];exact hv)
 have c0:=hcc 0 (.i s.state) rfl;have c1:=hcc 1 (.i s.own) rfl;have c2:=hcc 2 (.i s.streams) rfl;have c3:=hcc 3 (.bool s.broken) rfl;have c4:=hcc 4 (.bool s.marked) rfl;have c5:=hcc 5 (.i s.uses) rfl;have c6:=hcc 6 (.i s.gen) rfl;have c7:=hcc 7 (.i s.aJ) rfl;have c8:=hcc 8 (.i s.version) rfl;have hi0:=fun h1 h3 h4=>NK (lI (w.alloc (.cells s.cells 57)) own) s own (w.alloc (.cells s.cells 57)).heap.size ((w.alloc (.cells s.cells 57)).heap.size+1) ((w.alloc (.cells s.cells 57)).heap.size+2) h1 h3 h4
 have RQ:=hi0 hA.h1 hA.h3 hA.h4;clear hi0;have hi1:=jQ _ s _ hA.h3;have hi2:=yt (lI (w.alloc (.cells s.cells 57)) own) s;have hi3:=J9 _ s _ _ _ hA.h3 hA.h4 hA.h5;have Vl:=Gz _ s own _ _ hA.h1 hA.h3;have hi4:Calls prog 180 _ _ fun e w'=>e=.returned (.bool (A7 s own))/\Below _ _ w':=Vl
 clear Vl;have Qw:=vU (lI (w.alloc (.cells s.cells 57)) own) s;have hl0:=eB (P:=prog) _ _ 161 3 85 _ 7 0 0 _ underlying161 underlying3 hA.tab (by rfl);have hl1:=eB (P:=prog) _ _ 161 3 85 _ 7 1 1 _ underlying161 underlying3 hA.tab (by rfl);have hl2:=eB (P:=prog) _ _ 161 3 85 _ 7 2 2 _ underlying161 underlying3 hA.tab (by rfl);have hl3:=eB (P:=prog) _ _ 161 3 85 _ 7 3 3 _ underlying161 underlying3 hA.tab (by rfl);have hl4:=eB (P:=prog) _ _ 161 3 85 _ 7 4 4 _ underlying161 underlying3 hA.tab (by rfl);have Qx:=eB (P:=prog) _ _ 161 3 85 _ 7 6 6 _ underlying161 underlying3 hA.tab (by rfl)
 have hfs:∀ k:Int,fits s k own=(if k=0 then sound s && s.own == own else if k=1 then sound s else if k=2 then s.state == 0 else if k=3 then sound s || s.state == 0 else if k=4 then A7 s own else if k=5 then s.state == 6 else if k=6 then s.state == 2 else false):=fun k=>rfl
 have YN:=uH hfs;have hsz:(w.alloc (.cells s.cells 57)).heap.size=w.heap.size+1:=au
 rw[hsz]at ha RQ hi1 hi3 hi4 hl0 hl1 hl2 hl3 hl4 Qx;clear hA hcc hfs;have hi0:=RQ;clear RQ;generalize hsw:A7 s own=bsw at hi4;have Vm:=uH hsw;clear hsw;obtain⟨st,ow,sm,br,ma,us,ge,ep,ve⟩:=s;simp only[S.val,S.cells,World.size_alloc]at ha hi0 hi1 hi2 hi3 hi4 Qw hl0 hl1 hl2 hl3 hl4 Qx hB c0 c1 c2 c3 c4 c5 c6 c7 c8
 go_enter func85,ntmps85
 simp only[S.val,S.cells];go_wp2_with fail;refine ha.mono ?_;rintro e wa ⟨rfl,rfl⟩;generalize lI (w.alloc (.cells (Aa st ow sm br ma us ge ep ve) 57)) own=wa at *;clear ha hsz
 rcases hk with rfl | rfl | rfl | rfl | rfl | rfl
 focus
  clear hi1 hl1 hi2 hl2 hi3 hl3 hi4 hl4 Qw Qx;go_wp2_with fail;refine hi0.mono ?_
 rotate_left
 focus
  clear hi0 hl0 hi2 hl2 hi3 hl3 hi4 hl4 Qw Qx;go_wp2_with fail;refine hi1.mono ?_
 rotate_left
 focus
  clear hi0 hl0 hi1 hl1 hi3 hl3 hi4 hl4 Qw Qx;go_wp2_with fail;refine hi2.mono ?_
 rotate_left
 focus
  clear hi0 hl0 hi1 hl1 hi2 hl2 hi4 hl4 Qw Qx;go_wp2_with fail;refine hi3.mono ?_
 rotate_left
 focus
  clear hi0 hl0 hi1 hl1 hi2 hl2 hi3 hl3 Qw Qx;go_wp2_with fail;refine hi4.mono ?_
 rotate_left
 focus
  clear hi0 hl0 hi1 hl1 hi2 hl2 hi3 hl3 hi4 hl4;go_wp2_with fail;refine Qw.mono ?_
 rotate_left
 all_goals
  rintro e w6 ⟨rfl,hb6⟩;have kS:=hB.trans (hb6.mono hB.size)
 focus
  clear hi0 hl0 c0 c1 c2 c3 c4 c5 c6 c7 c8 hb6
 rotate_left
 focus
  clear hi1 hl1 c0 c1 c2 c3 c4 c5 c6 c7 c8 hb6
 rotate_left
 focus
  clear hi2 hl2 c0 c1 c2 c3 c4 c5 c6 c7 c8 hb6
 rotate_left
 focus
  clear hi3 hl3 c0 c1 c2 c3 c4 c5 c6 c7 c8 hb6
 rotate_left
 focus
  clear hi4 hl4 c0 c1 c2 c3 c4 c5 c6 c7 c8 hb6
 rotate_left
 focus
  clear Qw Qx c0 c1 c2 c3 c4 c5 c6 c7 c8 hb6
 rotate_left
 all_goals
  go_wp2_with fail;go_ret;exact⟨Base.aN (by rw[YN.out];simp[Vm.out]),kS⟩
end Find
section
variable {w : World} {b : Nat}
theorem cQ {f : Nat -> Option Value} (c : aj.Cf) (h : ∀ k, w.cell? ⟨b, k, none⟩ = f k) (e : f 0 = some (.i c.workers) /\ f 1 = some (.i c.slots) /\ f 2 = some (.i c.streams) /\ f 3 = some (.i c.waiters) /\ f 4 = some (.i c.uses):=by exact⟨rfl, rfl, rfl, rfl, rfl⟩) :
  w.cell? ⟨b, 0, none⟩ = some (.i c.workers) /\ w.cell? ⟨b, 1, none⟩ = some (.i c.slots) /\ w.cell? ⟨b, 2, none⟩ = some (.i c.streams) /\ w.cell? ⟨b, 3, none⟩ = some (.i c.waiters) /\ w.cell? ⟨b, 4, none⟩ = some (.i c.uses) :=
 ⟨(h 0).trans e.1, (h 1).trans e.2.1, (h 2).trans e.2.2.1, (h 3).trans e.2.2.2.1, (h 4).trans e.2.2.2.2⟩
end
namespace Find
open Go.RowKit Hp Slot
theorem Ka (w:World) (s:S) (own:Int):Calls prog 85 #[s.val,.i 5,.i own] w fun e w'=>
  e=.returned (.bool (fits s 5 own))/\Below w.heap.size w w':=by
 have ha:=AF (w.alloc (.cells s.cells 57)) own;have hA:=asked (w.alloc (.cells s.cells 57)) own;have hB:=((Below.refl w.heap.size w).alloc aQ (.cells s.cells 57)).trans ((mV (w.alloc (.cells s.cells 57)) own).mono au);have hcc:∀ (i:Nat) (v:Value),s.cells[i]? =some v->(lI (w.alloc (.cells s.cells 57)) own).cell? ⟨w.heap.size,i,none⟩=some v:=fun i v hv=>((mV _ own).cell (p:=⟨w.heap.size,i,none⟩) au).trans (by rw[World.cell?,World.alloc_heap_new];exact hv)
 have c0:=hcc 0 (.i s.state) rfl;have c1:=hcc 1 (.i s.own) rfl;have c2:=hcc 2 (.i s.streams) rfl;have c3:=hcc 3 (.bool s.broken) rfl;have c4:=hcc 4 (.bool s.marked) rfl;have c5:=hcc 5 (.i s.uses) rfl;have c6:=hcc 6 (.i s.gen) rfl;have c7:=hcc 7 (.i s.aJ) rfl;have c8:=hcc 8 (.i s.version) rfl;have hl5:=eB (P:=prog) _ _ 161 3 85 _ 7 5 5 _ underlying161 underlying3 hA.tab (by rfl);have hfs:∀ k:Int,fits s k own=(if k=0 then sound s && s.own == own else if k=1 then sound s else if k=2 then s.state == 0 else if k=3 then sound s || s.state == 0 else if k=4 then A7 s own else if k=5 then s.state == 6 else if k=6 then s.state == 2 else false):=fun k=>rfl
 have YN:=uH hfs;have hsz:(w.alloc (.cells s.cells 57)).heap.size=w.heap.size+1:=au
 have hi5:=NJ (lI (w.alloc (.cells s.cells 57)) own) s;rw[hsz]at ha hl5;clear hA hcc hfs;obtain⟨st,ow,sm,br,ma,us,ge,ep,ve⟩:=s;simp only[S.val,S.cells,World.size_alloc]at ha hi5 hl5 hB c0 c1 c2 c3 c4 c5 c6 c7 c8
 go_enter func85,ntmps85
 simp only[S.val,S.cells];go_wp2_with fail;refine ha.mono ?_;rintro e wa ⟨rfl,rfl⟩;generalize lI (w.alloc (.cells (Aa st ow sm br ma us ge ep ve) 57)) own=wa at *;clear ha hsz;go_wp2_with fail;refine hi5.mono ?_;rintro e w6 ⟨rfl,hb6⟩;have kS:=hB.trans (hb6.mono hB.size);clear hi5 hl5 c0 c1 c2 c3 c4 c5 c6 c7 c8 hb6;go_wp2_with fail;go_ret;exact⟨Base.aN (by rw[YN.out];simp),kS⟩
theorem J8 (w:World) (s:S) (kind own:Int) (hk:kind=0\/kind=1\/kind=2\/kind=3\/kind=4\/kind=5\/kind=6):Calls prog 85 #[s.val,.i kind,.i own] w fun e w'=>
  e=.returned (.bool (fits s kind own))/\Below w.heap.size w w':=by
 by_cases h:kind=5
 ·subst h;exact Ka w s own
 ·exact vS w s kind own ag
end Find
end Go.Proofs.YtbklamnimfmjkaaGreatDoor
