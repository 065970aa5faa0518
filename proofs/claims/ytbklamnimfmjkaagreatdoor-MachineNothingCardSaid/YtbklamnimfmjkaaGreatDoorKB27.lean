/- Part 27 of the walks and plain laws that the last text joins. -/
import Derived.Test.YtbklamnimfmjkaaGreatDoorKB24
set_option maxRecDepth 100000
set_option maxHeartbeats 16000000
set_option linter.all false
open Go.Proofs.Tryz
namespace Go.Proofs.YtbklamnimfmjkaaGreatDoor
namespace Mc
open Go.RowKit Hp ah aj Slot ai Tk Cl
theorem EJ {W:World} {sb b1 b2 mb wb:Nat} {bv:Value} {x:Sm} {ws:List Int} {tc:Int} (h:eD W sb b1 b2 mb wb bv x ws tc) (ht:0<=tc/\tc<=4000000000000000000) (hc:aA x.cf) (hlen:ws.length=sc x.cf (ns x.cf)) (hk:x.st=1) (htab:TabAt W) (hn2:¬ xQ sb b1 b2 2/\¬ dJ mb wb 2):
  Calls prog 219 #[ptr sb,ptr mb] W (ig W sb b1 b2 mb wb bv (.tuple #[]) (x.step ws).1 (x.step ws).2.1 (tc+(x.step ws).2.2)):=by
 cases hh:bW x.cf x.i
 ·exact ED h hh hk
 ·cases hd:dec (rd ws (sc x.cf x.i.toNat))with
  | none=>exact CE h ht hc hlen hh hd hk
  | some s=>
   by_cases e3:s.state=3
   ·by_cases eo:s.own=x.w
    ·by_cases eg:s.gen=x.gen
     ·cases hb:x.becomes s with
      | inl t=>exact Ja h ht hc hlen hh hd e3 eo eg hk hb htab hn2
      | inr e=>exact I9 h ht hc hlen hh hd e3 eo eg hk hb
     ·exact EH h ht hc hlen hh hd e3 eo eg hk
    ·exact EF h ht hc hlen hh hd e3 eo hk
   ·exact zP h ht hc hlen hh hd e3 hk
theorem GY {W:World} {sb b1 b2 mb wb:Nat} {bv:Value} {x:Sm} {ws:List Int} {tc:Int} (h:eD W sb b1 b2 mb wb bv x ws tc) (ht:0<=tc/\tc<=4000000000000000000) (hc:aA x.cf) (hlen:ws.length=sc x.cf (ns x.cf)) (ok:ny x.cf x) (htab:TabAt W) (hn2:¬ xQ sb b1 b2 2/\¬ dJ mb wb 2):
  Calls prog 157 #[ptr sb,ptr mb] W (ig W sb b1 b2 mb wb bv (.bool (decide ((x.step ws).1.st=3))) (x.step ws).1 (x.step ws).2.1 (tc+(x.step ws).2.2)):=by
 have hst:=ok.st;have hcases:x.st=0\/x.st=1\/x.st=2\/x.st=3:=ag
 rcases hcases with hk | hk | hk | hk
 ·exact CB h ht (by have:=hc.ns;have:=hc.w;rw[hlen];unfold sc;omega) hk
 ·exact EE h hk (EJ h ht hc hlen hk htab hn2)
 ·exact EC h ht hc hlen (ok.has hk) hk
 ·exact EB h hk
end Mc
end Go.Proofs.YtbklamnimfmjkaaGreatDoor
