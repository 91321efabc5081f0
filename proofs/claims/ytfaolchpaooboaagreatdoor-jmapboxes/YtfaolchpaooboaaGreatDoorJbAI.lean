/- Part of the claim: facts that its last text uses. No conditions. -/
import Derived.Test.YtfaolchpaooboaaGreatDoorJbAE
import Derived.ProofKit
import Derived.OpenShut
import Derived.ShutString
import Derived.ChangeOld
import Derived.Below
set_option linter.all false
namespace Go.Vm
noncomputable section
open Go.ChangeShapes Go.WideShapes Go.ChangeAt Go.RowKit
variable{P:Program}{G:Nat}{M N:Mp}{h:Hp}{w:World}
theorem Seen.row(S:Seen G M h w){blk off:Nat}{cs:List V}(hne:cs≠ [])(hc:∀k v,cs[k]?=some v→∃x,w.cell? ⟨blk,off+k,none⟩=some x∧scalar x=true∧Rp M v x):
  ∃sz,Seen G (M.add h.next ⟨blk,off,sz⟩) (h.new (.cells .ro cs)) w∧M.le (M.add h.next ⟨blk,off,sz⟩):=by
 have hnone:M h.next=none:=S.rel.fresh _ (Nat.le_refl _)
 obtain⟨v0,hv0⟩:∃v,cs[0]?=some v:=by
  cases cs with
  |nil=>exact absurd rfl hne
  |cons v l=>exact⟨v,rfl⟩
 obtain⟨x0,hx0,-,-⟩:=hc 0 v0 hv0
 obtain⟨c,el,fr,hb⟩:∃c el fr,w.heap[blk]?=some (.cells c el fr):=by
  unfold World.cell? at hx0
  split at hx0
  ·rename_i c el fr hb;exact⟨c,el,fr,hb⟩
  ·cases hx0
 have hle:=Mp.qQ hnone ⟨blk,off,c.size⟩
 refine⟨c.size,⟨⟨fun i p hi=>?_,fun i hi=>?_,fun i j p q L K hn hi hj hp hL hK=>?_,fun g hg=>?_⟩,fun i o hi=>?_⟩,hle⟩
 ·by_cases e:i=h.next
  ·subst e
   rw [h.lS] at hi
   cases hi
   refine⟨_,M.bZ _ _,c,el,fr,hb,rfl,fun k v hk=>?_,trivial⟩
   obtain⟨x,hx,hs,hr⟩:=hc k v hk
   refine⟨x,?_,hr.mono hle,hs⟩
   simpa [World.cell?,hb] using hx
  ·rw [h.gV e] at hi
   obtain⟨L,hL,hr⟩:=S.rel.ob i p hi
   exact⟨L,by rw [M.dM e];exact hL,hr.mono hle⟩
 ·have hs:(h.new (.cells .ro cs)).next.nat=h.next.nat+1:=Pos.dS _
  rw [hs] at hi
  have e:i≠h.next:=fun e=>by rw [e] at hi;omega
  rw [M.dM e]
  exact S.rel.fresh i (by omega)
 ·have ei:i≠h.next:=by
   intro e;subst e
   rw [h.lS] at hi;cases hi;cases hp
  rw [h.gV ei] at hi
  have:=S.un i p hi
  rw [hp] at this;cases this
 ·obtain⟨z,hz⟩:=S.rel.gl g hg
  exact⟨z,hle _ _ hz⟩
 ·by_cases e:i=h.next
  ·subst e;rw [h.lS] at hi;cases hi;rfl
  ·rw [h.gV e] at hi;exact S.un i o hi
section
variable{H:Type}{enc:TypeId×Value→H}{base:Nat}{spare:Nat→Bool}{held:Bool}
end
end
end Go.Vm
