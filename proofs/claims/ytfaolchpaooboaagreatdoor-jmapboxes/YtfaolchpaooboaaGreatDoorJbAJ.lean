/- Part of the claim: facts that its last text uses. No conditions. -/
import Derived.Test.YtfaolchpaooboaaGreatDoorJbAG
set_option linter.all false
namespace Go.Vm
noncomputable section
variable{P:Program}{G:Nat}
def aoU:Fn→Fn→Bool
 | .func g,x=>(match x with| .func k=>Nat.beq g k|_=>false)
 |_,_=>false
theorem ayk{f g:Fn}(h:aoU f g=true):f=g:=by
 unfold aoU at h
 split at h
 ·split at h
  ·rw [Nat.eq_of_beq_eq_true h]
  ·cases h
 ·cases h
def gy:V→V→Bool
 | .func f a b,x=>(match x with| .func g c d=>(match aoU f g with|true=>(match gy a c with|true=>gy b d|false=>false)|false=>false)|_=>false)
 | .agg l,x=>(match x with| .agg k=>gy l k|_=>false)
 | .tuple l,x=>(match x with| .tuple k=>gy l k|_=>false)
 | .iface t v,x=>(match x with| .iface u w=>(match Nat.beq t u with|true=>gy v w|false=>false)|_=>false)
 | .cons a b,x=>(match x with| .cons c d=>(match gy a c with|true=>gy b d|false=>false)|_=>false)
 |v,x=>eqV v x
theorem ja:∀(a b:V),gy a b=true→a=b
 | .func f a b,x,h=>by
  simp only [gy] at h
  split at h
  ·split at h
   ·rename_i e1
    split at h
    ·rename_i e2
     rw [ayk e1,ja a _ e2,ja b _ h]
    ·cases h
   ·cases h
  ·cases h
 | .agg l,x,h=>by
  simp only [gy] at h
  split at h
  ·rw [ja l _ h]
  ·cases h
 | .tuple l,x,h=>by
  simp only [gy] at h
  split at h
  ·rw [ja l _ h]
  ·cases h
 | .iface t v,x,h=>by
  simp only [gy] at h
  split at h
  ·split at h
   ·rename_i e1
    rw [Nat.eq_of_beq_eq_true e1,ja v _ h]
   ·cases h
  ·cases h
 | .cons a b,x,h=>by
  simp only [gy] at h
  split at h
  ·split at h
   ·rename_i e2
    rw [ja a _ e2,ja b _ h]
   ·cases h
  ·cases h
 | .bool _,x,h=>by unfold gy at h;exact je h
 | .int _ _,x,h=>by unfold gy at h;exact je h
 | .str _,x,h=>by unfold gy at h;exact je h
 | .ptr _ _,x,h=>by unfold gy at h;exact je h
 | .fJ,x,h=>by unfold gy at h;exact je h
 | .slice _ _ _ _,x,h=>by unfold gy at h;exact je h
 | .af,x,h=>by unfold gy at h;exact je h
 | .emp,x,h=>by unfold gy at h;exact je h
 | .map _,x,h=>by unfold gy at h;exact je h
 | .gG,x,h=>by unfold gy at h;exact je h
 | .iR,x,h=>by unfold gy at h;exact je h
 | .iw,x,h=>by unfold gy at h;exact je h
 | .nil,x,h=>by unfold gy at h;exact je h
def eqL:List V→List V→Bool
 | [],x=>(match x with| []=>true|_::_=>false)
 |a::l,x=>(match x with| []=>false|b::k=>(match gy a b with|true=>eqL l k|false=>false))
theorem vS:∀{l k:List V},eqL l k=true→l=k
 | [],k,h=>by cases k with
  |nil=>rfl
  |cons a k=>cases h
 |a::l,k,h=>by
  cases k with
  |nil=>cases h
  |cons b k=>
   simp only [eqL] at h
   split at h
   ·rename_i e;rw [ja _ _ e,vS h]
   ·cases h
def adO:List (V×V)→List (V×V)→Bool
 | [],x=>(match x with| []=>true|_::_=>false)
 |a::l,x=>(match x with| []=>false|b::k=>(match gy a.1 b.1,gy a.2 b.2 with|true,true=>adO l k|_,_=>false))
theorem Yz:∀{l k:List (V×V)},adO l k=true→l=k
 | [],k,h=>by cases k with
  |nil=>rfl
  |cons a k=>cases h
 |a::l,k,h=>by
  cases k with
  |nil=>cases h
  |cons b k=>
   simp only [adO] at h
   split at h
   ·rename_i e1 e2
    obtain⟨a1,a2⟩:=a
    obtain⟨b1,b2⟩:=b
    have e1:=ja _ _ e1
    have e2:=ja _ _ e2
    simp only at e1 e2
    rw [e1,e2,Yz h]
   ·cases h
def aoS:Wr→Wr→Bool
 | .ro,x=>(match x with| .ro=>true| .rw _ _=>false)
 | .rw t f,x=>(match x with| .ro=>false| .rw u g=>(match Nat.beq t u with|true=>(match f,g with|true,true=>true|false,false=>true|true,false=>false|false,true=>false)|false=>false))
theorem ayi{a b:Wr}(h:aoS a b=true):a=b:=by
 cases a with
 |ro=>cases b with
  |ro=>rfl
  |rw t f=>cases h
 |rw t f=>cases b with
  |ro=>cases h
  |rw u g=>
   simp only [aoS] at h
   split at h
   ·rename_i e
    rw [Nat.eq_of_beq_eq_true e]
    cases f<;>cases g<;>first|rfl|cases h
   ·cases h
def yM(a b:Ob):Bool:=match a with
 | .cells w l=>(match b with| .cells u k=>(match aoS w u with|true=>eqL l k|false=>false)|_=>false)
 | .bytes l=>(match b with| .bytes k=>eqL l k|_=>false)
 | .map l=>(match b with| .map k=>adO l k|_=>false)
 |_=>false
theorem xg{a b:Ob}(h:yM a b=true):a=b:=by
 unfold yM at h
 split at h
 ·split at h
  ·split at h
   ·rename_i e;rw [ayi e,vS h]
   ·cases h
  ·cases h
 ·split at h
  ·rw [vS h]
  ·cases h
 ·split at h
  ·rw [Yz h]
  ·cases h
 ·cases h
def eqT:T Ob→T Ob→Bool
 | .nil,x=>(match x with| .nil=>true| .node _ _ _=>false)
 | .node v l r,x=>(match x with
  | .nil=>false
  | .node u l' r'=>(match v with
   |none=>(match u with|none=>(match eqT l l' with|true=>eqT r r'|false=>false)|some _=>false)
   |some a=>(match u with|none=>false|some b=>(match yM a b with|true=>(match eqT l l' with|true=>eqT r r'|false=>false)|false=>false))))
theorem vP:∀{a b:T Ob},eqT a b=true→a=b
 | .nil,b,h=>by cases b with
  |nil=>rfl
  |node v l r=>cases h
 | .node v l r,b,h=>by
  cases b with
  |nil=>cases h
  |node u l' r'=>
   simp only [eqT] at h
   split at h
   ·split at h
    ·split at h
     ·rename_i e;rw [vP e,vP h]
     ·cases h
    ·cases h
   ·split at h
    ·cases h
    ·split at h
     ·rename_i e1
      split at h
      ·rename_i e;rw [xg e1,vP e,vP h]
      ·cases h
     ·cases h
def aoT(a b:Hp):Bool:=match a.next.eq b.next with|true=>eqT a.t b.t|false=>false
theorem ayj{a b:Hp}(h:aoT a b=true):a=b:=by
 unfold aoT at h
 split at h
 ·rename_i e
  obtain⟨t,n⟩:=a
  obtain⟨t',n'⟩:=b
  have e:=Pos.eq_iff.1 e
  have h:=vP h
  simp only at e h
  rw [e,h]
 ·cases h
end
end Go.Vm
