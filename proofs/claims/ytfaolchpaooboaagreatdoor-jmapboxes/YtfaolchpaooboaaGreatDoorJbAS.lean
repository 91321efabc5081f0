/- Part of the claim: facts that its last text uses. No conditions. -/
import Derived.Test.YtfaolchpaooboaaGreatDoorJbAR
set_option linter.all false
namespace Go.Vm
noncomputable section
variable{P:Program}{G:Nat}
def Oh:List (Pos×Ob)→T Ob
 | []=>.nil
 |p::l=>T.set (some p.2) p.1 (Oh l)
def bld(n:Nat)(l:List (Pos×Ob)):Hp:=⟨Oh l,Pos.of n⟩
theorem Og:∀{l:List (Pos×Ob)} {i:Pos} {o:Ob},(Oh l).get i=some o→(i,o)∈l
 | [],i,o,h=>by rw [Oh,T.get_nil] at h;cases h
 |p::l,i,o,h=>by
  rw [Oh,T.ayg] at h
  split at h
  ·rename_i e
   cases h
   subst e
   exact List.mem_cons_self ..
  ·exact List.mem_cons_of_mem _ (Og h)
theorem ayV{n:Nat}{l:List (Pos×Ob)}{i:Pos}{o:Ob}(h:(bld n l).get i=some o):(i,o)∈l:=Og h
theorem tZ(n:Nat)(l:List (Pos×Ob)):(bld n l).next.nat=n:=Pos.dm n
def rY(n:Nat)(L:List Pos)(i:Pos):Pos:=match Nat.blt i.nat n with
 |true=>i
 |false=>oV (i.nat - n) L
theorem qF{n:Nat}{L:List Pos}{i:Pos}(h:i.nat<n):rY n L i=i:=by
 unfold rY
 rw [show Nat.blt i.nat n=true by simpa [Nat.blt_eq] using h]
theorem avM{n:Nat}{L:List Pos}{i:Pos}(h:n≤i.nat):rY n L i=oV (i.nat - n) L:=by
 unfold rY
 rw [show Nat.blt i.nat n=false by
  cases hb:Nat.blt i.nat n with
  |false=>rfl
  |true=>rw [Nat.blt_eq] at hb;omega]
def H9:List Pos→Bool
 | []=>true
 |p::l=>(match JR p l with|true=>false|false=>H9 l)
theorem NM:∀{l:List Pos},H9 l=true→l.Nodup
 | [],_=>List.nodup_nil
 |p::l,h=>by
  unfold H9 at h
  split at h
  ·cases h
  ·rename_i hm
   exact List.nodup_cons.2 ⟨sN hm,NM h⟩
def geP(n:Nat):List Pos→Bool
 | []=>true
 |p::l=>(match Nat.ble n p.nat with|true=>geP n l|false=>false)
theorem ajS{n:Nat}:∀{l:List Pos},geP n l=true→∀p∈l,n≤p.nat
 | [],_,p,h=>by cases h
 |q::l,e,p,h=>by
  unfold geP at e
  split at e
  ·rename_i hb
   rcases List.mem_cons.1 h with rfl|h
   ·exact Nat.le_of_ble_eq_true hb
   ·exact ajS e p h
  ·cases e
def Hw(ρ:Pos→Pos)(n2:Nat)(h1:Hp):List (Pos×Ob)→Bool
 | []=>true
 |p::l=>(match Nat.blt p.1.nat n2 with
  |true=>(match p.2.ins n2 with
   |true=>(match h1.get (ρ p.1) with
    |some o=>(match yM o (p.2.ren ρ) with|true=>Hw ρ n2 h1 l|false=>false)
    |none=>false)
   |false=>false)
  |false=>false)
theorem Jr{ρ:Pos→Pos}{n2:Nat}{h1:Hp}:∀{l:List (Pos×Ob)},Hw ρ n2 h1 l=true→∀i o,(i,o)∈l→i.nat<n2∧o.ins n2=true∧h1.get (ρ i)=some (o.ren ρ)
 | [],_,i,o,h=>by cases h
 |q::l,e,i,o,h=>by
  unfold Hw at e
  split at e
  ·rename_i h1'
   split at e
   ·rename_i h2
    split at e
    ·rename_i o1 h3
     split at e
     ·rename_i h4
      rcases List.mem_cons.1 h with rfl|h
      ·exact⟨by simpa [Nat.blt_eq] using h1',h2,by rw [h3,xg h4]⟩
      ·exact Jr e i o h
     ·cases e
    ·cases e
   ·cases e
  ·cases e
def bT(x:R V)(g:Hp)(r:V)(n2:Nat)(l:List (Pos×Ob))(L:List Pos):Bool:=match x with
 | .ok r1 h1=>(match gy r1 (r.ren (rY g.next.nat L)) with
  |true=>(match r.ins n2 with
   |true=>(match Nat.ble g.next.nat n2 with
    |true=>(match Nat.ble n2 (g.next.nat+L.length) with
     |true=>(match H9 L with
      |true=>(match geP g.next.nat L with
       |true=>Hw (rY g.next.nat L) n2 h1 l
       |false=>false)
      |false=>false)
     |false=>false)
    |false=>false)
   |false=>false)
  |false=>false)
 | .bad=>false
theorem amw{x:R V}{g:Hp}{r:V}{n2:Nat}{l:List (Pos×Ob)}{L:List Pos}(h:bT x g r n2 l L=true):∃h1,x=.ok (r.ren (rY g.next.nat L)) h1∧Carry (rY g.next.nat L) g h1 (bld n2 l)∧r.ins (bld n2 l).next.nat=true:=by
 unfold bT at h
 split at h
 ·rename_i r1 h1
  split at h
  ·rename_i e1
   split at h
   ·rename_i e2
    split at h
    ·rename_i e3
     split at h
     ·rename_i e4
      split at h
      ·rename_i e5
       split at h
       ·rename_i e6
        have e3:=Nat.le_of_ble_eq_true e3
        have e4:=Nat.le_of_ble_eq_true e4
        have dl:=NM e5
        have gl:=ajS e6
        have at_:∀i:Pos,g.next.nat≤i.nat→i.nat<n2→∃hk:i.nat - g.next.nat<L.length,rY g.next.nat L i=L[i.nat - g.next.nat]:=fun i h1 h2=>by
         have hk:i.nat - g.next.nat<L.length:=by omega
         exact⟨hk,by rw [avM h1,wR,List.getElem?_eq_getElem hk];rfl⟩
        refine⟨h1,by rw [ja _ _ e1],⟨by rw [tZ];exact e3,fun i hi=>qF hi,fun i j hi hj e=>?_,fun i o ho=>?_⟩,by rw [tZ];exact e2⟩
        ·rw [tZ] at hi hj
         rcases Nat.lt_or_ge i.nat g.next.nat with qi|qi<;>rcases Nat.lt_or_ge j.nat g.next.nat with qj|qj
         ·rw [qF qi,qF qj] at e;exact e
         ·obtain⟨hk,ek⟩:=at_ j qj hj
          rw [qF qi,ek] at e
          have:=gl _ (List.getElem_mem hk)
          rw [←e] at this
          omega
         ·obtain⟨hk,ek⟩:=at_ i qi hi
          rw [qF qj,ek] at e
          have:=gl _ (List.getElem_mem hk)
          rw [e] at this
          omega
         ·obtain⟨hk,ek⟩:=at_ i qi hi
          obtain⟨hk',ek'⟩:=at_ j qj hj
          rw [ek,ek'] at e
          have:=(List.getElem_inj dl).1 e
          exact Pos.fU (by omega)
        ·obtain⟨a,b,c⟩:=Jr h i o (ayV ho)
         rw [tZ]
         exact⟨a,⟨_,c,.inl rfl⟩,b⟩
       ·cases h
      ·cases h
     ·cases h
    ·cases h
   ·cases h
  ·cases h
 ·cases h
def bV(F:Fun)(zs:List V)(g:Hp)(r:V)(n2:Nat)(l:List (Pos×Ob)):Fun:=fun args h=>match h.next.eq g.next with
 |true=>(match eqL args zs with
  |true=>(match aoT h g with|true=>.ok r (bld n2 l)|false=>F args h)
  |false=>F args h)
 |false=>F args h
theorem bg{f:FuncId}{F F0:Fun}{zs:List V}{g:Hp}{r:V}{n2:Nat}{l:List (Pos×Ob)}{L:List Pos}(hF:aj P G f F)(h0:aj P G f F0)(e:bT (F0 zs g) g r n2 l L=true):aj P G f (bV F zs g r n2 l):=by
 intro args h r' h' M w cargs e0 hr ha
 obtain⟨h1,e1,k,hi⟩:=amw e
 unfold bV at e0
 split at e0
 ·split at e0
  ·rename_i ea
   split at e0
   ·rename_i eh
    cases e0
    obtain rfl:=vS ea
    obtain rfl:=ayj eh
    exact Opq.mono (fun c w' p=>Post.carry hr k hi p) (h0 _ _ _ _ M w cargs e1 hr ha)
   ·exact hF args h r' h' M w cargs e0 hr ha
  ·exact hF args h r' h' M w cargs e0 hr ha
 ·exact hF args h r' h' M w cargs e0 hr ha
end
end Go.Vm
