/- Part of the claim: facts that its last text uses. No conditions. -/
import Derived.Test.YtfaolchpaooboaaGreatDoorJbAO
import Derived.Test.YtfaolchpaooboaaGreatDoorJbAY
set_option linter.all false
noncomputable section
namespace Go.Proofs.Jm
open Go Go.Proofs Go.Vm
set_option maxRecDepth 100000
theorem YI(n:Nat)(s:List Nat):insL n (bys s)=true:=qU fun v hv=>by
 simp only [bys,List.mem_map] at hv
 obtain⟨b,-,rfl⟩:=hv
 rfl
theorem qo{n:Nat}{a b:List V}(ha:insL n a=true)(hb:insL n b=true):insL n (a++b)=true:=qU fun v hv=>by
 rcases List.mem_append.1 hv with q|q
 ·exact jY ha v q
 ·exact jY hb v q
def yB(h:Hp)(j:Pos)(C:List V):Hp:=Hp.new (h.put j none) (.cells (.rw 5 false) C)
def wrO(h:Hp)(p:Pos)(ty:TypeId)(j:Pos)(n:Nat)(C:List V):Hp:=yB (h.put p (some (.cells (.rw ty true) [.ptr p 0,.slice h.next 0 n (.un 1)]))) j C
section
variable{h h1:Hp}{p j:Pos}{ty:TypeId}{v':V}{n':Nat}{C:List V}
theorem FQ{i:Pos}(q:i.nat<h.next.nat):i≠h.next:=fun e=>by rw [e] at q;omega
theorem aj3(ok:zA h)(hj:j.nat<h.next.nat)(c1:Ch (fun i=>i=j) h h1)(o1:Ow 0 h1 5 1 v' n' C)(hn:0<n')(iv:∀i,dO v'=some i→h.next.nat≤i.nat)(hC:insL h.next.nat C=true):
  ∃ρ:Pos→Pos,v'=(V.slice h.next 0 n' (.un 1)).ren ρ∧Carry ρ h h1 (yB h j C):=by
 rcases o1.is with⟨q,-⟩|⟨i,rfl,-,hi,f,gi⟩
 ·omega
 have hi0:=iv i rfl
 let ρ:Pos→Pos:=fun k=>if k=h.next then i else k
 have old:∀k:Pos,k.nat<h.next.nat→ρ k=k:=fun k hk=>if_neg (FQ hk)
 have hnx:(yB h j C).next.nat=h.next.nat+1:=iF _ _
 refine⟨ρ,by show _=V.slice (ρ h.next) 0 n' (.un 1);rw [show ρ h.next=i from if_pos rfl],by omega,old,fun a b ha hb e=>?_,fun k o ho=>?_⟩
 ·rw [hnx] at ha hb
  by_cases qa:a=h.next<;>by_cases qb:b=h.next
  ·rw [qa,qb]
  ·rw [show ρ a=i from if_pos qa,show ρ b=b from if_neg qb] at e
   have:b.nat≠h.next.nat:=fun q=>qb (Pos.fU q)
   rw [←e] at this hb
   omega
  ·rw [show ρ a=a from if_neg qa,show ρ b=i from if_pos qb] at e
   have:a.nat≠h.next.nat:=fun q=>qa (Pos.fU q)
   rw [e] at this ha
   omega
  ·rw [show ρ a=a from if_neg qa,show ρ b=b from if_neg qb] at e
   exact e
 ·by_cases qk:k=h.next
  ·subst qk
   have e:o=.cells (.rw 5 false) C:=by
    have:(yB h j C).get h.next=some (.cells (.rw 5 false) C):=jH (h.put j none) _
    rw [this] at ho;cases ho;rfl
   subst e
   refine⟨by omega,⟨_,by rw [show ρ h.next=i from if_pos rfl];exact gi,?_⟩,by rw [hnx];exact pY (by omega) hC⟩
   show(Ob.cells (.rw 5 false) (C.map (V.ren ρ))).weak _
   rw [nY old hC]
   cases f
   ·exact .inl rfl
   ·exact .inr ⟨_,_,rfl,rfl⟩
  ·have hk:(yB h j C).get k=(h.put j none).get k:=new_ne (h.put j none) (fun q=>qk (Pos.fU q)) _
   rw [hk] at ho
   by_cases qj:k=j
   ·subst qj;rw [iq] at ho;cases ho
   ·rw [oN _ (nU qj)] at ho
    have hl:=ok k o ho
    exact⟨by omega,⟨o,by rw [old k hl.1];exact(c1.get k hl.1 qj).trans ho,.inl (Ob.oq old hl.2)⟩,Ob.mF (by omega) hl.2⟩
theorem N7(ok:zA h)(hp:p.nat<h.next.nat)(hj:j.nat<h.next.nat)(hpj:p≠j)(c1:Ch (fun i=>i=p∨i=j) h h1)(g1:h1.get p=some (.cells (.rw ty true) [.ptr p 0,v']))(o1:Ow 0 h1 5 1 v' n' C)(hn:0<n')
  (iv:∀i,dO v'=some i→h.next.nat≤i.nat) (hC:insL h.next.nat C=true):∃ρ:Pos→Pos,(∀i:Pos,i.nat<h.next.nat→ρ i=i)∧Carry ρ h h1 (wrO h p ty j n' C):=by
 rcases o1.is with⟨q,-⟩|⟨i,rfl,-,hi,f,gi⟩
 ·omega
 have hi0:=iv i rfl
 let ρ:Pos→Pos:=fun k=>if k=h.next then i else k
 have old:∀k:Pos,k.nat<h.next.nat→ρ k=k:=fun k hk=>if_neg (FQ hk)
 have hnx:(wrO h p ty j n' C).next.nat=h.next.nat+1:=iF _ _
 refine⟨ρ,old,by omega,old,fun a b ha hb e=>?_,fun k o ho=>?_⟩
 ·rw [hnx] at ha hb
  by_cases qa:a=h.next<;>by_cases qb:b=h.next
  ·rw [qa,qb]
  ·rw [show ρ a=i from if_pos qa,show ρ b=b from if_neg qb] at e
   have:b.nat≠h.next.nat:=fun q=>qb (Pos.fU q)
   rw [←e] at this hb
   omega
  ·rw [show ρ a=a from if_neg qa,show ρ b=i from if_pos qb] at e
   have:a.nat≠h.next.nat:=fun q=>qa (Pos.fU q)
   rw [e] at this ha
   omega
  ·rw [show ρ a=a from if_neg qa,show ρ b=b from if_neg qb] at e
   exact e
 ·by_cases qk:k=h.next
  ·subst qk
   have e:o=.cells (.rw 5 false) C:=by
    have:(wrO h p ty j n' C).get h.next=some (.cells (.rw 5 false) C):=jH ((h.put p (some (.cells (.rw ty true) [.ptr p 0,.slice h.next 0 n' (.un 1)]))).put j none) _
    rw [this] at ho;cases ho;rfl
   subst e
   refine⟨by omega,⟨_,by rw [show ρ h.next=i from if_pos rfl];exact gi,?_⟩,by rw [hnx];exact pY (by omega) hC⟩
   show(Ob.cells (.rw 5 false) (C.map (V.ren ρ))).weak _
   rw [nY old hC]
   cases f
   ·exact .inl rfl
   ·exact .inr ⟨_,_,rfl,rfl⟩
  ·have hk:(wrO h p ty j n' C).get k=((h.put p (some (.cells (.rw ty true) [.ptr p 0,.slice h.next 0 n' (.un 1)]))).put j none).get k:=new_ne ((h.put p (some (.cells (.rw ty true) [.ptr p 0,.slice h.next 0 n' (.un 1)]))).put j none) (fun q=>qk (Pos.fU q)) _
   rw [hk] at ho
   by_cases qj:k=j
   ·subst qj;rw [iq] at ho;cases ho
   ·rw [oN _ (nU qj)] at ho
    by_cases qp:k=p
    ·subst qp
     rw [iq] at ho
     cases ho
     refine⟨by omega,⟨_,by rw [old k hp];exact g1,.inl ?_⟩,?_⟩
     ·show Ob.cells (.rw ty true) [.ptr (ρ k) 0,.slice (ρ h.next) 0 n' (.un 1)]=_
      rw [old k hp,show ρ h.next=i from if_pos rfl]
     ·rw [hnx]
      simp only [Ob.ins,insL,V.ins,Bool.and_eq_true,Nat.blt_eq]
      exact⟨by omega,by omega,trivial⟩
    ·rw [oN _ (nU qp)] at ho
     have hl:=ok k o ho
     exact⟨by omega,⟨o,by rw [old k hl.1];exact(c1.get k hl.1 fun q=>q.elim qp qj).trans ho,.inl (Ob.oq old hl.2)⟩,Ob.mF (by omega) hl.2⟩
end
def asY(o:Option Ob):Option (TypeId×Pos×Pos×Nat):=match o with
 |some (.cells (.rw ty true) [.ptr p 0,.slice j 0 n (.un 1)])=>some (ty,p,j,n)
 |_=>none
theorem ayW{o:Option Ob}{ty:TypeId}{p j:Pos}{n:Nat}(h:asY o=some (ty,p,j,n)):o=some (.cells (.rw ty true) [.ptr p 0,.slice j 0 n (.un 1)]):=by
 unfold asY at h;split at h;cases h;rfl;cases h
def rowB(o:Option Ob):Option (List V):=match o with
 |some (.cells (.rw t _) l)=>(match Nat.beq t 5 with|true=>some l|false=>none)
 |_=>none
theorem UG{o:Option Ob}{l:List V}(h:rowB o=some l):∃f,o=some (.cells (.rw 5 f) l):=by
 unfold rowB at h
 split at h
 ·rename_i t f l'
  split at h
  ·rename_i hb
   cases h
   exact⟨f,by rw [Nat.eq_of_beq_eq_true hb]⟩
  ·cases h
 ·cases h
def abb(p:Pos)(h:Hp)(k:TypeId→Pos→Nat→List V→Option (V×Hp)):Option (V×Hp):=match asY (h.get p) with
 |some (ty,p',j,n)=>(match p'.eq p with
  |true=>(match p.eq j with
   |true=>none
   |false=>(match rowB (h.get j) with
    |some l=>(match Nat.beq l.length n with
     |true=>(match Nat.ble n 1000000 with|true=>k ty j n l|false=>none)
     |false=>none)
    |none=>none))
  |false=>none)
 |none=>none
theorem UA{p:Pos}{h:Hp}{k:TypeId→Pos→Nat→List V→Option (V×Hp)}{x:V×Hp}(e:abb p h k=some x):∃ty j n l f,h.get p=some (.cells (.rw ty true) [.ptr p 0,.slice j 0 n (.un 1)])∧h.get j=some (.cells (.rw 5 f) l)∧p≠j∧l.length=n∧n≤1000000∧k ty j n l=some x:=by
 unfold abb at e
 split at e
 ·rename_i ty p' j n hb
  have hg:=ayW hb
  split at e
  ·rename_i hpp
   obtain rfl:=Pos.eq_iff.1 hpp
   split at e
   ·cases e
   ·rename_i hpj
    have hne:=Pos.eq_false.1 hpj
    split at e
    ·rename_i l hl
     obtain⟨f,hj⟩:=UG hl
     split at e
     ·rename_i hn
      split at e
      ·rename_i hn2
       exact⟨ty,j,n,l,f,hg,hj,hne,Nat.eq_of_beq_eq_true hn,Nat.le_of_ble_eq_true hn2,e⟩
      ·cases e
     ·cases e
    ·cases e
  ·cases e
 ·cases e
def amu(c:Nat):Bool:=match Nat.ble 32 c with
 |true=>(match Nat.blt c 256 with
  |true=>(match Nat.beq c 34 with
   |true=>false
   |false=>(match Nat.beq c 92 with|true=>false|false=>true))
  |false=>false)
 |false=>false
theorem avJ{c:Nat}(h:amu c=true):okW c:=by
 unfold amu at h
 split at h
 ·rename_i h1
  split at h
  ·rename_i h2
   split at h
   ·cases h
   ·rename_i h3
    split at h
    ·cases h
    ·rename_i h4
     exact⟨Nat.le_of_ble_eq_true h1,by simpa [Nat.blt_eq] using h2,Nat.ne_of_beq_eq_false h3,Nat.ne_of_beq_eq_false h4⟩
  ·cases h
 ·cases h
def zC:List Nat→Bool
 | []=>true
 |c::l=>(match amu c with|true=>zC l|false=>false)
theorem yj:∀{l:List Nat},zC l=true→∀c∈l,okW c
 | [],_,c,h=>by cases h
 |d::l,e,c,h=>by
  unfold zC at e
  split at e
  ·rename_i hb
   rcases List.mem_cons.1 h with rfl|h
   ·exact avJ hb
   ·exact yj e c h
  ·cases e
def Ig(s:List Nat)(r:List V):List V:=List.rec (motive:=fun _=>List V) r (fun c _ ih=>V.int .u8 (.ofNat c)::ih) s
theorem yO:∀(s:List Nat) (r:List V),Ig s r=bys s++r
 | [],r=>rfl
 |c::s,r=>by show V.int .u8 (Int.ofNat c)::Ig s r=_;rw [yO s r];rfl
def Jp(l r:List V):List V:=List.rec (motive:=fun _=>List V) r (fun c _ ih=>c::ih) l
theorem wQ:∀(l r:List V),Jp l r=l++r
 | [],r=>rfl
 |c::l,r=>by show c::Jp l r=_;rw [wQ l r];rfl
def p2S(args:List V):Option (Pos×List Nat):=match args with
 | [.ptr p 0,.str t]=>some (p,t)
 |_=>none
theorem aEA{args:List V}{p:Pos}{t:List Nat}(h:p2S args=some (p,t)):args= [.ptr p 0,.str t]:=by
 unfold p2S at h;split at h;cases h;rfl;cases h
def Ik(args:List V)(h:Hp):Option (V×Hp):=match p2S args with
 |some (p,q)=>(match Nat.ble q.length 1000000 with
  |true=>(match zC q with
   |true=>abb p h fun ty j n l=>bQ (n+q.length+2) fun n'=>some (.tuple .nil,wrO h p ty j n' (Jp l (V.int .u8 (.ofNat 34)::Ig q [V.int .u8 (.ofNat 34)])))
   |false=>none)
  |false=>none)
 |none=>none
theorem abx{h:Hp}{j:Pos}{n:Nat}{l:List V}{f:Bool}(hj:h.get j=some (.cells (.rw 5 f) l))(hl:l.length=n)(hlt:j.nat<h.next.nat):Ow 0 h 5 1 (.slice j 0 n (.un 1)) n l:=
 ⟨by omega,.inr ⟨j,rfl,Nat.zero_le _,hlt,f,hj⟩⟩
theorem aa9{f:FuncId}(hF:aj Tryz.prog ah f rJ):aj Tryz.prog ah f (fM Ik rJ):=fast_ok hF fun args h r h2 ok hi e=>by
 unfold Ik at e
 split at e
 ·rename_i p q hat
  obtain rfl:=aEA hat
  split at e
  ·rename_i hlq
   have hlq:=Nat.le_of_ble_eq_true hlq
   split at e
   ·rename_i hw
    obtain⟨ty,j,n,l,f,hg,hj,hne,hl,hn,e⟩:=UA e
    rw [bf,wQ,yO] at e
    cases e
    have hp:=(ok _ _ hg).1
    have hjl:=(ok _ _ hj).1
    obtain⟨r,h1,e1,rfl,v',g1,o1,c1,i1⟩:=aDS hg hp (abx hj hl hjl) (fun e=>hne (by cases e;rfl)) (by omega) (yj hw)
    have hC:l++bys (34::(q++ [34]))=l++V.int .u8 (Int.ofNat 34)::(bys q++ [V.int .u8 (Int.ofNat 34)]):=by simp [bys]
    rw [hC] at o1
    obtain⟨ρ,-,k⟩:=N7 (C:=l++V.int .u8 (Int.ofNat 34)::(bys q++ [V.int .u8 (Int.ofNat 34)])) ok hp hjl hne (c1.mono fun i _ q=>q.imp id fun q=>by cases q;rfl) g1 o1 (by omega) i1 (by rw [←hC];exact qo ((ok _ _ hj).2) (YI _ _))
    exact⟨h1,ρ,e1,k,rfl⟩
   ·cases e
  ·cases e
 ·cases e
def p2C(args:List V):Option (Pos×Int):=match args with
 | [.ptr p 0,.int .u8 c]=>some (p,c)
 |_=>none
theorem aEB{args:List V}{p:Pos}{c:Int}(h:p2C args=some (p,c)):args= [.ptr p 0,.int .u8 c]:=by
 unfold p2C at h;split at h;cases h;rfl;cases h
def Io(args:List V)(h:Hp):Option (V×Hp):=match p2C args with
 |some (p,c)=>abb p h fun ty j n l=>bQ (n+1) fun n'=>some (.iw,wrO h p ty j n' (Jp l [V.int .u8 c]))
 |none=>none
theorem abe{f:FuncId}(hF:aj Tryz.prog ah f jg):aj Tryz.prog ah f (fM Io jg):=fast_ok hF fun args h r h2 ok hi e=>by
 unfold Io at e
 split at e
 ·rename_i p c hat
  obtain rfl:=aEB hat
  obtain⟨ty,j,n,l,f,hg,hj,hne,hl,hn,e⟩:=UA e
  rw [bf,wQ] at e
  cases e
  have hp:=(ok _ _ hg).1
  have hjl:=(ok _ _ hj).1
  obtain⟨v',h1,e1,g1,o1,c1,i1,-⟩:=Ho hg hp (abx hj hl hjl) (fun e=>hne (by cases e;rfl)) (by omega) c
  obtain⟨ρ,-,k⟩:=N7 ok hp hjl hne (c1.mono fun i _ q=>q.imp id fun q=>by cases q;rfl) g1 o1 (by omega) i1 (qo ((ok _ _ hj).2) rfl)
  exact⟨h1,ρ,e1,k,rfl⟩
 ·cases e
def v2S(args:List V):Option (Pos×Nat×List Nat):=match args with
 | [.slice j 0 n (.un 1),.str t]=>some (j,n,t)
 |_=>none
theorem aDT{args:List V}{j:Pos}{n:Nat}{t:List Nat}(h:v2S args=some (j,n,t)):args= [.slice j 0 n (.un 1),.str t]:=by
 unfold v2S at h;split at h;cases h;rfl;cases h
def IY(args:List V)(h:Hp):Option (V×Hp):=match v2S args with
 |some (j,n,q)=>(match Nat.ble q.length 1000000 with
  |true=>(match zC q with
   |true=>(match rowB (h.get j) with
    |some l=>(match Nat.beq l.length n with
     |true=>(match Nat.ble n 1000000 with
      |true=>bQ (n+q.length+2) fun n'=>some (.slice h.next 0 n' (.un 1),yB h j (Jp l (V.int .u8 (.ofNat 34)::Ig q [V.int .u8 (.ofNat 34)])))
      |false=>none)
     |false=>none)
    |none=>none)
   |false=>none)
  |false=>none)
 |none=>none
theorem abo{f:FuncId}(hF:aj Tryz.prog ah f rH):aj Tryz.prog ah f (fM IY rH):=fast_ok hF fun args h r h2 ok hi e=>by
 unfold IY at e
 split at e
 ·rename_i j n q hat
  obtain rfl:=aDT hat
  split at e
  ·rename_i hlq
   have hlq:=Nat.le_of_ble_eq_true hlq
   split at e
   ·rename_i hw
    split at e
    ·rename_i l hrl
     obtain⟨f,hj⟩:=UG hrl
     split at e
     ·rename_i hl
      have hl:=Nat.eq_of_beq_eq_true hl
      split at e
      ·rename_i hn
       have hn:=Nat.le_of_ble_eq_true hn
       rw [bf,wQ,yO] at e
       cases e
       have hjl:=(ok _ _ hj).1
       obtain⟨r,h1,e1,o1,c1,i1⟩:=aEs (abx hj hl hjl) (by omega) (yj hw)
       have hC:l++bys (34::(q++ [34]))=l++V.int .u8 (Int.ofNat 34)::(bys q++ [V.int .u8 (Int.ofNat 34)]):=by simp [bys]
       rw [hC] at o1
       obtain⟨ρ,er,k⟩:=aj3 (C:=l++V.int .u8 (Int.ofNat 34)::(bys q++ [V.int .u8 (Int.ofNat 34)])) ok hjl (c1.mono fun i _ q=>by cases q;rfl) o1 (by omega) i1 (by rw [←hC];exact qo ((ok _ _ hj).2) (YI _ _))
       refine⟨h1,ρ,by rw [←er];exact e1,k,?_⟩
       have:(yB h j (l++V.int .u8 (Int.ofNat 34)::(bys q++ [V.int .u8 (Int.ofNat 34)]))).next.nat=h.next.nat+1:=iF _ _
       simp only [V.ins,Nat.blt_eq]
       omega
      ·cases e
     ·cases e
    ·cases e
   ·cases e
  ·cases e
 ·cases e
end Go.Proofs.Jm
