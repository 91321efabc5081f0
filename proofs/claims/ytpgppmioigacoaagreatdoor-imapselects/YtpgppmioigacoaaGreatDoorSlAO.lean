/- Part of the value machine, or of a walk by it: lemmas that the claim's last text uses. No conditions. -/
import Derived.Test.YtpgppmioigacoaaGreatDoorSlAN
import Derived.Test.YtpgppmioigacoaaGreatDoorSlAL
import Derived.Test.YtpgppmioigacoaaGreatDoorSlAM
import Derived.Test.YtpgppmioigacoaaGreatDoorSlAK
set_option linter.unusedVariables false
set_option linter.unusedSimpArgs false
set_option linter.unnecessarySimpa false
noncomputable section
namespace Go.Proofs.Ik
open Go Go.Proofs Go.Vm
set_option maxRecDepth 100000
def rdO:Ob:=.cells (.rw 134 true) [.int .i64 4000,.aG,.aG,.int .i64 0,.int .i64 0,.aG,.int .i64 0,.aG,.bool false,.int .i64 0,.bool false]
def aqo(args:List V):Option (V×List Ob):=match args with
 | .int .i64 n:: []=>if n=4000 then some (.ptr (Pos.of aN) 0,[rdO]) else none
 |_=>none
theorem nZ{args:List V}{r:V×List Ob}(e:aqo args=some r):args= [.int .i64 4000]∧r=(.ptr (Pos.of aN) 0,[rdO]):=by
 unfold aqo at e
 split at e
 ·split at e
  ·rename_i h;cases e;exact⟨by rw [h],rfl⟩
  ·cases e
 ·cases e
def l7:Fun:=aHe aN aqo aGb
theorem oI:aJ Tryz.prog aN 40 l7:=aJw (l:= [Pos.of aN]) aO7 fun args r e=>by
 obtain⟨rfl,rfl⟩:=nZ e
 kernel_rfl
theorem oL(h:Hp):l7 [.int .i64 4000] h=.ok (.ptr h.next 0) (h.new rdO):=(rfl)
def wC:List (List Nat)→List V
 | []=> []
 |t::l=>.int .i64 1:: .str t:: .aG::wC l
def wOb(l:List (List Nat)):Ob:=.cells (.rw 149 false) (wC l)
def gC:Pos→List (List (List Nat))→List V
 |_,[]=> []
 |p,l::r=>.int .i64 1:: .slice p 0 l.length (.un 3)::gC p.succ r
def gOb(p:Pos)(l:List (List (List Nat))):Ob:=.cells (.rw 94 false) (gC p l)
def bOb(s:List Nat):Ob:=.bytes (s.map fun c:Nat=>V.int .u8 (c:Int))
def kP(n:Nat):List V:= [.ptr (Pos.of aN) 0,.slice (Pos.of (aN+1)) 0 n (.un 1)]
def mg(l:List (List (List Nat))):List Ob:=l.map wOb++ [gOb (Pos.of (aN+2)) l]
def rcF(l:List (List (List Nat))):V:=.slice (Pos.of (aN+2+l.length)) 0 l.length (.un 2)
def lu(s:List Nat)(l:List (List (List Nat)))(F:Fun):Fun:=aHP aN (kP s.length) [rdO,bOb s] [] (mg l) (rcF l) F
theorem lD{s:List Nat}{l:List (List (List Nat))}{F:Fun}(hF:aJ Tryz.prog aN 41 F){p:List Pos}(hs:aCB aN 2 (kP s.length) [rdO,bOb s] [] (mg l) (rcF l)=true)
  (e:D6 aN (aN+2) (patch ([rdO,bOb s].map some) []++(mg l).map some) p (rcF l) (OL (kP s.length) (mkO aN ([rdO,bOb s].map some)))=true):aJ Tryz.prog aN 41 (lu s l F):=
 aJZ hF hs (Does.comp anD rfl e)
theorem iG{s:List Nat}{l:List (List (List Nat))}{F:Fun}{h:Hp}{i j:Pos}{n:Nat}(hn:n≠s.length):lu s l F [.ptr i 0,.slice j 0 n (.un 1)] h=F [.ptr i 0,.slice j 0 n (.un 1)] h:=by
 unfold lu aHP avA
 have:eqL [.ptr i 0,.slice j 0 n (.un 1)] (apG (tau aN (apZ aN (kP s.length) [.ptr i 0,.slice j 0 n (.un 1)] [])) (kP s.length))=false:=by
  cases hb:eqL [.ptr i 0,.slice j 0 n (.un 1)] (apG (tau aN (apZ aN (kP s.length) [.ptr i 0,.slice j 0 n (.un 1)] [])) (kP s.length)) with
  |false=>rfl
  |true=>
   have:=ane hb
   simp only [kP,apG,V.ren,List.cons.injEq,V.slice.injEq] at this
   exact absurd this.2.1.2.2.1 hn
 dsimp only
 rw [this]
theorem lC{s:List Nat}{l:List (List (List Nat))}{F:Fun}{h:Hp}{i j:Pos}(hi:aN≤i.nat)(hi2:i.nat<h.next.nat)(hj:aN≤j.nat)(hj2:j.nat<h.next.nat)(hij:i≠j)(gi:h.get i=some rdO)(gj:h.get j=some (bOb s))(eb:∀i j:Pos,avK (bOb s) ((bOb s).ren (tau aN [i,j]))=true):
  lu s l F [.ptr i 0,.slice j 0 s.length (.un 1)] h=aDi aN [] (mg l) (rcF l) [i,j] h:=by
 have E3:eqL [.ptr i 0,.slice j 0 s.length (.un 1)] [.ptr i 0,.slice j 0 s.length (.un 1)]=true:=by
  have a:lI (.ptr i 0) (.ptr i 0)=true:=by
   show(match i.eq i with|true=>Nat.beq 0 0|false=>false)=true
   rw [Pos.eq_self];rfl
  have b:lI (.slice j 0 s.length (.un 1)) (.slice j 0 s.length (.un 1))=true:=by
   show(match j.eq j,Nat.beq 0 0,Nat.beq s.length s.length with|true,true,true=>Nat.beq 1 1|_,_,_=>false)=true
   rw [Pos.eq_self,show Nat.beq s.length s.length=true from Nat.beq_refl _];rfl
  simp only [eqL,a,b]
 have E4:aC4 aN h [rdO,bOb s] 0 [i,j]=some [i,j]:=by
  have e1:avK rdO (rdO.ren (tau aN [i,j]))=true:=rfl
  have m1:aP7 aN rdO rdO [i,j]= [i,j]:=rfl
  have m2:aP7 aN (bOb s) (bOb s) [i,j]= [i,j]:=rfl
  have b0:Nat.blt 0 (aDa [i,j])=true:=rfl
  have b1:Nat.blt (Nat.succ 0) (aDa [i,j])=true:=rfl
  have n0:aaS 0 [i,j]=i:=rfl
  have n1:aaS (Nat.succ 0) [i,j]=j:=rfl
  simp only [aC4,b0,b1,n0,n1,gi,gj,m1,m2,e1,eb]
 have E5:okC aN (kP s.length) [rdO,bOb s] [.ptr i 0,.slice j 0 s.length (.un 1)] h [i,j]=true:=by
  have e1:avK rdO (rdO.ren (tau aN [i,j]))=true:=rfl
  have r:apG (tau aN [i,j]) (kP s.length)= [.ptr i 0,.slice j 0 s.length (.un 1)]:=rfl
  unfold okC
  rw [r,E3]
  simp only [aeK,ae0,aC3,auV,gi,gj,e1,eb,Pos.eq_false.2 hij,Nat.ble_eq,Nat.blt_eq,Bool.and_eq_true,Bool.true_and,Bool.and_true,and_true,true_and]
  exact⟨⟨hi,hi2⟩,hj,hj2⟩
 have E:avA aN (kP s.length) [rdO,bOb s] [.ptr i 0,.slice j 0 s.length (.un 1)] h=some [i,j]:=by
  have m:apZ aN (kP s.length) [.ptr i 0,.slice j 0 s.length (.un 1)] []= [i,j]:=rfl
  have r:apG (tau aN [i,j]) (kP s.length)= [.ptr i 0,.slice j 0 s.length (.un 1)]:=rfl
  unfold avA
  rw [m]
  dsimp only
  rw [r,E3,E4]
  dsimp only
  rw [E5]
 unfold lu aHP
 rw [E]
abbrev fsA:List Nat:= [97,32,76,79,71,73,78,32,117,32,112,13,10,98,32,83,69,76,69,67,84,32,73,78,66,79,88,13,10]
abbrev flA:List (List (List Nat)):= [[[97],[76,79,71,73,78],[117],[112]],[[98],[83,69,76,69,67,84],[73,78,66,79,88]]]
def fdA:Fun:=lu fsA flA OL
theorem pq:aJ Tryz.prog aN 41 fdA:=lD (p:= [Pos.of 51,Pos.of 98,Pos.of 100]) anD (by kernel_rfl) (by kernel_rfl)
abbrev fsB:List Nat:= [120,32,83,69,76,69,67,84,32,105,110,66,79,88,13,10]
abbrev flB:List (List (List Nat)):= [[[120],[83,69,76,69,67,84],[105,110,66,79,88]]]
def fdB:Fun:=lu fsB flB fdA
theorem o9:aJ Tryz.prog aN 41 fdB:=lD (p:= [Pos.of 53,Pos.of 55]) pq (by kernel_rfl) (by kernel_rfl)
abbrev fsC:List Nat:= [120,32,69,88,65,77,73,78,69,32,105,110,66,79,88,13,10]
abbrev flC:List (List (List Nat)):= [[[120],[69,88,65,77,73,78,69],[105,110,66,79,88]]]
def fdC:Fun:=lu fsC flC fdB
theorem o7:aJ Tryz.prog aN 41 fdC:=lD (p:= [Pos.of 55,Pos.of 57]) o9 (by kernel_rfl) (by kernel_rfl)
abbrev fsD:List Nat:= [121,32,83,69,76,69,67,84,32,110,111,110,101,13,10,122,32,67,72,69,67,75,13,10]
abbrev flD:List (List (List Nat)):= [[[121],[83,69,76,69,67,84],[110,111,110,101]],[[122],[67,72,69,67,75]]]
def fdD:Fun:=lu fsD flD fdC
theorem oW:aJ Tryz.prog aN 41 fdD:=lD (p:= [Pos.of 51,Pos.of 80,Pos.of 82]) o7 (by kernel_rfl) (by kernel_rfl)
abbrev fsE:List Nat:= [121,32,69,88,65,77,73,78,69,32,110,111,110,101,13,10,122,32,67,72,69,67,75,13,10]
abbrev flE:List (List (List Nat)):= [[[121],[69,88,65,77,73,78,69],[110,111,110,101]],[[122],[67,72,69,67,75]]]
def fdE:Fun:=lu fsE flE fdD
theorem oV:aJ Tryz.prog aN 41 fdE:=lD (p:= [Pos.of 53,Pos.of 82,Pos.of 84]) oW (by kernel_rfl) (by kernel_rfl)
def kJ:Fun:=fdE
theorem ou:aJ Tryz.prog aN 41 kJ:=oV
theorem rD{h:Hp}{i j:Pos}(hi:aN≤i.nat)(hi2:i.nat<h.next.nat)(hj:aN≤j.nat)(hj2:j.nat<h.next.nat)(hij:i≠j)(gi:h.get i=some rdO)(gj:h.get j=some (bOb fsA)):kJ [.ptr i 0,.slice j 0 fsA.length (.un 1)] h=.ok (.slice h.next.succ.succ 0 2 (.un 2)) (((h.new (wOb flA[0])).new (wOb flA[1])).new (gOb h.next flA)):=
 (iG (s:=fsE) (l:=flE) (F:=fdD) (by decide)).trans ((iG (s:=fsD) (l:=flD) (F:=fdC) (by decide)).trans ((iG (s:=fsC) (l:=flC) (F:=fdB) (by decide)).trans ((iG (s:=fsB) (l:=flB) (F:=fdA) (by decide)).trans ((lC (s:=fsA) (l:=flA) hi hi2 hj hj2 hij gi gj fun _ _=>rfl).trans rfl))))
theorem ru{h:Hp}{i j:Pos}(hi:aN≤i.nat)(hi2:i.nat<h.next.nat)(hj:aN≤j.nat)(hj2:j.nat<h.next.nat)(hij:i≠j)(gi:h.get i=some rdO)(gj:h.get j=some (bOb fsB)):kJ [.ptr i 0,.slice j 0 fsB.length (.un 1)] h=.ok (.slice h.next.succ 0 1 (.un 2)) ((h.new (wOb flB[0])).new (gOb h.next flB)):=
 (iG (s:=fsE) (l:=flE) (F:=fdD) (by decide)).trans ((iG (s:=fsD) (l:=flD) (F:=fdC) (by decide)).trans ((iG (s:=fsC) (l:=flC) (F:=fdB) (by decide)).trans ((lC (s:=fsB) (l:=flB) hi hi2 hj hj2 hij gi gj fun _ _=>rfl).trans rfl)))
theorem rq{h:Hp}{i j:Pos}(hi:aN≤i.nat)(hi2:i.nat<h.next.nat)(hj:aN≤j.nat)(hj2:j.nat<h.next.nat)(hij:i≠j)(gi:h.get i=some rdO)(gj:h.get j=some (bOb fsC)):kJ [.ptr i 0,.slice j 0 fsC.length (.un 1)] h=.ok (.slice h.next.succ 0 1 (.un 2)) ((h.new (wOb flC[0])).new (gOb h.next flC)):=
 (iG (s:=fsE) (l:=flE) (F:=fdD) (by decide)).trans ((iG (s:=fsD) (l:=flD) (F:=fdC) (by decide)).trans ((lC (s:=fsC) (l:=flC) hi hi2 hj hj2 hij gi gj fun _ _=>rfl).trans rfl))
theorem qZ{h:Hp}{i j:Pos}(hi:aN≤i.nat)(hi2:i.nat<h.next.nat)(hj:aN≤j.nat)(hj2:j.nat<h.next.nat)(hij:i≠j)(gi:h.get i=some rdO)(gj:h.get j=some (bOb fsD)):kJ [.ptr i 0,.slice j 0 fsD.length (.un 1)] h=.ok (.slice h.next.succ.succ 0 2 (.un 2)) (((h.new (wOb flD[0])).new (wOb flD[1])).new (gOb h.next flD)):=
 (iG (s:=fsE) (l:=flE) (F:=fdD) (by decide)).trans ((lC (s:=fsD) (l:=flD) hi hi2 hj hj2 hij gi gj fun _ _=>rfl).trans rfl)
theorem qY{h:Hp}{i j:Pos}(hi:aN≤i.nat)(hi2:i.nat<h.next.nat)(hj:aN≤j.nat)(hj2:j.nat<h.next.nat)(hij:i≠j)(gi:h.get i=some rdO)(gj:h.get j=some (bOb fsE)):kJ [.ptr i 0,.slice j 0 fsE.length (.un 1)] h=.ok (.slice h.next.succ.succ 0 2 (.un 2)) (((h.new (wOb flE[0])).new (wOb flE[1])).new (gOb h.next flE)):=
 (lC (s:=fsE) (l:=flE) hi hi2 hj hj2 hij gi gj fun _ _=>rfl).trans rfl
end Go.Proofs.Ik

namespace Go.Vm
noncomputable section
variable{h h' g f:Hp}{i j:Pos}{o o':Ob}{S:Pos→Prop}{P:Program}
abbrev Nw(h h':Hp):Prop:=Ch (fun _=>False) h h'
theorem Nw.refl(h:Hp):Nw h h:=Ch.refl _ _
theorem Nw.trans(a:Nw h g)(b:Nw g f):Nw h f:=Ch.trans a b fun _ _ q=>q
theorem Nw.new(h:Hp)(o:Ob):Nw h (h.new o):=Ch.new _ _ _
theorem Nw.ch(c:Nw h g):Ch S h g:=c.mono fun _ _ q=>q.elim
theorem Nw.put(c:Nw h g)(hi:h.next.nat≤i.nat)(x:Option Ob):Nw h (g.put i x):=
 Ch.trans c (Ch.put (S:=fun j=>j=i) g x rfl) fun j hj q=>by rw [q] at hj;omega
theorem Nw.then(c:Nw h g)(d:Ch S g f)(hs:∀j:Pos,j.nat<h.next.nat→S j→False):Nw h f:=Ch.trans c d hs
theorem Ch.nw(c:Ch S h g)(d:Nw g f):Ch S h f:=c.trans d fun _ _ q=>q.elim
def Kn(h:Hp)(i:Pos)(o:Ob):Prop:=h.get i=some o∧i.nat<h.next.nat
theorem Kn.new(h:Hp)(o:Ob):Kn (h.new o) h.next o:=⟨dD _ _,by rw [aZ];omega⟩
theorem Kn.ch(k:Kn h i o)(c:Ch S h g)(hs:¬S i):Kn g i o:=⟨(c.get i k.2 hs).trans k.1,Nat.lt_of_lt_of_le k.2 c.next⟩
theorem Kn.nw(k:Kn h i o)(c:Nw h g):Kn g i o:=k.ch c fun q=>q
theorem Kn.add(k:Kn h i o)(o':Ob):Kn (h.new o') i o:=k.nw (Nw.new _ _)
theorem Kn.put(k:Kn h i o)(o':Ob):Kn (h.put i (some o')) i o':=⟨dJ _ _ _,k.2⟩
theorem Kn.Oi(k:Kn h i o)(hn:i≠j)(x:Option Ob):Kn (h.put j x) i o:=⟨(Go.Vm.Oi h (aCQ hn) x).trans k.1,k.2⟩
theorem Kn.ld{w:Wr}{cs:List V}{q:Nat}{x:V}(k:Kn h i (.cells w cs))(hq:cs[q]?=some x):aF (.ptr i q) h=.ok x h:=by
 rw [gy k.1,hq]
theorem Kn.ldN{w:Wr}{cs:List V}{n:Nat}(k:Kn h i (.cells w cs))(hn:cs.length=n):bW n (.ptr i 0) h=.ok (.agg (V.ofList cs)) h:=by
 show dQ h i _=_
 rw [dP (wr:=w) (all:=cs) (by rw [k.1];rfl),jT,List.drop_zero,←hn,aeB]
theorem Kn.st{t:TypeId}{f:Bool}{cs:List V}{q:Nat}{y:V}(k:Kn h i (.cells (.rw t f) cs))(hy:y.cells= [y]∧gu y=true)(hq:q<cs.length):
  aO 1 (.ptr i q) y h=.ok V.undef (h.put i (some (.cells (.rw t f) (cs.set q y)))):=jO k.1 hy hq
theorem aaN:∀{n:Nat} {x l:List V},x.length=n→l.length=n→jk 0 x l=some x
 |0,[],[],_,_=>rfl
 |n+1,a::x,b::l,hx,hl=>by
  show Option.casesOn (motive:=fun _=>Option (List V)) (jk 0 x l) none (fun r=>some (a::r))=_
  rw [aaN (n:=n) (by simpa using hx) (by simpa using hl)]
 |0,_::_,_,hx,_=>by simp at hx
 |0,[],_::_,_,hl=>by simp at hl
 |n+1,[],_,hx,_=>by simp at hx
 |n+1,_::_,[],_,hl=>by simp at hl
theorem Kn.stN{t:TypeId}{f:Bool}{cs l:List V}{n:Nat}(k:Kn h i (.cells (.rw t f) cs))(hl:l.length=n)(hc:cs.length=n):
  aO n (.ptr i 0) (.agg (V.ofList l)) h=.ok V.undef (h.put i (some (.cells (.rw t f) l))):=by
 rw [qm k.1 rfl (by show Nat.beq (V.ofList l).list.length n=true;rw [V.dF,hl,Nat.beq_refl])]
 show(match jk 0 (V.ofList l).list cs with|some cs'=>R.ok V.undef (h.put i (some (.cells (.rw t f) cs')))|none=>.bad)=_
 rw [V.dF,aaN hl hc]
theorem T.set_set{α:Type}(x y:Option α)(p:Pos)(t:T α):(t.set x p).set y p=t.set y p:=by
 induction p generalizing t with
 |h=>cases t<;>rfl
 |o p ih=>cases t with
  |nil=>exact congrArg (T.node none · .nil) (ih .nil)
  |node v l r=>exact congrArg (T.node v · r) (ih l)
 |i p ih=>cases t with
  |nil=>exact congrArg (T.node none .nil ·) (ih .nil)
  |node v l r=>exact congrArg (T.node v l ·) (ih r)
theorem apW(h:Hp)(o o':Ob):(h.new o).put h.next (some o')=h.new o':=by
 show(⟨_,_⟩:Hp)=⟨_,_⟩
 rw [show(h.new o).t=h.t.set (some o) h.next from rfl,T.set_set];rfl
theorem aAg(t:TypeId)(z:List V)(h:Hp):fC t z h=.ok (.ptr h.next 0) (h.new (.cells (.rw t true) z)):=(rfl)
theorem ahK(t:TypeId)(l:V)(h:Hp):fV t (.agg l) h=.ok (.ptr h.next 0) (h.new (.cells (.rw t true) l.list)):=(rfl)
theorem akv(t:TypeId)(k:IntKind)(n:Int)(h:Hp):fV t (.int k n) h=.ok (.ptr h.next 0) (h.new (.cells (.rw t true) [.int k n])):=(rfl)
theorem au3(t:TypeId)(s:List Nat)(h:Hp):fV t (.str s) h=.ok (.ptr h.next 0) (h.new (.cells (.rw t true) [.str s])):=(rfl)
theorem iF{t:TypeId}{f:Bool}{z:List V}{l:V}{n:Nat}(hr:l.isRow=true)(hl:l.list.length=n)(hz:z.length=n):
  aO n (.ptr h.next 0) (.agg l) (h.new (.cells (.rw t f) z))=.ok V.undef (h.new (.cells (.rw t f) l.list)):=by
 rw [qm (dD h _) rfl (by show Nat.beq l.list.length n=true;rw [hl,Nat.beq_refl])]
 show(match jk 0 l.list z with|some cs'=>R.ok V.undef ((h.new (.cells (.rw t f) z)).put h.next (some (.cells (.rw t f) cs')))|none=>.bad)=_
 rw [aaN hl hz]
 simp only []
 rw [apW]
abbrev El(α:Type):=(Pos→Prop)→Hp→α→List V→Prop
def El.Stable{α:Type}(E:El α):Prop:=∀{P P' S:Pos→Prop} {h h':Hp} {a:α} {cs:List V},E P h a cs→Ch S h h'→(∀j:Pos,j.nat<h.next.nat→P j→P' j∧¬S j)→E P' h' a cs
def flat{α:Type}(c:α→List V):El α:=fun _ _ a cs=>cs=c a
theorem aQ{α:Type}(c:α→List V):(flat c).Stable:=fun e _ _=>e
inductive All2 {α:Type} (R:α→List V→Prop):List α→List (List V)→Prop
 |nil:All2 R [] []
 |cons {a c l cs}:R a c→All2 R l cs→All2 R (a::l) (c::cs)
namespace All2
variable{α:Type}{R Q:α→List V→Prop}{l m:List α}{cs ds:List (List V)}
theorem len(a:All2 R l cs):cs.length=l.length:=by induction a<;>simp [*]
theorem mono(a:All2 R l cs)(hq:∀a c,R a c→Q a c):All2 Q l cs:=by
 induction a with
 |nil=>exact .nil
 |cons r _ ih=>exact .cons (hq _ _ r) ih
theorem append(a:All2 R l cs)(b:All2 R m ds):All2 R (l++m) (cs++ds):=by
 induction a with
 |nil=>exact b
 |cons r _ ih=>exact .cons r ih
theorem get(a:All2 R l cs):∀{k:Nat} {x:α},l[k]?=some x→∃c,cs[k]?=some c∧R x c:=by
 induction a with
 |nil=>intro k x e;simp at e
 |cons r _ ih=>
  intro k x e
  cases k with
  |zero=>simp at e;subst e;exact⟨_,rfl,r⟩
  |succ k=>simp at e;exact ih e
theorem take(a:All2 R l cs):∀n,All2 R (l.take n) (cs.take n):=by
 induction a with
 |nil=>intro n;simp;exact .nil
 |cons r _ ih=>intro n;cases n with
  |zero=>exact .nil
  |succ n=>exact .cons r (ih n)
theorem drop(a:All2 R l cs):∀n,All2 R (l.drop n) (cs.drop n):=by
 induction a with
 |nil=>intro n;simp;exact .nil
 |cons r b ih=>intro n;cases n with
  |zero=>exact .cons r b
  |succ n=>exact ih n
theorem set(a:All2 R l cs):∀{k:Nat} {x:α} {c:List V},R x c→All2 R (l.set k x) (cs.set k c):=by
 induction a with
 |nil=>intro k x c _;simp;exact .nil
 |cons r b ih=>intro k x c e;cases k with
  |zero=>exact .cons e b
  |succ k=>exact .cons r (ih e)
end All2
theorem jv{w:Nat}:∀{cs:List (List V)},(∀c∈cs,c.length=w)→cs.flatten.length=cs.length*w
 | [],_=>by simp
 |c::cs,hw=>by
  rw [List.flatten_cons,List.length_append,hw c (by simp),jv fun d hd=>hw d (by simp [hd]),List.length_cons,Nat.succ_mul];omega
theorem Zh{w:Nat}:∀{cs:List (List V)} {k:Nat} {c:List V},(∀c∈cs,c.length=w)→cs[k]?=some c→(cs.flatten.drop (k*w)).take w=c
 | [],k,c,_,e=>by simp at e
 |d::cs,0,c,hw,e=>by
  simp at e;subst e
  have:=hw d (by simp)
  rw [Nat.zero_mul,List.drop_zero,List.flatten_cons,←this,List.take_left]
 |d::cs,k+1,c,hw,e=>by
  have hd:=hw d (by simp)
  rw [List.flatten_cons,Nat.succ_mul,Nat.add_comm,←List.drop_drop,←hd,List.drop_left,hd]
  exact Zh (fun c hc=>hw c (by simp [hc])) (by simpa using e)
def Rws{α:Type}(P:Pos→Prop)(E:El α)(w:Nat)(h:Hp)(v:V)(l:List α):Prop:=
 ∃css:List (List V),All2 (E P h) l css∧(∀c∈css,c.length=w)∧Sl h.next.nat h w v l.length css.flatten∧jM w v∧∀j,aX v=some j→P j
namespace Rws
variable{α:Type}{P P':Pos→Prop}{E:El α}{w:Nat}{v:V}{l:List α}
theorem ch(r:Rws P E w h v l)(hE:E.Stable)(c:Ch S h h')(hs:∀j:Pos,j.nat<h.next.nat→P j→P' j∧¬S j):Rws P' E w h' v l:=by
 obtain⟨css,a,hw,s,k,p⟩:=r
 exact⟨css,a.mono fun _ _ e=>hE e c hs,hw,(s.ch c (Nat.le_refl _) fun j hj=>(hs j (s.dN hj) (p j hj)).2).le c.next,k,fun j hj=>(hs j (s.dN hj) (p j hj)).1⟩
theorem nw(r:Rws P E w h v l)(hE:E.Stable)(c:Nw h h'):Rws P E w h' v l:=r.ch hE c fun _ _ q=>⟨q,fun q=>q⟩
theorem mono(r:Rws P E w h v l)(hE:E.Stable)(hp:∀j:Pos,j.nat<h.next.nat→P j→P' j):Rws P' E w h v l:=r.ch hE (Nw.refl h) fun j a b=>⟨hp j a b,fun q=>q⟩
theorem len(r:Rws P E w h v l)(g:Hp):aY 2 v g=.ok (.int .i64 (l.length:Int)) g:=by
 obtain⟨css,a,hw,s,k,p⟩:=r
 exact s.length
theorem cell(r:Rws P E w h v l):v.cells= [v]∧gu v=true:=by
 obtain⟨css,a,hw,s,k,p⟩:=r
 exact s.cell
theorem elt(r:Rws P E w h v l){k:Nat}{x:α}(e:l[k]?=some x):
  ∃i q cs,(∀g,bU w v (.int .i64 (k:Int)) g=.ok (.ptr i q) g)∧E P h x cs∧cs.length=w∧i.nat<h.next.nat∧P i∧
   (∀g,g.get i=h.get i→∀f y,cs[f]?=some y→aF (.ptr i (q+f)) g=.ok y g)∧∀g,g.get i=h.get i→bW w (.ptr i q) g=.ok (.agg (V.ofList cs)) g:=by
 obtain⟨css,a,hw,s,kk,p⟩:=r
 obtain⟨c,ec,ex⟩:=a.get e
 have hk:k<l.length:=(List.getElem?_eq_some_iff.1 e).1
 have hc:=hw c (List.mem_of_getElem? ec)
 obtain⟨i,q,e1,hi,e2,e3⟩:=s.atN hk
 have hid:aX v=some i:=by
  have:=e1 h
  rcases s.is with⟨h0,_⟩|⟨i',o,cp,wr,all,rfl,_⟩
  ·omega
  ·rw [zl hk] at this
   cases this;rfl
 rw [Zh hw ec] at e3
 refine⟨i,q,c,e1,ex,hc,hi,p i hid,fun g hg f y hy=>e2 g hg f y ?_ ?_,e3⟩
 ·rw [←hc];exact(List.getElem?_eq_some_iff.1 hy).1
 ·have:=Zh hw ec
  rw [←this,List.getElem?_take,List.getElem?_drop] at hy
  split at hy
  ·exact hy
  ·cases hy
theorem aG(P:Pos→Prop)(E:El α)(w:Nat)(h:Hp):Rws P E w h .aG []:=
 ⟨[],.nil,fun _ q=>(by cases q),⟨by simp,.inl ⟨rfl,.inl rfl⟩⟩,fun _ _ _ _ e=>(by cases e),fun _ e=>(by cases e)⟩
theorem emp(P:Pos→Prop)(E:El α)(w:Nat)(h:Hp):Rws P E w h .emp []:=
 ⟨[],.nil,fun _ q=>(by cases q),⟨by simp,.inl ⟨rfl,.inr rfl⟩⟩,fun _ _ _ _ e=>(by cases e),fun _ e=>(by cases e)⟩
end Rws
def dA{α:Type}(b:Nat)(P:Pos→Prop)(E:El α)(el:TypeId)(w:Nat)(h:Hp)(v:V)(l:List α):Prop:=
 ∃css:List (List V),All2 (E P h) l css∧(∀c∈css,c.length=w)∧Ow b h el w v l.length css.flatten
namespace dA
variable{α:Type}{b:Nat}{P P':Pos→Prop}{E:El α}{el:TypeId}{w:Nat}{v:V}{l:List α}
theorem nil(b:Nat)(P:Pos→Prop)(E:El α)(el:TypeId)(w:Nat)(h:Hp):dA b P E el w h .aG []:=⟨[],.nil,fun _ q=>(by cases q),Ow.nil _ _ _ _⟩
theorem ch(r:dA b P E el w h v l)(hE:E.Stable)(c:Ch S h h')(hv:∀j:Pos,aX v=some j→¬S j)(hs:∀j:Pos,j.nat<h.next.nat→P j→P' j∧¬S j):dA b P' E el w h' v l:=by
 obtain⟨css,a,hw,s⟩:=r
 exact⟨css,a.mono fun _ _ e=>hE e c hs,hw,s.ch c hv⟩
theorem nw(r:dA b P E el w h v l)(hE:E.Stable)(c:Nw h h'):dA b P E el w h' v l:=r.ch hE c (fun _ _ q=>q) fun _ _ q=>⟨q,fun q=>q⟩
theorem mono(r:dA b P E el w h v l)(hE:E.Stable)(hp:∀j:Pos,j.nat<h.next.nat→P j→P' j):dA b P' E el w h v l:=r.ch hE (Nw.refl h) (fun _ _ q=>q) fun j a b=>⟨hp j a b,fun q=>q⟩
theorem rows(r:dA b P E el w h v l)(hE:E.Stable)(hp:∀j:Pos,j.nat<h.next.nat→P j→P' j)(hv:∀j:Pos,b≤j.nat→j.nat<h.next.nat→P' j):Rws P' E w h v l:=by
 obtain⟨css,a,hw,s⟩:=r
 refine⟨css,a.mono fun _ _ e=>hE e (Nw.refl h) fun j hj pj=>⟨hp j hj pj,fun q=>q⟩,hw,s.sl,?_,fun j hj=>hv j (s.dN hj).1 (s.dN hj).2⟩
 intro i q n c e
 rcases s.is with⟨_,e'⟩|⟨_,e',_⟩
 ·rw [e'] at e;cases e
 ·rw [e'] at e;cases e;rfl
theorem len(r:dA b P E el w h v l)(g:Hp):aY 2 v g=.ok (.int .i64 (l.length:Int)) g:=by
 obtain⟨css,a,hw,s⟩:=r
 exact s.sl.length
theorem cell(r:dA b P E el w h v l):v.cells= [v]∧gu v=true:=by
 obtain⟨css,a,hw,s⟩:=r
 exact s.cell
end dA
theorem Ow.base{b b':Nat}{el:TypeId}{sz n:Nat}{v:V}{cs:List V}(s:Ow b h el sz v n cs)(hb:∀j,aX v=some j→b'≤j.nat):Ow b' h el sz v n cs:=⟨s.len,by
 rcases s.is with h0|⟨i,rfl,_,hi,f1,hg⟩
 ·exact .inl h0
 ·exact .inr ⟨i,rfl,hb i rfl,hi,f1,hg⟩⟩
theorem dA.app1{α:Type}{b bt:Nat}{P P':Pos→Prop}{E:El α}{el:TypeId}{w:Nat}{v:V}{l:List α}{x:α}{cs:List V}(r:dA b P E el w h v l)(hE:E.Stable)(hb:b≤h.next.nat)(hc:cs.length=w)
  (hp:∀j:Pos,j.nat<h.next.nat→P j→P' j) (hx:E P' h x cs) (hv:∀j:Pos,j.nat<h.next.nat→P' j→aX v≠some j) (hs:(l.length+1)*bt≤140737488355328):
  ∃v' h',bT el w bt v (.slice h.next 0 1 (.kn 1)) (h.new (.cells (.rw el true) cs))=.ok v' h'∧dA b P' E el w h' v' (l++ [x])∧Ch (fun j=>aX v=some j) h h'∧h'.next.nat=h.next.nat+2∧v'=.slice h.next.succ 0 (l.length+1) (.un w):=by
 obtain⟨css,a,hw,s⟩:=r
 obtain⟨v',h',e,e2,o,c,n⟩:=zq (bt:=bt) (s.base (b':=0) fun _ _=>Nat.zero_le _) hc hs
 refine⟨v',h',e,⟨css++ [cs],?_,?_,?_⟩,c,n,e2⟩
 ·exact(a.mono fun _ _ q=>hE q c fun j hj pj=>⟨hp j hj pj,fun q=>hv j hj (hp j hj pj) q⟩).append (.cons (hE hx c fun j hj pj=>⟨pj,hv j hj pj⟩) .nil)
 ·intro d hd
  rcases List.mem_append.1 hd with q|q
  ·exact hw d q
  ·simp at q;subst q;exact hc
 ·rw [List.flatten_append,List.length_append]
  simp only [List.flatten_cons,List.flatten_nil,List.append_nil,List.length_cons,List.length_nil,Nat.zero_add]
  exact o.base fun j hj=>by rw [e2] at hj;cases hj;rw [Pos.eY];omega
theorem dA.dN{α:Type}{b:Nat}{P:Pos→Prop}{E:El α}{el:TypeId}{w:Nat}{v:V}{l:List α}(r:dA b P E el w h v l){j:Pos}(hj:aX v=some j):b≤j.nat∧j.nat<h.next.nat:=by
 obtain⟨css,a,hw,s⟩:=r
 exact s.dN hj
def Fa(fr:F):List Nat→List V→Prop
 | [],_=>True
 |k::ks,vs=>(match vs with| []=>False|x::vs=>fr.get (Pos.of k)=some x∧Fa fr ks vs)
theorem Fa.set{fr:F}{p:Nat}{x:Option V}:∀{ks:List Nat} {vs:List V},Fa fr ks vs→ks.contains p=false→Fa (T.set x (Pos.of p) fr) ks vs
 | [],_,_,_=>trivial
 |k::ks,[],a,_=>a.elim
 |k::ks,y::vs,a,n=>by
  simp only [List.contains_cons,Bool.or_eq_false_iff] at n
  refine⟨?_,Fa.set a.2 n.2⟩
  rw [tX,if_neg]
  ·exact a.1
  ·intro e;rw [e] at n;simp at n
def Rd{σ:Type}(ks:List Nat)(L:σ→List V)(pi pn k n:Nat)(I:σ→Hp→Prop)(A B:F→Hp→Prop)(id:Nat):Out→Prop
 | .nor fr h=>fr.get (Pos.of pi)=some (.int .i64 (k:Int))∧fr.get (Pos.of pn)=some (.int .i64 (n:Int))∧∃s,Fa fr ks (L s)∧I s h
 | .ret fr h=>B fr h
 | .ex m fr h=>m=id∧A fr h
 | .bad=>False
theorem dY{σ:Type}{id pi pn pc n:Nat}{R5 Bd R8:F→Hp→Out}(ks:List Nat)(L:σ→List V)(I:Nat→σ→Hp→Prop){A B:F→Hp→Prop}{fr:F}{h:Hp}{s:σ}
  (h5:∀fr h,fr.get (Pos.of pi)=fr.get (Pos.of pi)→∀k:Nat,fr.get (Pos.of pi)=some (.int .i64 (k:Int))→fr.get (Pos.of pn)=some (.int .i64 (n:Int))→R5 fr h=.nor (T.set (some (.bool (decide ((k:Int)<(n:Int))))) (Pos.of pc) fr) h)
  (h8:∀fr h,∀k:Nat,k<n→fr.get (Pos.of pi)=some (.int .i64 (k:Int))→R8 fr h=.nor (T.set (some (.int .i64 ((k:Int)+1))) (Pos.of pi) fr) h)
  (hd:(ks.contains pi||ks.contains pc||Nat.beq pi pn||Nat.beq pc pi||Nat.beq pc pn)=false) (hn:n<lf)
  (i0:fr.get (Pos.of pi)=some (.int .i64 0)) (n0:fr.get (Pos.of pn)=some (.int .i64 (n:Int))) (a0:Fa fr ks (L s)) (I0:I 0 s h)
  (step:∀k s fr h,k<n→fr.get (Pos.of pi)=some (.int .i64 (k:Int))→fr.get (Pos.of pn)=some (.int .i64 (n:Int))→Fa fr ks (L s)→I k s h→Rd ks L pi pn k n (I (k+1)) A B id (Bd fr h))
  (fin:∀s fr h,Fa fr ks (L s)→I n s h→A fr h):
  Oc A B (wF id (dI (aB R5 (aB (aV (.tmp pc) Out.nor (Out.ex id)) (aB Bd R8))) lf fr h)):=by
 simp only [Bool.or_eq_false_iff] at hd
 obtain⟨⟨⟨⟨d1,d2⟩,d3⟩,d4⟩,d5⟩:=hd
 have e3:pi≠pn:=Nat.ne_of_beq_eq_false d3
 have e4:pc≠pi:=Nat.ne_of_beq_eq_false d4
 have e5:pc≠pn:=Nat.ne_of_beq_eq_false d5
 refine dR (n:=n) (fun m fr h=>∃(k:Nat) (s:σ),k+m=n∧fr.get (Pos.of pi)=some (.int .i64 (k:Int))∧fr.get (Pos.of pn)=some (.int .i64 (n:Int))∧Fa fr ks (L s)∧I k s h) hn ⟨0,s,by omega,i0,n0,a0,I0⟩ ?_
 rintro m fr h ⟨k,s,hk,fi,fn,fa,hI⟩
 rw [Y1,h5 fr h rfl k fi fn,N8,Y1,akN,tX,if_pos rfl,akG]
 by_cases hlt:k<n
 ·rw [ap3 (by omega),N8,Y1]
  have st:=step k s (T.set (some (.bool (decide ((k:Int)<(n:Int))))) (Pos.of pc) fr) h hlt (by rw [tX,if_neg (Ne.symm e4)];exact fi) (by rw [tX,if_neg (Ne.symm e5)];exact fn) (fa.set d2) hI
  cases hb:Bd (T.set (some (.bool (decide ((k:Int)<(n:Int))))) (Pos.of pc) fr) h with
  |nor fr1 h1=>
   rw [hb] at st
   obtain⟨gi,gn,s1,ga,hI1⟩:=st
   rw [N8,h8 fr1 h1 k hlt gi]
   refine⟨m - 1,by omega,k+1,s1,by omega,?_,?_,ga.set d1,hI1⟩
   ·rw [tX,if_pos rfl];rfl
   ·rw [tX,if_neg (Ne.symm e3)];exact gn
  |ret fr1 h1=>rw [hb] at st;exact st
  |ex q fr1 h1=>rw [hb] at st;exact st
  |bad=>rw [hb] at st;exact st.elim
 ·rw [ap4 (by omega)]
  have hkn:k=n:=by omega
  subst hkn
  exact⟨rfl,fin s _ h (fa.set d2) hI⟩
end
end Go.Vm
namespace Go.Vm
noncomputable section
variable{h:Hp}
theorem sV:aI .eql .slice .aG .aG h=.ok (.bool true) h:=(rfl)
theorem sQ(el:TypeId)(h:Hp):apQ el h=.ok (.slice h.next 0 0 (.kn 0)) (h.new (.cells (.rw el true) [])):=(rfl)
theorem UM{el:TypeId}{sz bt b o n:Nat}{i:Pos}{cp:Cap}{x:V}(s:Sl b h sz x 0 []):bT el sz bt (.slice i o n cp) x h=.ok (.slice i o n cp) h:=by
 unfold bT
 rw [s.src]
theorem aAu{l:List V}(h:l.length=1):∃y,l= [y]:=by
 match l,h with
 | [y],_=>exact⟨y,rfl⟩
theorem take_snoc{α:Type}{l:List α}{k:Nat}{a:α}(e:l[k]?=some a):l.take (k+1)=l.take k++ [a]:=by rw [List.take_add_one,e];rfl
def iH:Option Nat→Int
 |some k=>(k:Int)
 |none=> -1
theorem tZ{α:Type}{p:α→Bool}{l:List α}{k:Nat}{x:α}(hx:l[k]?=some x)(hno:(l.take k).findIdx? p=none)(hp:p x=true):l.findIdx? p=some k:=by
 have hk:=(List.getElem?_eq_some_iff.1 hx).1
 have hxe:=(List.getElem?_eq_some_iff.1 hx).2
 rw [List.findIdx?_eq_some_iff_getElem]
 refine⟨hk,by rw [hxe];exact hp,fun j hj=>?_⟩
 have:=List.findIdx?_eq_none_iff.1 hno (l[j]'(by omega)) (by
  rw [List.mem_take_iff_getElem]
  exact⟨j,by omega,rfl⟩)
 simpa using this
theorem KE{α:Type}(p:α→Bool)(l:List α):decide (iH (l.findIdx? p)≥0)=l.any p:=by
 cases hq:l.findIdx? p with
 |none=>
  rw [List.findIdx?_eq_none_iff] at hq
  rw [Bool.eq_iff_iff]
  simp [iH,List.any_eq_true]
  exact hq
 |some k=>
  obtain⟨hk,hp,_⟩:=List.findIdx?_eq_some_iff_getElem.1 hq
  rw [Bool.eq_iff_iff]
  simp only [iH,decide_eq_true_eq,List.any_eq_true]
  exact⟨fun _=>⟨l[k],List.getElem_mem hk,hp⟩,fun _=>decide_eq_true (Int.natCast_nonneg k)⟩
theorem Rws.zero{α:Type}{b w:Nat}{c:α→List V}{el:TypeId}(hb:b≤h.next.nat):Rws (fun j=>b≤j.nat) (flat c) w (h.new (.cells (.rw el true) [])) (.slice h.next 0 0 (.kn 0)) ([]:List α):=
 ⟨[],.nil,fun _ q=>(by cases q),⟨by simp,.inr ⟨h.next,0,_,.rw el true,[],rfl,by rw [aZ];omega,by rw [dD];rfl,fun k hk=>by simp at hk⟩⟩,fun i o n c e=>by cases e;exact Nat.le_refl _,fun j hj=>by cases hj;exact hb⟩
end
end Go.Vm
namespace Go.Vm
noncomputable section
theorem aAm(n:Nat)(x:V)(h:Hp):fK (.func n) [] [x] h=.ok (.func (.func n) .nil (.cons x .nil)) h:=(rfl)
theorem aAl(n:Nat)(x y:V)(h:Hp):fK (.func n) [] [x,y] h=.ok (.func (.func n) .nil (.cons x (.cons y .nil))) h:=(rfl)
theorem aAk(n:Nat)(x y z:V)(h:Hp):fK (.func n) [] [x,y,z] h=.ok (.func (.func n) .nil (.cons x (.cons y (.cons z .nil)))) h:=(rfl)
theorem aAn(n:Nat)(h:Hp):fK (.func n) [] [] h=.ok (.func (.func n) .nil .nil) h:=(rfl)
theorem vqK:type_of% @aAg∧type_of% @ahK∧type_of% @akv∧type_of% @au3∧type_of% @aAm∧type_of% @aAl∧type_of% @aAk∧type_of% @aAn∧type_of% @sQ:=
 ⟨@aAg,@ahK,@akv,@au3,@aAm,@aAl,@aAk,@aAn,@sQ⟩
end
end Go.Vm
namespace Go.Vm
noncomputable section
variable{h g:Hp}{p:Pos}
def V.noF:V→Bool
 | .func _ _ _=>false
 | .iface _ v=>v.noF
 | .agg v=>v.noF
 | .tuple v=>v.noF
 | .cons a b=>a.noF&&b.noF
 |_=>true
theorem amz:∀s:List Nat,jX s s=true
 | []=>rfl
 |a::s=>by simp only [jX,Nat.beq_refl];exact amz s
theorem akK:∀{v:V},v.noF=true→eqV v v=true:=by
 intro v
 induction v with
 |bool b=>intro _;cases b<;>rfl
 |int k n=>intro _;exact aAG k n
 |str s=>intro _;exact amz s
 |ptr i o=>intro _;show(match i.eq i with|true=>Nat.beq o o|false=>false)=true;rw [Pos.eq_self,Nat.beq_refl]
 |slice i o n c=>intro _;cases c<;>simp only [eqV,Pos.eq_self,Nat.beq_refl]
 |map i=>intro _;exact Pos.eq_self i
 |func fn a b=>intro hf;cases hf
 |iface t v ih=>intro hf;show(match Nat.beq t t with|true=>eqV v v|false=>false)=true;rw [Nat.beq_refl];exact ih hf
 |agg v ih=>intro hf;exact ih hf
 |tuple v ih=>intro hf;exact ih hf
 |cons a b iha ihb=>
  intro hf
  have hf':(a.noF&&b.noF)=true:=hf
  rw [Bool.and_eq_true] at hf'
  show(match eqV a a with|true=>eqV b b|false=>false)=true
  rw [iha hf'.1];exact ihb hf'.2
 |_=>intro _;rfl
theorem Sl.noF{b sz n:Nat}{v:V}{cs:List V}(s:Sl b h sz v n cs):v.noF=true:=by
 rcases s.is with⟨_,rfl|rfl⟩|⟨i,o,c,wr,all,rfl,_⟩<;>rfl
theorem Rws.noF{α:Type}{P:Pos→Prop}{E:El α}{w:Nat}{v:V}{l:List α}(r:Rws P E w h v l):v.noF=true:=by
 obtain⟨css,a,hw,s,k,p⟩:=r
 exact s.noF
theorem Bl{m:Hp→R V}{v:V}{k:Out}{g g':Hp}(hv:v.noF=true)(e:m g=.ok v g'):chk m v k 1 [g]=k:=zo e (akK hv)
theorem av2{m:Hp→R V}{v:V}{k:Out}{g g' f f':Hp}(hv:v.noF=true)(e:m g=.ok v g')(e2:m f=.ok v f'):chk m v k 2 [g,f]=k:=aAV e e2 (akK hv)
theorem azf{w:Wr}{cs:List V}{q:Nat}{n:Int}(k:Kn h p (.cells w cs))(hq:cs[q]?=some (.int .i64 n)):abh .i64 [.ptr p q] h=.ok (.int .i64 n) h:=by
 show dQ h p (fun _ cs=>match AZ q cs with|some v=>(match v with| .int k' n=>(match WL .i64 k' with|true=>R.ok (V.int .i64 n) h|false=>.bad)|_=>.bad)|none=>.bad)=_
 rw [dP (wr:=w) (all:=cs) (by rw [k.1];rfl),nK,hq];rfl
theorem av9{t:TypeId}{f:Bool}{cs:List V}{q:Nat}{n:Int}(k:Kn h p (.cells (.rw t f) cs))(hq:q<cs.length):Ot [.ptr p q,.int .i64 n] h=.ok V.undef (h.put p (some (.cells (.rw t f) (cs.set q (.int .i64 n))))):=by
 show dQ h p (fun wr cs=>(match wr with
   | .rw t f=>(match jk q [.int .i64 n] cs with|some cs'=>R.ok V.undef (h.put p (some (.cells (.rw t f) cs')))|none=>.bad)
   | .ro=>.bad))=_
 rw [dP (wr:=.rw t f) (all:=cs) (by rw [k.1];rfl)]
 simp only [Ut hq]
theorem aDE{t:TypeId}{f:Bool}{cs:List V}{q:Nat}{n m:Int}(k:Kn h p (.cells (.rw t f) cs))(hq:cs[q]?=some (.int .i64 n))(h1: -9223372036854775808≤n+m)(h2:n+m<9223372036854775808):
  Zn .i64 [.ptr p q,.int .i64 m] h=.ok (.int .i64 (n+m)) (h.put p (some (.cells (.rw t f) (cs.set q (.int .i64 (n+m)))))):=by
 have hlt:q<cs.length:=(List.getElem?_eq_some_iff.1 hq).1
 have e:iw .i64 (xq .i64 (n+m)) h=.ok (.int .i64 (n+m)) h:=by rw [AU,wrap_in h1 h2,fP]
 show dQ h p (fun wr cs=>(match AZ q cs with
   |some v=>(match v with
    | .int k' n=>(match WL .i64 k',WL .i64 .i64 with
     |true,true=>(match wr with
      | .rw t f=>(match iw .i64 (xq .i64 (n+m)) h with
       | .ok s _=>(match jk q [s] cs with|some cs'=>R.ok s (h.put p (some (.cells (.rw t f) cs')))|none=>.bad)
       | .bad=>.bad)
      | .ro=>.bad)
     |_,_=>.bad)
    |_=>.bad)
   |none=>.bad))=_
 rw [dP (wr:=.rw t f) (all:=cs) (by rw [k.1];rfl),nK,hq]
 show(match iw .i64 (xq .i64 (n+m)) h with
       | .ok s _=>(match jk q [s] cs with|some cs'=>R.ok s (h.put p (some (.cells (.rw t f) cs')))|none=>.bad)
       | .bad=>.bad)=_
 rw [e]
 simp only [Ut hlt]
end
end Go.Vm
namespace Go.Vm
noncomputable section
variable{h h' g:Hp}{α:Type}{b bt:Nat}{E:El α}{el:TypeId}{w:Nat}{v:V}{l:List α}{x:α}{cs:List V}
abbrev gY(b:Nat)(E:El α)(el:TypeId)(w:Nat)(h:Hp)(v:V)(l:List α):Prop:=dA b (fun j=>b≤j.nat∧aX v≠some j) E el w h v l
theorem gY.app{P0:Pos→Prop}(r:gY b E el w h v l)(hE:E.Stable)(hb:b≤h.next.nat)(hc:cs.length=w)(hx:E P0 h x cs)(hp:∀j:Pos,j.nat<h.next.nat→P0 j→b≤j.nat∧aX v≠some j)(hs:(l.length+1)*bt≤140737488355328):
  ∃v' h',bT el w bt v (.slice h.next 0 1 (.kn 1)) (h.new (.cells (.rw el true) cs))=.ok v' h'∧gY b E el w h' v' (l++ [x])∧Ch (fun j=>aX v=some j) h h'∧h'.next.nat=h.next.nat+2∧v'=.slice h.next.succ 0 (l.length+1) (.un w):=by
 obtain⟨v',h',e,o,c,n,rfl⟩:=dA.app1 (P':=fun j=>(b≤j.nat∧aX v≠some j)∧j.nat<h.next.nat) (bt:=bt) (x:=x) (cs:=cs) r hE hb hc (fun j hj pj=>⟨pj,hj⟩)
  (hE hx (Nw.refl h) fun j hj pj=>⟨⟨hp j hj pj,hj⟩,fun q=>q⟩) (fun j _ pj=>pj.1.2) hs
 refine⟨_,h',e,o.mono hE fun j _ pj=>⟨pj.1.1,fun q=>?_⟩,c,n,rfl⟩
 injection q with q
 have:=congrArg Pos.nat q
 rw [Pos.eY] at this
 have:=pj.2
 omega
theorem gY.nil(b:Nat)(E:El α)(el:TypeId)(w:Nat)(h:Hp):gY b E el w h .aG []:=dA.nil _ _ _ _ _ _
theorem gY.nw(r:gY b E el w h v l)(hE:E.Stable)(c:Nw h h'):gY b E el w h' v l:=dA.nw r hE c
theorem gY.rws(r:gY b E el w h v l)(hE:E.Stable):Rws (fun j=>b≤j.nat) E w h v l:=dA.rows r hE (fun _ _ q=>q.1) fun _ q _=>q
theorem Nw.own(c:Nw g h)(d:Ch (fun j=>aX v=some j) h h')(hv:∀j,aX v=some j→g.next.nat≤j.nat):Nw g h':=c.then d fun j hj q=>by have:=hv j q;omega
end
end Go.Vm
namespace Go.Vm
noncomputable section
variable{h h':Hp}{i:Pos}{o:Ob}{α:Type}
theorem Kn.bump(k:Kn h i o)(n:Nat):Kn (aH n h) i o:=⟨k.1,by rw [qp];have:=k.2;omega⟩
theorem Nw.bump(n:Nat)(h:Hp):Nw h (aH n h):=Ch.aH _ n h
theorem dA.awc{b bt:Nat}{c:α→List V}{el:TypeId}{w:Nat}{v:V}{l:List α}{x:α}(r:dA b (fun _=>False) (flat c) el w h v l)(hb:b≤h.next.nat)(hc:(c x).length=w)(hs:(l.length+1)*bt≤140737488355328):
  ∃v' h',bT el w bt v (.slice h.next 0 1 (.kn 1)) (h.new (.cells (.rw el true) (c x)))=.ok v' h'∧dA b (fun _=>False) (flat c) el w h' v' (l++ [x])∧Ch (fun j=>aX v=some j) h h'∧h'.next.nat=h.next.nat+2∧(∀j,aX v'=some j→h.next.nat≤j.nat):=by
 obtain⟨v',h',e,o,c',n,rfl⟩:=dA.app1 (P':=fun _=>False) (bt:=bt) (x:=x) r (aQ _) hb hc (fun _ _ q=>q) rfl (fun _ _ q=>q.elim) hs
 exact⟨_,h',e,o,c',n,fun j q=>by injection q with q;rw [←q,Pos.eY];omega⟩
theorem dA.aNp{b:Nat}{c:α→List V}{el:TypeId}{w:Nat}{v:V}{l:List α}(r:dA b (fun _=>False) (flat c) el w h v l):Rws (fun _=>True) (flat c) w h v l:=r.rows (aQ _) (fun _ _ q=>q.elim) fun _ _ _=>trivial
end
end Go.Vm
namespace Go.Vm
noncomputable section
variable{h:Hp}{i:Pos}{α:Type}
theorem All2.flat{P:Pos→Prop}{c:α→List V}{l:List α}{css:List (List V)}(a:All2 (Go.Vm.flat c P h) l css):css=l.map c:=by
 induction a with
 |nil=>rfl
 |cons r _ ih=>rw [ih,List.map_cons];rw [show _=c _ from r]
theorem dA.open{b:Nat}{P:Pos→Prop}{c:α→List V}{el:TypeId}{w:Nat}{v:V}{l:List α}(r:dA b P (flat c) el w h v l)(hl:l≠ []):
  ∃i f,v=.slice i 0 l.length (.un w)∧b≤i.nat∧Kn h i (.cells (.rw el f) (l.map c).flatten):=by
 obtain⟨css,a,hw,s⟩:=r
 rcases s.is with⟨h0,_⟩|⟨i,e,hb,hi,f,hg⟩
 ·exact absurd (List.length_eq_zero_iff.1 h0) hl
 ·exact⟨i,f,e,hb,by rw [←a.flat];exact⟨hg,hi⟩⟩
theorem dA.mk{b:Nat}{P:Pos→Prop}{c:α→List V}{el:TypeId}{w:Nat}{l:List α}{f:Bool}(hw:∀x,(c x).length=w)(hb:b≤i.nat)(k:Kn h i (.cells (.rw el f) (l.map c).flatten)):dA b P (flat c) el w h (.slice i 0 l.length (.un w)) l:=by
 have hws:∀d∈l.map c,d.length=w:=fun d hd=>by obtain⟨x,_,rfl⟩:=List.mem_map.1 hd;exact hw x
 refine⟨l.map c,?_,hws,by rw [jv hws,List.length_map],.inr ⟨i,rfl,hb,k.2,f,k.1⟩⟩
 clear k hws
 induction l with
 |nil=>exact .nil
 |cons a l ih=>exact .cons rfl ih
theorem aaZ{c:α→V}(l:List α):(l.map fun x=> [c x]).flatten=l.map c:=by
 induction l with
 |nil=>rfl
 |cons a l ih=>simp [ih]
def ltI(a b:Int):Bool:=decide (a<b)
def abf(lt:α→α→Bool):Nat→List α→List α
 |0,l=>l
 |j+1,l=>(match l[j+1]?,l[j]? with
  |some x,some y=>(match lt x y with|true=>abf lt j ((l.set (j+1) y).set j x)|false=>l)
  |_,_=>l)
def iP(lt:α→α→Bool):Nat→List α→List α
 |0,l=>l
 |i+1,l=>abf lt i (iP lt i l)
theorem av6(lt:α→α→Bool):∀(j:Nat) (l:List α),(abf lt j l).length=l.length
 |0,l=>rfl
 |j+1,l=>by
  unfold abf
  split
  ·split
   ·rw [av6 lt j];simp
   ·rfl
  ·rfl
theorem Dq(lt:α→α→Bool):∀(i:Nat) (l:List α),(iP lt i l).length=l.length
 |0,l=>rfl
 |i+1,l=>by show(abf lt i (iP lt i l)).length=_;rw [av6,Dq lt i]
theorem aaW(lt:α→α→Bool){l:List α}(h:l.length≤1):iP lt l.length l=l:=by
 match l,h with
 | [],_=>rfl
 | [a],_=>rfl
end
end Go.Vm
namespace Go.Vm
theorem Oc.out{A B:F→Hp→Prop}{o:Out}{Q:Out→Prop}(ho:Oc A B o)(hA:∀fr h,A fr h→Q (.nor fr h))(hB:∀fr h,B fr h→Q (.ret fr h)):Q o:=by
 cases o with
 |nor fr h=>exact hA fr h ho
 |ret fr h=>exact hB fr h ho
 |ex i fr h=>exact ho.elim
 |bad=>exact ho.elim
end Go.Vm
namespace Go.Vm
noncomputable section
theorem au5{c:EqC}{h:Hp}(a b:List Nat):aI .lss c (.str a) (.str b) h=.ok (.bool (lF a b)) h:=by
 show fM (lF a b) h=_
 rw [gm]
end
end Go.Vm
namespace Go.Vm
noncomputable section
theorem aAU(a b:F→Hp→Out)(fr:F)(h:Hp):aV (.const (.bool false)) a b fr h=b fr h:=(rfl)
theorem aAT(a b:F→Hp→Out)(fr:F)(h:Hp):aV (.const (.bool true)) a b fr h=a fr h:=(rfl)
theorem aKs{Q:Out→Prop}{s:List Nat}{n:Nat}{k:V→Hp→Out}{h:Hp}{kd:IntKind}(hl:Nat.blt n s.length=true)(ha:(s.all fun a=>Nat.ble a 8)=true)(hb:((s.drop 1).all fun a=>Nat.ble 1 a)=true)(hk:∀a:Nat,a≤8→(0<n→1≤a)→Q (k (.int .u8 (a:Int)) h)):Q (aA (dG (.str s) (.int kd (n:Int)) h) k):=by
 have hl':n<s.length:=by simpa [Nat.blt_eq] using hl
 rw [jl (List.getElem?_eq_getElem hl'),aqk]
 refine hk _ (Nat.le_of_ble_eq_true (List.all_eq_true.1 ha _ (List.getElem_mem hl'))) fun h0=>Nat.le_of_ble_eq_true (List.all_eq_true.1 hb _ ?_)
 have e:(s.drop 1)[n - 1]?=some s[n]:=by rw [List.getElem?_drop,show 1+(n - 1)=n by omega];exact List.getElem?_eq_getElem hl'
 exact List.mem_of_getElem? e
end
end Go.Vm
namespace Go.Vm
noncomputable section
variable{h h':Hp}{i:Pos}{α:Type}
theorem avH{w f:Nat}{y:V}:∀{cs:List (List V)} {k:Nat} {c:List V},(∀c∈cs,c.length=w)→cs[k]?=some c→f<w→cs.flatten.set (k*w+f) y=(cs.set k (c.set f y)).flatten
 | [],k,c,_,e,_=>by simp at e
 |d::cs,0,c,hw,e,hf=>by
  simp at e;subst e
  have hd:=hw d (by simp)
  rw [Nat.zero_mul,Nat.zero_add,List.flatten_cons,List.set_append_left _ _ (by omega)]
  rfl
 |d::cs,k+1,c,hw,e,hf=>by
  have hd:=hw d (by simp)
  rw [List.flatten_cons,List.set_append_right _ _ (by rw [hd,Nat.succ_mul];omega),hd,show(k+1)*w+f - w=k*w+f by rw [Nat.succ_mul];omega]
  rw [avH (fun c hc=>hw c (by simp [hc])) (by simpa using e) hf]
  rfl
def XK(v:V)(n:Nat):Prop:=(v=.aG∧n=0)∨∃i,v=.slice i 0 n (.kn n)
theorem aqm{P P':Pos→Prop}{c:α→List V}{el:TypeId}{w bt:Nat}{v x:V}{l m:List α}(r:Rws P (flat c) w h v l)(hf:XK v l.length)(t:Rws P' (flat c) w h x m)(hm:m≠ [])(hs:(l.length+m.length)*bt≤140737488355328):
  ∃v' h',bT el w bt v x h=.ok v' h'∧dA h.next.nat (fun _=>False) (flat c) el w h' v' (l++m)∧Nw h h':=by
 obtain⟨css,a,hw,s,-,-⟩:=r
 obtain⟨dss,b,hd,t,-,-⟩:=t
 have hmp:0<m.length:=List.length_pos_iff.2 hm
 have ow:dA h.next.nat (fun _=>False) (flat c) el w (h.new (.cells (.rw el false) (css.flatten++dss.flatten))) (.slice h.next 0 (l.length+m.length) (.un w)) (l++m):=by
  refine⟨css++dss,a.append b,fun d hd'=>(List.mem_append.1 hd').elim (hw d) (hd d),?_⟩
  rw [List.flatten_append,List.length_append]
  exact⟨by rw [List.length_append,s.len,t.len,Nat.add_mul],.inr ⟨h.next,rfl,Nat.le_refl _,by rw [aZ];omega,false,dD _ _⟩⟩
 refine⟨.slice h.next 0 (l.length+m.length) (.un w),_,?_,ow,Nw.new _ _⟩
 unfold bT
 rw [t.src]
 rcases hf with⟨rfl,h0⟩|⟨i,rfl⟩
 ·have hc:css.flatten= []:=List.length_eq_zero_iff.1 (by rw [s.len,h0];simp)
  rw [hc,List.nil_append,h0,Nat.zero_add]
  cases hml:m.length with
  |zero=>omega
  |succ q=>simp only [];rw [vG (by rw [h0,Nat.zero_add,hml] at hs;exact hs)]
 ·rcases s.is with⟨h0,e|e⟩|⟨i',o,cp,wr,all,e,hi,hg,ha⟩
  ·cases e
  ·cases e
  ·cases e
   have htk:gB (l.length*w) (fG 0 all)=some css.flatten:=ve ha s.len
   cases hml:m.length with
   |zero=>omega
   |succ q=>
    simp only []
    rw [dP hg]
    simp only [dB]
    rw [show Nat.ble (l.length+(q+1)) l.length=false by rw [←Bool.not_eq_true,Nat.ble_eq];omega]
    simp only [htk]
    rw [vG (by rw [←hml];exact hs)]
end
end Go.Vm
namespace Go.Vm
theorem ahz(h:Hp)(i:Pos)(o o':Option Ob):(h.put i o).put i o'=h.put i o':=by
 show(⟨_,_⟩:Hp)=⟨_,_⟩
 rw [show(h.put i o).t=h.t.set o i from rfl,T.set_set];rfl
end Go.Vm
namespace Go.Vm
end Go.Vm
namespace Go.Vm
noncomputable section
end
end Go.Vm
namespace Go.Vm
theorem vvB:type_of% vvA∧type_of% vqK∧type_of% @aAU∧type_of% @aAT:=⟨vvA,vqK,@aAU,@aAT⟩
theorem qK0{p:Prop}(h:p:=by simp only [vvB,Nat.reduceEqDiff,reduceCtorEq,↓reduceIte]):p:=h
theorem qK1{p:Prop}(h:p:=by simp only [vvB,Nat.reduceEqDiff,reduceCtorEq,↓reduceIte]<;>rfl):p:=h
theorem qK2{p q:Prop}(f:q)(h:q→p:=by intro f;simp only [vvB,Nat.reduceEqDiff,reduceCtorEq,↓reduceIte,f]):p:=h f
theorem qK3{p q:Prop}(f:q)(h:q→p:=by intro f;simp only [vvB,Nat.reduceEqDiff,reduceCtorEq,↓reduceIte,f]<;>rfl):p:=h f
theorem qT0{p:Prop}(h:p:=by simp only [bD,vvB,Nat.reduceEqDiff,reduceCtorEq,↓reduceIte,bF]<;>rfl):p:=h
theorem qT1{p q:Prop}(f:q)(h:q→p:=by intro f;simp only [bD,vvB,Nat.reduceEqDiff,reduceCtorEq,↓reduceIte,f,bF]<;>rfl):p:=h f
theorem mkW(h:Hp)(o:Ob):∃h',h'=h.new o∧Nw h h'∧Kn h' h.next o:=⟨_,rfl,Nw.new _ _,Kn.new _ _⟩
end Go.Vm

noncomputable section
namespace Go.Im
open Go Go.Vm
structure Bx where
 id:Int
 name:List Nat
 par:Int
 valid:Int
 next:Int
 mod:Int
structure Ml where
 id:Int
 thread:Int
 text:List Nat
 at_:Int
 keys:List (List Nat)
 mem:List (Int×Int)
 mod:Int
 born:Int
structure En where
 mod:Int
 kind:Int
 id:Int
 how:Int
structure Acc where
 clock:Int
 boxes:List Bx
 mails:List Ml
 ents:List En
 floor:Int
 lastBox:Int
 lastId:Int
 octets:Int
abbrev iV(n:Int):V:=.int .i64 n
def fQ(b:Bx):List V:= [iV b.id,.str b.name,iV b.par,iV b.valid,iV b.next,iV b.mod]
def iI(e:En):List V:= [iV e.mod,iV e.kind,iV e.id,iV e.how]
def iY(m:Int×Int):List V:= [iV m.1,iV m.2]
def jH(s:List Nat):List V:= [.str s]
def iD(n:Int):List V:= [iV n]
def dM(m:Ml)(vk vm:V):List V:= [iV m.id,iV m.thread,.str m.text,iV m.at_,vk,vm,iV m.mod,iV m.born]
def kG:El Ml:=fun P h m cs=>∃vk vm,cs=dM m vk vm∧Rws P (flat jH) 1 h vk m.keys∧Rws P (flat iY) 2 h vm m.mem
theorem dw:kG.Stable:=fun⟨vk,vm,e,a,b⟩ c hs=>⟨vk,vm,e,a.ch (aQ _) c hs,b.ch (aQ _) c hs⟩
def stC(A:Acc)(ib:Pos)(cb:Cap)(vm:V)(pl:Pos):List V:=
 [.str [117],.str [112],iV 1000,iV 100,iV 1048576,iV 1073741824,iV 1073741824,iV 10000,iV 200,iV A.clock,.slice ib 0 A.boxes.length cb,vm,.ptr pl 0,iV A.lastBox,iV A.lastId,iV A.octets]
def aIK(tM:TypeId)(I:Pos→Prop)(h:Hp)(v:V)(l:List Ml):Prop:=
 ∃css,All2 (kG I h) l css∧(∀c∈css,c.length=8)∧((l= []∧v=.aG)∨∃i f rest,v=.slice i 0 l.length (.un 8)∧Kn h i (.cells (.rw tM f) (css.flatten++rest)))
structure AccR (tS tL tB tM tE:TypeId) (h:Hp) (F:Pos→Prop) (ps:Pos) (A:Acc) (pl ib:Pos) (cb:Cap) (fb:Bool) (vm vl:V) (I:Pos→Prop):Prop where
 st:Kn h ps (.cells (.rw tS true) (stC A ib cb vm pl))
 lg:Kn h pl (.cells (.rw tL true) [iV 10000,vl,iV A.floor])
 bx:Kn h ib (.cells (.rw tB fb) (A.boxes.map fQ).flatten)
 cap:jM 6 (.slice ib 0 A.boxes.length cb)
 ml:aIK tM I h vm A.mails
 en:dA 0 (fun _=>False) (flat iI) tE 4 h vl A.ents
 ne:ps≠pl∧ps≠ib∧pl≠ib
 nm:∀j,aX vm=some j→j≠ps∧j≠pl∧j≠ib∧aX vl≠some j
 nl:∀j,aX vl=some j→j≠ps∧j≠pl∧j≠ib
 inn:∀j,I j→F j∧j≠ps∧j≠pl∧j≠ib∧aX vm≠some j∧aX vl≠some j
 foot:F ps∧F pl∧F ib∧(∀j,aX vm=some j→F j)∧∀j,aX vl=some j→F j
 lt:∀j,F j→j.nat<h.next.nat
 enil:A.ents= []→vl=.aG
structure Acc.Small (A:Acc):Prop where
 clock:0≤A.clock∧A.clock<1000000
 boxes:0<A.boxes.length∧A.boxes.length≤1000
 mails:A.mails.length≤1000
 ents:A.ents.length≤9000
 each:∀m∈A.mails,m.keys.length≤1000∧m.mem.length≤1000
end Go.Im

noncomputable section
namespace Go.Proofs.Im
open Go Go.Proofs Go.Vm Go.Ln
set_option maxRecDepth 100000
def wds:List (List Nat)→Wds
 | []=>.nil
 |t::l=>.cons 1 t .nil (wds l)
def jR(l:List (List (List Nat))):List Ln.Got:=l.map fun w=>⟨1,wds w⟩
variable{P:Pos→Prop}{h:Hp}{p:Pos}{a b:List (List Nat)}
theorem nO:∀l:List (List Nat),WAt P h (wds l) (Ik.wC l)
 | []=>rfl
 |t::l=>⟨.aG,[],Ik.wC l,rfl,Ow.nil _ _ _ _,fun j e=>(by cases e),rfl,nO l⟩
theorem lX:∀l:List (List Nat),(wds l).len=l.length
 | []=>rfl
 |_::l=>congrArg (· +1) (lX l)
theorem nR:∀l:List (List Nat),(Ik.wC l).length=l.length*3
 | []=>rfl
 |_::l=>by rw [List.length_cons,Nat.succ_mul,←nR l];rfl
theorem lN(k:Kn h p (Ik.wOb a))(hp:P p):jI P h (.slice p 0 a.length (.un 3)) (wds a):=
 ⟨Ik.wC a,⟨by rw [lX,nR],.inr ⟨p,by rw [lX],Nat.zero_le _,k.2,false,k.1⟩⟩,fun j e=>by cases e;exact hp,nO a⟩
theorem pF(hp:P h.next)(hq:P h.next.succ):Told P ((h.new (Ik.wOb a)).new (Ik.gOb h.next [a])) (.slice h.next.succ 0 1 (.un 2)) (jR [a]):=
 have k:=Kn.new (h.new (Ik.wOb a)) (Ik.gOb h.next [a])
 ⟨_,⟨rfl,.inr ⟨h.next.succ,rfl,Nat.zero_le _,k.2,false,k.1⟩⟩,fun j e=>by cases e;exact hq,_,_,rfl,lN ((Kn.new h (Ik.wOb a)).add _) hp,rfl⟩
theorem nI(hp:P h.next)(hq:P h.next.succ)(hr:P h.next.succ.succ):Told P (((h.new (Ik.wOb a)).new (Ik.wOb b)).new (Ik.gOb h.next [a,b])) (.slice h.next.succ.succ 0 2 (.un 2)) (jR [a,b]):=
 have k:=Kn.new ((h.new (Ik.wOb a)).new (Ik.wOb b)) (Ik.gOb h.next [a,b])
 ⟨_,⟨rfl,.inr ⟨h.next.succ.succ,rfl,Nat.zero_le _,k.2,false,k.1⟩⟩,fun j e=>by cases e;exact hr,_,_,rfl,lN (((Kn.new h (Ik.wOb a)).add _).add _) hp,_,_,rfl,lN ((Kn.new (h.new (Ik.wOb a)) (Ik.wOb b)).add _) hq,rfl⟩
def Fed(s:List Nat)(gs:List Ln.Got):Prop:=s.length≤1000∧gs.length≤1000∧∀h:Hp,Ik.aN≤h.next.nat→
 ∃v h2,Ik.kJ [.ptr h.next 0,.slice h.next.succ 0 s.length (.un 1)] ((h.new Ik.rdO).new (.bytes (bys s)))=.ok v h2∧Nw h h2∧Told (fun j=>h.next.nat≤j.nat∧j.nat<h2.next.nat) h2 v gs
theorem Fed.mk1{s:List Nat}(hs:s.length≤1000)(f:∀{h:Hp} {i j:Pos},Ik.aN≤i.nat→i.nat<h.next.nat→Ik.aN≤j.nat→j.nat<h.next.nat→i≠j→h.get i=some Ik.rdO→h.get j=some (Ik.bOb s)→
  Ik.kJ [.ptr i 0,.slice j 0 s.length (.un 1)] h=.ok (.slice h.next.succ 0 1 (.un 2)) ((h.new (Ik.wOb a)).new (Ik.gOb h.next [a]))):Fed s (jR [a]):=by
 refine⟨hs,by simp [jR],fun h hG=>?_⟩
 have k1:=(Kn.new h Ik.rdO).add (.bytes (bys s))
 have k2:=Kn.new (h.new Ik.rdO) (.bytes (bys s))
 have n1:h.next.succ.nat=h.next.nat+1:=Pos.eY _
 have n2:(h.new Ik.rdO).next.nat=h.next.nat+1:=aZ _ _
 have n3:((h.new Ik.rdO).new (.bytes (bys s))).next.nat=h.next.nat+2:=by rw [aZ,n2]
 have n4:((h.new Ik.rdO).new (.bytes (bys s))).next.succ.nat=h.next.nat+3:=by rw [Pos.eY,n3]
 refine⟨_,_,f hG k1.2 (by show Ik.aN≤h.next.succ.nat;omega) k2.2 (fun e=>by have:=congrArg Pos.nat e;omega) k1.1 k2.1,(((Nw.new _ _).trans (Nw.new _ _)).trans (Nw.new _ _)).trans (Nw.new _ _),pF ?_ ?_⟩
 all_goals simp only [aZ];omega
theorem Fed.mk2{s:List Nat}(hs:s.length≤1000)(f:∀{h:Hp} {i j:Pos},Ik.aN≤i.nat→i.nat<h.next.nat→Ik.aN≤j.nat→j.nat<h.next.nat→i≠j→h.get i=some Ik.rdO→h.get j=some (Ik.bOb s)→
  Ik.kJ [.ptr i 0,.slice j 0 s.length (.un 1)] h=.ok (.slice h.next.succ.succ 0 2 (.un 2)) (((h.new (Ik.wOb a)).new (Ik.wOb b)).new (Ik.gOb h.next [a,b]))):Fed s (jR [a,b]):=by
 refine⟨hs,by simp [jR],fun h hG=>?_⟩
 have k1:=(Kn.new h Ik.rdO).add (.bytes (bys s))
 have k2:=Kn.new (h.new Ik.rdO) (.bytes (bys s))
 have n1:h.next.succ.nat=h.next.nat+1:=Pos.eY _
 have n2:(h.new Ik.rdO).next.nat=h.next.nat+1:=aZ _ _
 have n3:((h.new Ik.rdO).new (.bytes (bys s))).next.nat=h.next.nat+2:=by rw [aZ,n2]
 have n4:((h.new Ik.rdO).new (.bytes (bys s))).next.succ.nat=h.next.nat+3:=by rw [Pos.eY,n3]
 have n5:((h.new Ik.rdO).new (.bytes (bys s))).next.succ.succ.nat=h.next.nat+4:=by rw [Pos.eY,n4]
 refine⟨_,_,f hG k1.2 (by show Ik.aN≤h.next.succ.nat;omega) k2.2 (fun e=>by have:=congrArg Pos.nat e;omega) k1.1 k2.1,((((Nw.new _ _).trans (Nw.new _ _)).trans (Nw.new _ _)).trans (Nw.new _ _)).trans (Nw.new _ _),nI ?_ ?_ ?_⟩
 all_goals simp only [aZ];omega
theorem qU:Fed Ik.fsA (jR Ik.flA):=Fed.mk2 (by decide) Ik.rD
theorem qJ:Fed Ik.fsB (jR Ik.flB):=Fed.mk1 (by decide) Ik.ru
theorem qg:Fed Ik.fsC (jR Ik.flC):=Fed.mk1 (by decide) Ik.rq
theorem qf:Fed Ik.fsD (jR Ik.flD):=Fed.mk2 (by decide) Ik.qZ
theorem pK:Fed Ik.fsE (jR Ik.flE):=Fed.mk2 (by decide) Ik.qY
end Go.Proofs.Im

namespace Go.Vm
noncomputable section
variable{P:Program}{G:Nat}{h h':Hp}{keep:Nat→Bool}{e:FuncId→Option Fun}
def aml(l:List Operand)(fr:F)(k:Nat):Option (List V):=(match SC fr l with
   |some vs=>(match vs with
    |g::args=>(match g with
     | .func fn x y=>(match x,y with
      | .nil,.nil=>(match fn with
       | .yield k'=>(match Nat.beq k k' with|true=>some args|false=>none)
       |_=>none)
      |_,_=>none)
     |_=>none)
    | []=>none)
   |none=>none)
def aHa(pre:F→Hp→Out)(l:List Operand)(k:Nat)(Y:List V→Hp→YR)(post:Bool→F→Hp→Out):nP:=fun fr h p=>match p with
 |some _=>.bad
 |none=>(match pre fr h with
  | .nor fr1 h1=>(match aml l fr1 k with
   |none=>.bad
   |some args=>(match Y args h1 with
    | .go h2=>DZ (post true fr1 h2) none
    | .stop q h2=>DZ (post false fr1 h2) (some q)
    | .bad=>.bad))
  |_=>.bad)
theorem aKc{fn:Func}{fi:EY}{pl:cO}{l:Nat}{D:F→Hp→Out}(hb:fn.body=some (codeOf fn))(hD:H9 P G fn.ntmps keep e fi pl l (codeOf fn)=D){args:List V}(hn:Nat.ble args.length fn.ntmps=true)(h:Hp):
  avE P G keep e fi pl l fn args h=aT P fn.results.toList (D (xJ keep 0 args .nil) h):=by
 unfold avE
 rw [hb]
 simp only [bG,hn,hD]
def aHY:OutI→IR
 | .nor _ h p=>.ok h p
 | .ret _ h p=>.ok h p
 | .ex _ _ _ _=>.bad
 | .bad=>.bad
theorem aHX{fn:Func}{pl:cO}{l:Nat}{D:(List V→Hp→YR)→Nat→nP}(hb:fn.body=some (codeOf fn))(hr:Nat.beq fn.results.size 0=true){Y:List V→Hp→YR}{k:Nat}(hD:D5 P G fn.ntmps keep e pl l Y k (codeOf fn)=D Y k){args:List V}(hn:Nat.ble args.length fn.ntmps=true)(h:Hp):
  am6 P G keep e pl l fn Y k args h=aHY (D Y k (xJ keep 0 args .nil) h none):=by
 unfold am6
 rw [hb]
 simp only [hn,hr,hD]
 cases D Y k (xJ keep 0 args .nil) h none<;>rfl
def SdI(A:OutI→Prop)(I:F→Hp→Prop):OutI→Prop
 | .nor fr h p=>p=none∧I fr h
 | .ret fr h p=>A (.ret fr h p)
 | .ex i fr h p=>A (.ex i fr h p)
 | .bad=>False
theorem amZ{b:nP}{n:Nat}{A:OutI→Prop}(I:Nat→F→Hp→Prop):∀{m l:Nat},m<l→∀{fr:F} {h:Hp},I m fr h→
  (∀m fr h,I m fr h→SdI A (fun fr h=>∃m',m'<m∧I m' fr h) (b fr h none))→A (NE b l fr h none)
 |m,0,hl,fr,h,i0,step=>by omega
 |m,l+1,hl,fr,h,i0,step=>by
  rw [amY]
  have st:=step m fr h i0
  cases hb:b fr h none with
  |nor fr1 h1 p=>
   rw [hb] at st
   obtain⟨rfl,m',hm,hi⟩:=st
   exact amZ (n:=n) I (m:=m') (l:=l) (by omega) hi step
  |ret fr1 h1 p=>rw [hb] at st;exact st
  |ex i fr1 h1 p=>rw [hb] at st;exact st
  |bad=>rw [hb] at st;exact st.elim
theorem Ky{a b:nP}{fr fr':F}{h h':Hp}{p p':Option Jmp}(ha:a fr h p=.nor fr' h' p'):vC a b fr h p=b fr' h' p':=by show(match a fr h p with| .nor fr h p=>b fr h p| .ret fr h p=>.ret fr h p| .ex i fr h p=>.ex i fr h p| .bad=>.bad)=_;rw [ha]
theorem aHt{a b:nP}{fr fr':F}{h h':Hp}{p p':Option Jmp}(ha:a fr h p=.ret fr' h' p'):vC a b fr h p=.ret fr' h' p':=by show(match a fr h p with| .nor fr h p=>b fr h p| .ret fr h p=>.ret fr h p| .ex i fr h p=>.ex i fr h p| .bad=>.bad)=_;rw [ha]
theorem aJz{a b:nP}{fr fr':F}{h h':Hp}{i:Nat}{p p':Option Jmp}(ha:a fr h p=.ex i fr' h' p'):vC a b fr h p=.ex i fr' h' p':=by show(match a fr h p with| .nor fr h p=>b fr h p| .ret fr h p=>.ret fr h p| .ex i fr h p=>.ex i fr h p| .bad=>.bad)=_;rw [ha]
theorem Oq{D:F→Hp→Out}{fr fr':F}{h h':Hp}{p:Option Jmp}(hd:D fr h=.nor fr' h'):kR D fr h p=.nor fr' h' p:=by show DZ (D fr h) p=_;rw [hd];rfl
theorem aE1{D:F→Hp→Out}{fr fr':F}{h h':Hp}{p:Option Jmp}(hd:D fr h=.ret fr' h'):kR D fr h p=.ret fr' h' p:=by show DZ (D fr h) p=_;rw [hd];rfl
theorem aHT{D:F→Hp→Out}{i:Nat}{fr fr':F}{h h':Hp}{p:Option Jmp}(hd:D fr h=.ex i fr' h'):kR D fr h p=.ex i fr' h' p:=by show DZ (D fr h) p=_;rw [hd];rfl
end
end Go.Vm
