/- Lemmas that the claim's last text uses. No conditions. -/
import Derived.Test.YtpgppmioigacoaaGreatDoorDrAJ
set_option linter.all false
set_option maxRecDepth 100000
open Go.Vm.Pos renaming of→a!
open Go.Proofs.Tryz renaming prog→b!
open Nat renaming beq→c!,succ→d!,blt→e!
open Go.Vm.V renaming int→Y,ptr→X,bool→K,str→H
open Go.IntKind renaming i64→U
open Go.Vm.Ob renaming cells→O
open Go.Vm.Wr renaming rw→N
open Go.Vm.R renaming ok→D
noncomputable section
open Go Go.Proofs Go.Vm
namespace Go.Proofs.Ik
def rdO:Ob:=O (N 134 true) [Y U 4000,.aQ,.aQ,Y U 0,Y U 0,.aQ,Y U 0,.aQ,K false,Y U 0,K false]
def YV(args:List V):Option (V×List Ob):=match args with
 |Y U n:: []=>if n=4000 then some (X (a! aH) 0,[rdO]) else none
 |_=>none
theorem aEU{args:List V}{r:V×List Ob}(e:YV args=some r):args= [Y U 4000]/\r=(X (a! aH) 0,[rdO]):=by
 unfold YV at e;split at e
 ·split at e
  ·rename_i h;cases e;exact⟨by rw[h],rfl⟩
  ·cases e
 ·cases e
def amy:Fun:=axf aH YV arN
theorem aGV:aG b! aH 40 amy:=auE (l:= [a! aH]) aAl λargs r e=>by
 obtain⟨rfl,rfl⟩:=aEU e;kernel_rfl
theorem aId(h:Hp):amy [Y U 4000] h=D (X h.next 0) (h.new rdO):=(rfl)
def wC:List (List Nat)->List V
 | []=> []
 |t::l=>Y U 1:: H t:: .aQ::wC l
def wOb(l:List (List Nat)):Ob:=O (N 149 false) (wC l)
def gC:Pos->List (List (List Nat))->List V
 |_,[]=> []
 |p,l::r=>Y U 1:: .slice p 0 l.length (.un 3)::gC p.succ r
def gOb(p:Pos)(l:List (List (List Nat))):Ob:=O (N 94 false) (gC p l)
def bOb(s:List Nat):Ob:=.bytes (s.map λc:Nat=>Y .u8 (c:Int))
def wz(n:Nat):List V:= [X (a! aH) 0,.slice (a! (aH+1)) 0 n (.un 1)]
def aph(l:List (List (List Nat))):List Ob:=l.map wOb++ [gOb (a! (aH+2)) l]
def rcF(l:List (List (List Nat))):V:=.slice (a! (aH+2+l.length)) 0 l.length (.un 2)
def AP(s:List Nat)(l:List (List (List Nat)))(F:Fun):Fun:=ahz aH (wz s.length) [rdO,bOb s] [] (aph l) (rcF l) F
theorem Jj{s:List Nat}{l:List (List (List Nat))}{F:Fun}(a:aG b! aH 41 F){p:List Pos}(b:apc aH 2 (wz s.length) [rdO,bOb s] [] (aph l) (rcF l)=true)
  (e:FM aH (aH+2) (patch ([rdO,bOb s].map some) []++(aph l).map some) p (rcF l) (Wl (wz s.length) (mkO aH ([rdO,bOb s].map some)))=true):aG b! aH 41 (AP s l F):=
 au7 a b (Does.comp ajO rfl e)
theorem jo{s:List Nat}{l:List (List (List Nat))}{F:Fun}{h:Hp}{i j:Pos}{n:Nat}(a:n≠s.length):AP s l F [X i 0,.slice j 0 n (.un 1)] h=F [X i 0,.slice j 0 n (.un 1)] h:=by
 unfold AP ahz UB;have:eqL [X i 0,.slice j 0 n (.un 1)] (PY (tau aH (UA aH (wz s.length) [X i 0,.slice j 0 n (.un 1)] [])) (wz s.length))=false:=by
  cases hb:eqL [X i 0,.slice j 0 n (.un 1)] (PY (tau aH (UA aH (wz s.length) [X i 0,.slice j 0 n (.un 1)] [])) (wz s.length)) with
  |false=>rfl
  |true=>
   have:=acR hb;simp only[wz,PY,V.ren,List.cons.injEq,V.slice.injEq]at this;exact absurd this.2.1.2.2.1 a
 dsimp only;rw[this]
theorem atI{s s':List Nat}{l:List (List (List Nat))}{F:Fun}{h:Hp}{i j:Pos}(hl:s'.length=s.length)(d:h.get i=some rdO)(e:h.get j=some (bOb s'))(c:∀i j:Pos,UC (bOb s') ((bOb s).ren (tau aH [i,j]))=false):AP s l F [X i 0,.slice j 0 s'.length (.un 1)] h=F [X i 0,.slice j 0 s'.length (.un 1)] h:=by
 rw[hl];have a:Yy aH h [rdO,bOb s] 0 [i,j]=none:=by
  have e1:UC rdO (rdO.ren (tau aH [i,j]))=true:=rfl;have f:aqM aH rdO rdO [i,j]= [i,j]:=rfl;have g:aqM aH (bOb s) (bOb s') [i,j]= [i,j]:=rfl;have b:e! 0 (acI [i,j])=true:=rfl;have b1:e! (d! 0) (acI [i,j])=true:=rfl;have k:Jc 0 [i,j]=i:=rfl;have n:Jc (d! 0) [i,j]=j:=rfl;simp only[Yy,b,b1,k,n,d,e,f,g,e1,c]
 have E:UB aH (wz s.length) [rdO,bOb s] [X i 0,.slice j 0 s.length (.un 1)] h=none:=by
  have m:UA aH (wz s.length) [X i 0,.slice j 0 s.length (.un 1)] []= [i,j]:=rfl;unfold UB;rw[m];dsimp only;rw[a];split<;>rfl
 unfold AP ahz;rw[E]
theorem Es{s:List Nat}{l:List (List (List Nat))}{F:Fun}{h:Hp}{i j:Pos}(hi:aH<=i.nat)(c:i.nat<h.next.nat)(t:aH<=j.nat)(e:j.nat<h.next.nat)(d:i≠j)(k:h.get i=some rdO)(n:h.get j=some (bOb s))(g:∀i j:Pos,UC (bOb s) ((bOb s).ren (tau aH [i,j]))=true):
  AP s l F [X i 0,.slice j 0 s.length (.un 1)] h=YG aH [] (aph l) (rcF l) [i,j] h:=by
 have f:eqL [X i 0,.slice j 0 s.length (.un 1)] [X i 0,.slice j 0 s.length (.un 1)]=true:=by
  have a:kC (X i 0) (X i 0)=true:=by
   show(match i.eq i with|true=>c! 0 0|false=>false)=true;rw[Pos.eq_self];rfl
  have b:kC (.slice j 0 s.length (.un 1)) (.slice j 0 s.length (.un 1))=true:=by
   show(match j.eq j,c! 0 0,c! s.length s.length with|true,true,true=>c! 1 1|_,_,_=>false)=true;rw[Pos.eq_self,show c! s.length s.length=true from Nat.beq_refl _];rfl
  simp only[eqL,a,b]
 have o:Yy aH h [rdO,bOb s] 0 [i,j]=some [i,j]:=by
  have e1:UC rdO (rdO.ren (tau aH [i,j]))=true:=rfl;have u:aqM aH rdO rdO [i,j]= [i,j]:=rfl;have v:aqM aH (bOb s) (bOb s) [i,j]= [i,j]:=rfl;have q:e! 0 (acI [i,j])=true:=rfl;have b1:e! (d! 0) (acI [i,j])=true:=rfl;have w:Jc 0 [i,j]=i:=rfl;have x:Jc (d! 0) [i,j]=j:=rfl;simp only[Yy,q,b1,w,x,k,n,u,v,e1,g]
 have p:okC aH (wz s.length) [rdO,bOb s] [X i 0,.slice j 0 s.length (.un 1)] h [i,j]=true:=by
  have e1:UC rdO (rdO.ren (tau aH [i,j]))=true:=rfl;have r:PY (tau aH [i,j]) (wz s.length)= [X i 0,.slice j 0 s.length (.un 1)]:=rfl;unfold okC;rw[r,f];simp only[VQ,VY,aqK,alS,k,n,e1,g,Pos.eq_false.2 d,Nat.ble_eq,Nat.blt_eq,Bool.and_eq_true,Bool.true_and,Bool.and_true,and_true,true_and];exact⟨⟨hi,c⟩,t,e⟩
 have E:UB aH (wz s.length) [rdO,bOb s] [X i 0,.slice j 0 s.length (.un 1)] h=some [i,j]:=by
  have m:UA aH (wz s.length) [X i 0,.slice j 0 s.length (.un 1)] []= [i,j]:=rfl;have r:PY (tau aH [i,j]) (wz s.length)= [X i 0,.slice j 0 s.length (.un 1)]:=rfl;unfold UB;rw[m];dsimp only;rw[r,f,o];dsimp only;rw[p]
 unfold AP ahz;rw[E]
abbrev fsA:List Nat:= [97,32,76,79,71,73,78,32,117,32,112,13,10,98,32,83,69,76,69,67,84,32,73,78,66,79,88,13,10]
abbrev flA:List (List (List Nat)):= [[[97],[76,79,71,73,78],[117],[112]],[[98],[83,69,76,69,67,84],[73,78,66,79,88]]]
def fdA:Fun:=AP fsA flA Wl
theorem aIp:aG b! aH 41 fdA:=Jj (p:= [a! 51,a! 98,a! 100]) ajO kR kR
abbrev fsB:List Nat:= [120,32,69,88,80,85,78,71,69,13,10]
abbrev flB:List (List (List Nat)):= [[[120],[69,88,80,85,78,71,69]]]
def fdB:Fun:=AP fsB flB fdA
theorem aIo:aG b! aH 41 fdB:=Jj (p:= [a! 39,a! 41]) aIp kR kR
abbrev fsC:List Nat:= [120,32,67,76,79,83,69,13,10,121,32,67,72,69,67,75,13,10]
abbrev flC:List (List (List Nat)):= [[[120],[67,76,79,83,69]],[[121],[67,72,69,67,75]]]
def fdC:Fun:=AP fsC flC fdB
theorem aIn:aG b! aH 41 fdC:=Jj (p:= [a! 35,a! 64,a! 66]) aIo kR kR
abbrev fsD:List Nat:= [119,32,69,88,65,77,73,78,69,32,73,78,66,79,88,13,10]
abbrev flD:List (List (List Nat)):= [[[119],[69,88,65,77,73,78,69],[73,78,66,79,88]]]
def fdD:Fun:=AP fsD flD fdC
theorem aIm:aG b! aH 41 fdD:=Jj (p:= [a! 55,a! 57]) aIn kR kR
abbrev fsE:List Nat:= [120,32,69,88,80,85,78,71,69,13,10,121,32,67,76,79,83,69,13,10]
abbrev flE:List (List (List Nat)):= [[[120],[69,88,80,85,78,71,69]],[[121],[67,76,79,83,69]]]
def fdE:Fun:=AP fsE flE fdD
theorem aIl:aG b! aH 41 fdE:=Jj (p:= [a! 39,a! 68,a! 70]) aIm kR kR
abbrev fsF:List Nat:= [120,32,85,73,68,32,69,88,80,85,78,71,69,32,49,13,10]
abbrev flF:List (List (List Nat)):= [[[120],[85,73,68],[69,88,80,85,78,71,69],[49]]]
def fdF:Fun:=AP fsF flF fdE
theorem aIk:aG b! aH 41 fdF:=Jj (p:= [a! 59,a! 61]) aIl kR kR
def uQ:Fun:=fdF
theorem aGU:aG b! aH 41 uQ:=aIk
theorem aKV{h:Hp}{i j:Pos}(hi:aH<=i.nat)(a:i.nat<h.next.nat)(f:aH<=j.nat)(c:j.nat<h.next.nat)(b:i≠j)(d:h.get i=some rdO)(e:h.get j=some (bOb fsA)):uQ [X i 0,.slice j 0 fsA.length (.un 1)] h=D (.slice h.next.succ.succ 0 2 (.un 2)) (((h.new (wOb flA[0])).new (wOb flA[1])).new (gOb h.next flA)):=
 (jo (s:=fsF) (l:=flF) (F:=fdE) (by decide)).trans ((jo (s:=fsE) (l:=flE) (F:=fdD) (by decide)).trans ((jo (s:=fsD) (l:=flD) (F:=fdC) (by decide)).trans ((jo (s:=fsC) (l:=flC) (F:=fdB) (by decide)).trans ((jo (s:=fsB) (l:=flB) (F:=fdA) (by decide)).trans ((Es (s:=fsA) (l:=flA) hi a f c b d e λ_ _=>rfl).trans rfl)))))
theorem aKU{h:Hp}{i j:Pos}(hi:aH<=i.nat)(a:i.nat<h.next.nat)(f:aH<=j.nat)(c:j.nat<h.next.nat)(b:i≠j)(d:h.get i=some rdO)(e:h.get j=some (bOb fsB)):uQ [X i 0,.slice j 0 fsB.length (.un 1)] h=D (.slice h.next.succ 0 1 (.un 2)) ((h.new (wOb flB[0])).new (gOb h.next flB)):=
 (jo (s:=fsF) (l:=flF) (F:=fdE) (by decide)).trans ((jo (s:=fsE) (l:=flE) (F:=fdD) (by decide)).trans ((jo (s:=fsD) (l:=flD) (F:=fdC) (by decide)).trans ((jo (s:=fsC) (l:=flC) (F:=fdB) (by decide)).trans ((Es (s:=fsB) (l:=flB) hi a f c b d e λ_ _=>rfl).trans rfl))))
theorem aKT{h:Hp}{i j:Pos}(hi:aH<=i.nat)(a:i.nat<h.next.nat)(f:aH<=j.nat)(c:j.nat<h.next.nat)(b:i≠j)(d:h.get i=some rdO)(e:h.get j=some (bOb fsC)):uQ [X i 0,.slice j 0 fsC.length (.un 1)] h=D (.slice h.next.succ.succ 0 2 (.un 2)) (((h.new (wOb flC[0])).new (wOb flC[1])).new (gOb h.next flC)):=
 (jo (s:=fsF) (l:=flF) (F:=fdE) (by decide)).trans ((jo (s:=fsE) (l:=flE) (F:=fdD) (by decide)).trans ((jo (s:=fsD) (l:=flD) (F:=fdC) (by decide)).trans ((Es (s:=fsC) (l:=flC) hi a f c b d e λ_ _=>rfl).trans rfl)))
theorem aKS{h:Hp}{i j:Pos}(hi:aH<=i.nat)(a:i.nat<h.next.nat)(f:aH<=j.nat)(c:j.nat<h.next.nat)(b:i≠j)(d:h.get i=some rdO)(e:h.get j=some (bOb fsD)):uQ [X i 0,.slice j 0 fsD.length (.un 1)] h=D (.slice h.next.succ 0 1 (.un 2)) ((h.new (wOb flD[0])).new (gOb h.next flD)):=
 (atI (s:=fsF) (s':=fsD) (l:=flF) (F:=fdE) rfl d e λ_ _=>rfl).trans ((jo (s:=fsE) (l:=flE) (F:=fdD) (by decide)).trans ((Es (s:=fsD) (l:=flD) hi a f c b d e λ_ _=>rfl).trans rfl))
theorem aKR{h:Hp}{i j:Pos}(hi:aH<=i.nat)(a:i.nat<h.next.nat)(f:aH<=j.nat)(c:j.nat<h.next.nat)(b:i≠j)(d:h.get i=some rdO)(e:h.get j=some (bOb fsE)):uQ [X i 0,.slice j 0 fsE.length (.un 1)] h=D (.slice h.next.succ.succ 0 2 (.un 2)) (((h.new (wOb flE[0])).new (wOb flE[1])).new (gOb h.next flE)):=
 (jo (s:=fsF) (l:=flF) (F:=fdE) (by decide)).trans ((Es (s:=fsE) (l:=flE) hi a f c b d e λ_ _=>rfl).trans rfl)
theorem aKQ{h:Hp}{i j:Pos}(hi:aH<=i.nat)(a:i.nat<h.next.nat)(f:aH<=j.nat)(c:j.nat<h.next.nat)(b:i≠j)(d:h.get i=some rdO)(e:h.get j=some (bOb fsF)):uQ [X i 0,.slice j 0 fsF.length (.un 1)] h=D (.slice h.next.succ 0 1 (.un 2)) ((h.new (wOb flF[0])).new (gOb h.next flF)):=
 (Es (s:=fsF) (l:=flF) hi a f c b d e λ_ _=>rfl).trans rfl
end Go.Proofs.Ik
