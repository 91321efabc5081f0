/- Lemmas. No conditions. -/
import Derived.Test.YtpgppmioigacoaaGreatDoorFAJ
set_option linter.all false
set_option maxRecDepth 100000
open List renaming map_cons→a!,map_append→h!
open Go.Vm.Pos renaming of→b!
open Nat renaming beq→c!,succ→e!,blt→g!,zero_add→i!,beq_refl→j!,add_zero→k!
open Go.Vm.V renaming int→Y,ptr→X,bool→K,str→H
open Go.IntKind renaming i64→U
open Go.Vm.Ob renaming cells→O
open Go.Vm.Wr renaming rw→N
open Go.Vm.R renaming ok→D
noncomputable section
open Go Go.Proofs Go.Vm
namespace Go.Proofs.Ik
def rdO:Ob:=O (N 134 true) [Y U 4000,.aP,.aP,Y U 0,Y U 0,.aP,Y U 0,.aP,K false,Y U 0,K false]
def QG(args:List V):Option (V×List Ob):=match args with
 |Y U n:: []=>if n=4000 then some (X (b! aI) 0,[rdO]) else none
 |_=>none
def aLy{args:List V}{r:V×List Ob}(e:QG args=some r):args= [Y U 4000]/\r=(X (b! aI) 0,[rdO]):=by
 unfold QG at e;split at e
 ·split at e
  ·rename_i h;cases e;exact⟨by rw[h],rfl⟩
  ·cases e
 ·cases e
def aqN:Fun:=auy aI QG awX
def aNG:fu 40 aqN:=apT (l:= [b! aI]) aFZ λargs r e=>by
 obtain⟨rfl,rfl⟩:=aLy e;kernel_rfl
def aQy(h:Hp):aqN [Y U 4000] h=D (X h.next 0) (h.new rdO):=(rfl)
inductive Wo where
 |a (t:List Nat)
 |l (s:List (List Nat))
def wC:List (List Nat)->List V
 | []=> []
 |t::l=>Y U 1:: H t:: .aP::wC l
def wOb(l:List (List Nat)):Ob:=O (N 149 false) (wC l)
def lN:List Wo->List Ob
 | []=> []
 | .a _::l=>lN l
 | .l s::l=>wOb s::lN l
def lC:Pos->List Wo->List V
 |_,[]=> []
 |p,.a t::l=>Y U 1:: H t:: .aP::lC p l
 |p,.l s::l=>Y U 3:: H []:: .slice p 0 s.length (.un 3)::lC p.succ l
def adv:Pos->List Wo->Pos
 |p,[]=>p
 |p,.a _::l=>adv p l
 |p,.l _::l=>adv p.succ l
def tO:Pos->List (List Wo)->List Ob
 |_,[]=> []
 |p,l::r=>lN l++ O (N 149 false) (lC p l)::tO (adv p l).succ r
def gC:Pos->List (List Wo)->List V
 |_,[]=> []
 |p,l::r=>Y U 1:: .slice (adv p l) 0 l.length (.un 3)::gC (adv p l).succ r
def afY:Pos->List (List Wo)->Pos
 |p,[]=>p
 |p,l::r=>afY (adv p l).succ r
def gOb(p:Pos)(l:List (List Wo)):Ob:=O (N 94 false) (gC p l)
def aaV(p:Pos)(l:List (List Wo)):List Ob:=tO p l++ [gOb p l]
def rcP(p:Pos)(l:List (List Wo)):V:=.slice (afY p l) 0 l.length (.un 2)
def bOb(s:List Nat):Ob:=.bytes (s.map λc:Nat=>Y .u8 (c:Int))
def xM(n:Nat):List V:= [X (b! aI) 0,.slice (b! (aI+1)) 0 n (.un 1)]
abbrev baP:Pos:=b! (aI+2)
def NS(l:List (List Wo)):List Ob:=aaV baP l
def rcF(l:List (List Wo)):V:=rcP baP l
def abg(s:List Nat)(l:List (List Wo))(F:Fun):Fun:=als aI (xM s.length) [rdO,bOb s] [] (NS l) (rcF l) F
def bP(e:List Nat×List (List Wo)×List Nat):Bool:=
 (match aud aI 2 (xM e.1.length) [rdO,bOb e.1] [] (NS e.2.1) (rcF e.2.1) with
 |true=>vZ aI (aI+2) (patch ([rdO,bOb e.1].map some) []++(NS e.2.1).map some) (e.2.2.map b!) (rcF e.2.1) (Zm (xM e.1.length) (mkO aI ([rdO,bOb e.1].map some)))
 |false=>false)
abbrev Tab:Type:=List (List Nat×List (List Wo)×List Nat)
def abf:Tab->Fun
 | []=>Zm
 |e::r=>abg e.1 e.2.1 (abf r)
def awg:∀{l:Tab},(∀e∈l,bP e=true)->fu 41 (abf l)
 | [],_=>anR
 |e::r,h=>by
  have a:=h e (by simp);unfold bP at a;split at a
  ·rename_i b;exact aAA (awg λx c=>h x (by simp[c])) b (Does.comp anR rfl a)
  ·cases a
def aA0(s:List Nat)(t:Pos->Pos):(bOb s).ren t=bOb s:=by
 simp only[bOb,Ob.ren,List.map_map];congr 1
def aLs:∀{s d:List Nat},bOb s=bOb d->s=d:=λ{s d} e=>by
 have h:=Ob.bytes.inj e;have:∀{l k:List Nat},(l.map λc:Nat=>Y .u8 (c:Int))=k.map (λc:Nat=>Y .u8 (c:Int))->l=k:=by
  intro l;induction l with
  |nil=>intro k e;cases k with
   |nil=>rfl
   |cons=>simp at e
  |cons a l f=>intro k e;cases k with
   |nil=>simp at e
   |cons b k=>
    simp only[a!,List.cons.injEq,V.int.injEq,true_and]at e;rw[f e.2,Int.ofNat_inj.1 e.1]
 exact this h
section
variable{s d:List Nat}{l:List (List Wo)}{F:Fun}{h:Hp}{i j:Pos}
def aDy{n:Nat}(hn:n≠s.length):abg s l F [X i 0,.slice j 0 n (.un 1)] h=F [X i 0,.slice j 0 n (.un 1)] h:=by
 unfold abg als XE;have:eqL [X i 0,.slice j 0 n (.un 1)] (Ur (tau aI (XD aI (xM s.length) [X i 0,.slice j 0 n (.un 1)] [])) (xM s.length))=false:=by
  cases hb:eqL [X i 0,.slice j 0 n (.un 1)] (Ur (tau aI (XD aI (xM s.length) [X i 0,.slice j 0 n (.un 1)] [])) (xM s.length)) with
  |false=>rfl
  |true=>
   have:=afR hb;simp only[xM,Ur,V.ren,List.cons.injEq,V.slice.injEq]at this;exact absurd this.2.1.2.2.1 hn
 dsimp only;rw[this]
def ayX(hl:d.length=s.length)(e:h.get i=some rdO)(f:h.get j=some (bOb d))(c:∀i j:Pos,QD (bOb d) ((bOb s).ren (tau aI [i,j]))=false):abg s l F [X i 0,.slice j 0 d.length (.un 1)] h=F [X i 0,.slice j 0 d.length (.un 1)] h:=by
 rw[hl];have a:aa0 aI h [rdO,bOb s] 0 [i,j]=none:=by
  have e1:QD rdO (rdO.ren (tau aI [i,j]))=true:=rfl;have g:avP aI rdO rdO [i,j]= [i,j]:=rfl;have k:avP aI (bOb s) (bOb d) [i,j]= [i,j]:=rfl;have b:g! 0 (afL [i,j])=true:=rfl;have b1:g! (e! 0) (afL [i,j])=true:=rfl;have n:MI 0 [i,j]=i:=rfl;have o:MI (e! 0) [i,j]=j:=rfl;simp only[aa0,b,b1,n,o,e,f,g,k,e1,c]
 have E:XE aI (xM s.length) [rdO,bOb s] [X i 0,.slice j 0 s.length (.un 1)] h=none:=by
  have m:XD aI (xM s.length) [X i 0,.slice j 0 s.length (.un 1)] []= [i,j]:=rfl;unfold XE;rw[m];dsimp only;rw[a];split<;>rfl
 unfold abg als;rw[E]
def aFb(hi:aI<=i.nat)(c:i.nat<h.next.nat)(hj:aI<=j.nat)(f:j.nat<h.next.nat)(e:i≠j)(n:h.get i=some rdO)(o:h.get j=some (bOb s))(k:∀i j:Pos,QD (bOb s) ((bOb s).ren (tau aI [i,j]))=true):
  abg s l F [X i 0,.slice j 0 s.length (.un 1)] h=Tm aI [] (NS l) (rcF l) [i,j] h:=by
 have g:eqL [X i 0,.slice j 0 s.length (.un 1)] [X i 0,.slice j 0 s.length (.un 1)]=true:=by
  have a:kL (X i 0) (X i 0)=true:=by
   show(match i.eq i with|true=>c! 0 0|false=>false)=true;rw[Pos.eq_self];rfl
  have b:kL (.slice j 0 s.length (.un 1)) (.slice j 0 s.length (.un 1))=true:=by
   show(match j.eq j,c! 0 0,c! s.length s.length with|true,true,true=>c! 1 1|_,_,_=>false)=true;rw[Pos.eq_self,show c! s.length s.length=true from j! _];rfl
  simp only[eqL,a,b]
 have u:aa0 aI h [rdO,bOb s] 0 [i,j]=some [i,j]:=by
  have e1:QD rdO (rdO.ren (tau aI [i,j]))=true:=rfl;have x:avP aI rdO rdO [i,j]= [i,j]:=rfl;have y:avP aI (bOb s) (bOb s) [i,j]= [i,j]:=rfl;have w:g! 0 (afL [i,j])=true:=rfl;have b1:g! (e! 0) (afL [i,j])=true:=rfl;have z:MI 0 [i,j]=i:=rfl;have B:MI (e! 0) [i,j]=j:=rfl;simp only[aa0,w,b1,z,B,n,o,x,y,e1,k]
 have v:okC aI (xM s.length) [rdO,bOb s] [X i 0,.slice j 0 s.length (.un 1)] h [i,j]=true:=by
  have e1:QD rdO (rdO.ren (tau aI [i,j]))=true:=rfl;have r:Ur (tau aI [i,j]) (xM s.length)= [X i 0,.slice j 0 s.length (.un 1)]:=rfl;unfold okC;rw[r,g];simp only[YW,Y6,avO,ap6,n,o,e1,k,Pos.eq_false.2 e,Nat.ble_eq,Nat.blt_eq,Bool.and_eq_true,Bool.true_and,Bool.and_true,and_true,true_and];exact⟨⟨hi,c⟩,hj,f⟩
 have E:XE aI (xM s.length) [rdO,bOb s] [X i 0,.slice j 0 s.length (.un 1)] h=some [i,j]:=by
  have m:XD aI (xM s.length) [X i 0,.slice j 0 s.length (.un 1)] []= [i,j]:=rfl;have r:Ur (tau aI [i,j]) (xM s.length)= [X i 0,.slice j 0 s.length (.un 1)]:=rfl;unfold XE;rw[m];dsimp only;rw[r,g,u];dsimp only;rw[v]
 unfold abg als;rw[E]
def aAL:∀s:List Nat,eqL (s.map λc:Nat=>Y .u8 (c:Int)) (s.map λc:Nat=>Y .u8 (c:Int))=true
 | []=>rfl
 |a::s=>by
  have e:kL (Y .u8 (a:Int)) (Y .u8 (a:Int))=true:=by
   show nO (a:Int) (a:Int)=true;exact j! a
  simp only[a!,eqL,e,aAL s]
def Ti:Tab->List Nat->Option (List (List Wo))
 | [],_=>none
 |e::r,s=>if e.1=s then some e.2.1 else Ti r s
def asg(hi:aI<=i.nat)(a:i.nat<h.next.nat)(hj:aI<=j.nat)(c:j.nat<h.next.nat)(b:i≠j)(f:h.get i=some rdO)(g:h.get j=some (bOb s)):∀{T:Tab},Ti T s=some l->abf T [X i 0,.slice j 0 s.length (.un 1)] h=Tm aI [] (NS l) (rcF l) [i,j] h
 | [],e=>by cases e
 |x::r,e=>by
  unfold Ti at e;split at e
  ·rename_i k;cases e;unfold abf;rw[k];refine aFb hi a hj c b f g λp q=>?_;rw[aA0];show eqL _ _=true;exact aAL s
  ·rename_i k;have m:=asg hi a hj c b f g e;unfold abf;by_cases hn:s.length=x.1.length
   ·refine(ayX hn f g λp q=>?_).trans m;rw[aA0];cases hb:QD (bOb s) (bOb x.1) with
    |false=>rfl
    |true=>exact absurd (aLs (aqw hb)).symm k
   ·exact(aDy hn).trans m
def Sh(t:Pos->Pos)(p q:Pos)(n:Nat):Prop:=∀k,k<n->t (b! (p.nat+k))=b! (q.nat+k)
def Sh.le{t:Pos->Pos}{p q:Pos}{n m:Nat}(a:Sh t p q n)(h:m<=n):Sh t p q m:=λk b=>a k (by omega)
def Sh.hd{t:Pos->Pos}{p q:Pos}{n:Nat}(a:Sh t p q n)(h:0<n):t p=q:=by
 have:=a 0 h;rwa[k!,k!,Pos.OE,Pos.OE]at this
def Sh.tl{t:Pos->Pos}{p q:Pos}{n:Nat}(a:Sh t p q (n+1)):Sh t p.succ q.succ n:=λk b=>by
 have:=a (k+1) (by omega);rw[Pos.fD,Pos.fD,show p.nat+1+k=p.nat+(k+1) by omega,show q.nat+1+k=q.nat+(k+1) by omega];exact this
variable{t:Pos->Pos}{p q:Pos}
def aEz:∀l:List (List Nat),(wC l).map (V.ren t)=wC l
 | []=>rfl
 |a::l=>by simp only[wC,a!,aEz l];rfl
def avV:∀l:List Wo,(lN l).map (Ob.ren t)=lN l
 | []=>rfl
 | .a _::l=>avV l
 | .l s::l=>by simp only[lN,a!,avV l];rw[show(wOb s).ren t=wOb s by simp only[wOb,Ob.ren,aEz]]
def avW:∀{l:List Wo} {p q:Pos},Sh t p q (lN l).length->(lC p l).map (V.ren t)=lC q l
 | [],_,_,_=>rfl
 | .a _::l,p,q,h=>by simp only[lC,a!,avW (l:=l) h];rfl
 | .l s::l,p,q,h=>by
  have h':Sh t p q ((lN l).length+1):=h;simp only[lC,a!,avW (l:=l) h'.tl];rw[<-h'.hd (by omega)];rfl
def anQ:∀{l:List Wo} {p q:Pos} {n:Nat},Sh t p q ((lN l).length+n)->Sh t (adv p l) (adv q l) n
 | [],p,q,n,h=>by rw[show(lN []).length+n=n from i! n]at h;exact h
 | .a _::l,p,q,n,h=>anQ (l:=l) h
 | .l s::l,p,q,n,h=>by
  have h':Sh t p q (((lN l).length+n)+1):=by rw[show(lN (.l s::l)).length+n=((lN l).length+n)+1 by simp only[lN,List.length_cons];omega]at h;exact h
  exact anQ (l:=l) h'.tl
def az5(l:List Wo)(r:List (List Wo)):(tO p (l::r)).length=(lN l).length+((tO (adv p l).succ r).length+1):=by simp[tO]
def aA6:∀{l:List (List Wo)} {p q:Pos} {n:Nat},Sh t p q ((tO p l).length+n)->Sh t (afY p l) (afY q l) n
 | [],p,q,n,h=>by rw[show(tO p []).length+n=n from i! n]at h;exact h
 |l::r,p,q,n,h=>by
  rw[az5,show(lN l).length+((tO (adv p l).succ r).length+1)+n=(lN l).length+((tO (adv p l).succ r).length+n+1) by omega]at h;exact aA6 (l:=r) (anQ h).tl
def aED:∀{l:List (List Wo)} {p q:Pos},Sh t p q (tO p l).length->(tO p l).map (Ob.ren t)=tO q l/\(gC p l).map (V.ren t)=gC q l
 | [],_,_,_=>⟨rfl,rfl⟩
 |l::r,p,q,h=>by
  rw[az5]at h;have a:=anQ (l:=l) h;obtain⟨e1,e2⟩:=aED (l:=r) a.tl;constructor
  ·simp only[tO,h!,a!,avV,e1];rw[show Ob.ren t (O (N 149 false) (lC p l))=O (N 149 false) (lC q l) by simp only[Ob.ren,avW (l:=l) (h.le (Nat.le_add_right _ _))]]
  ·simp only[gC,a!,e2];rw[show V.ren t (.slice (adv p l) 0 l.length (.un 3))=.slice (adv q l) 0 l.length (.un 3) by simp only[V.ren,a.hd (by omega)]];rfl
def aQJ{T:Tab}(hi:aI<=i.nat)(a:i.nat<h.next.nat)(hj:aI<=j.nat)(c:j.nat<h.next.nat)(b:i≠j)(n:h.get i=some rdO)(o:h.get j=some (bOb s))(e:Ti T s=some l):
  abf T [X i 0,.slice j 0 s.length (.un 1)] h=D (rcP h.next l) (mkF h (aaV h.next l)):=by
 rw[asg hi a hj c b n o e];unfold Tm;dsimp only[aaM];obtain⟨t,g⟩:∃t,t=tau aI (awH [i,j] (succs h.next (NS l))):=⟨_,rfl⟩
 rw[<-g];have hb:baP.nat=aI+2:=Pos.gG _;have hl:(NS l).length=(tO baP l).length+1:=by simp[NS,aaV]
 have f:Sh t baP h.next ((tO baP l).length+1):=λk r=>by
  rw[g];refine YP (by rw[Pos.gG];omega) ?_;rw[Pos.gG,aqF,hb,show aI+2+k - aI=k+2 by omega];show(succs h.next (NS l))[k]?=_;exact afj (by omega)
 obtain⟨e1,e2⟩:=aED (l:=l) (f.le (Nat.le_succ _));have m:t (afY baP l)=afY h.next l:=(aA6 f).hd (by omega);rw[apX,NS,aaV,h!,e1,rcF,rcP,aaV,rcP];simp only[V.ren,m,a!,List.map_nil,gOb,Ob.ren,e2]
end
end Go.Proofs.Ik
