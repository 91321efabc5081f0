/- Lemmas. No conditions. -/
import Derived.Test.YtpgppmioigacoaaGreatDoorSAK
set_option linter.all false
set_option maxRecDepth 100000
open List renaming map_cons→a!,map_append→h!
open Go.Vm.Pos renaming of→b!
open Nat renaming beq→c!,succ→e!,blt→g!,zero_add→i!,beq_refl→j!,add_zero→k!
open Go.Vm.V renaming int→Y,ptr→X,bool→K,str→H
open Go.IntKind renaming i64→U
open Go.Vm.Ob renaming cells→O
open Go.Vm.Wr renaming rw→N
open Go.Vm.R renaming ok→D
noncomputable section
open Go Go.Proofs Go.Vm
namespace Go.Proofs.Ik
def rdO:Ob:=O (N 134 true) [Y U 4000,.aQ,.aQ,Y U 0,Y U 0,.aQ,Y U 0,.aQ,K false,Y U 0,K false]
def afd(args:List V):Option (V×List Ob):=match args with
 |Y U n:: []=>if n=4000 then some (X (b! aI) 0,[rdO]) else none
 |_=>none
def aJX{args:List V}{r:V×List Ob}(e:afd args=some r):args= [Y U 4000]/\r=(X (b! aI) 0,[rdO]):=by
 unfold afd at e;split at e
 ·split at e
  ·rename_i h;cases e;exact⟨by rw[h],rfl⟩
  ·cases e
 ·cases e
def ap2:Fun:=aem aI afd awf
def aMw:fu 40 ap2:=ag0 (l:= [b! aI]) aEF λargs r e=>by
 obtain⟨rfl,rfl⟩:=aJX e;kernel_rfl
def aNQ(h:Hp):ap2 [Y U 4000] h=D (X h.next 0) (h.new rdO):=(rfl)
inductive Wo where
 |a (t:List Nat)
 |l (s:List (List Nat))
def wC:List (List Nat)->List V
 | []=> []
 |t::l=>Y U 1:: H t:: .aQ::wC l
def wOb(l:List (List Nat)):Ob:=O (N 149 false) (wC l)
def lN:List Wo->List Ob
 | []=> []
 | .a _::l=>lN l
 | .l s::l=>wOb s::lN l
def lC:Pos->List Wo->List V
 |_,[]=> []
 |p,.a t::l=>Y U 1:: H t:: .aQ::lC p l
 |p,.l s::l=>Y U 3:: H []:: .slice p 0 s.length (.un 3)::lC p.succ l
def adv:Pos->List Wo->Pos
 |p,[]=>p
 |p,.a _::l=>adv p l
 |p,.l _::l=>adv p.succ l
def tO:Pos->List (List Wo)->List Ob
 |_,[]=> []
 |p,l::r=>lN l++ O (N 149 false) (lC p l)::tO (adv p l).succ r
def gC:Pos->List (List Wo)->List V
 |_,[]=> []
 |p,l::r=>Y U 1:: .slice (adv p l) 0 l.length (.un 3)::gC (adv p l).succ r
def afc:Pos->List (List Wo)->Pos
 |p,[]=>p
 |p,l::r=>afc (adv p l).succ r
def gOb(p:Pos)(l:List (List Wo)):Ob:=O (N 94 false) (gC p l)
def aae(p:Pos)(l:List (List Wo)):List Ob:=tO p l++ [gOb p l]
def rcP(p:Pos)(l:List (List Wo)):V:=.slice (afc p l) 0 l.length (.un 2)
def bOb(s:List Nat):Ob:=.bytes (s.map λc:Nat=>Y .u8 (c:Int))
def xY(n:Nat):List V:= [X (b! aI) 0,.slice (b! (aI+1)) 0 n (.un 1)]
abbrev baP:Pos:=b! (aI+2)
def NY(l:List (List Wo)):List Ob:=aae baP l
def rcF(l:List (List Wo)):V:=rcP baP l
def aaw(s:List Nat)(l:List (List Wo))(F:Fun):Fun:=akC aI (xY s.length) [rdO,bOb s] [] (NY l) (rcF l) F
def amA(e:List Nat×List (List Wo)×List Nat):Bool:=
 (match att aI 2 (xY e.1.length) [rdO,bOb e.1] [] (NY e.2.1) (rcF e.2.1) with
 |true=>DJ aI (aI+2) (patch ([rdO,bOb e.1].map some) []++(NY e.2.1).map some) (e.2.2.map b!) (rcF e.2.1) (amT (xY e.1.length) (mkO aI ([rdO,bOb e.1].map some)))
 |false=>false)
abbrev Tab:Type:=List (List Nat×List (List Wo)×List Nat)
def aav:Tab->Fun
 | []=>amT
 |e::r=>aaw e.1 e.2.1 (aav r)
def avA:∀{l:Tab},(∀e∈l,amA e=true)->fu 41 (aav l)
 | [],_=>awe
 |e::r,h=>by
  have a:=h e (by simp);unfold amA at a;split at a
  ·rename_i b;exact azF (avA λx c=>h x (by simp[c])) b (Does.comp awe rfl a)
  ·cases a
def az6(s:List Nat)(t:Pos->Pos):(bOb s).ren t=bOb s:=by
 simp only[bOb,Ob.ren,List.map_map];congr 1
def aJQ:∀{s d:List Nat},bOb s=bOb d->s=d:=λ{s d} e=>by
 have h:=Ob.bytes.inj e;have:∀{l k:List Nat},(l.map λc:Nat=>Y .u8 (c:Int))=k.map (λc:Nat=>Y .u8 (c:Int))->l=k:=by
  intro l;induction l with
  |nil=>intro k e;cases k with
   |nil=>rfl
   |cons=>simp at e
  |cons a l f=>intro k e;cases k with
   |nil=>simp at e
   |cons b k=>
    simp only[a!,List.cons.injEq,V.int.injEq,true_and]at e;rw[f e.2,Int.ofNat_inj.1 e.1]
 exact this h
section
variable{s d:List Nat}{l:List (List Wo)}{F:Fun}{h:Hp}{i j:Pos}
def aCF{n:Nat}(hn:n≠s.length):aaw s l F [X i 0,.slice j 0 n (.un 1)] h=F [X i 0,.slice j 0 n (.un 1)] h:=by
 unfold aaw akC Xo;have:eqL [X i 0,.slice j 0 n (.un 1)] (Ue (tau aI (Xn aI (xY s.length) [X i 0,.slice j 0 n (.un 1)] [])) (xY s.length))=false:=by
  cases hb:eqL [X i 0,.slice j 0 n (.un 1)] (Ue (tau aI (Xn aI (xY s.length) [X i 0,.slice j 0 n (.un 1)] [])) (xY s.length)) with
  |false=>rfl
  |true=>
   have:=ae5 hb;simp only[xY,Ue,V.ren,List.cons.injEq,V.slice.injEq]at this;exact absurd this.2.1.2.2.1 hn
 dsimp only;rw[this]
def ax9(hl:d.length=s.length)(e:h.get i=some rdO)(f:h.get j=some (bOb d))(c:∀i j:Pos,Uz (bOb d) ((bOb s).ren (tau aI [i,j]))=false):aaw s l F [X i 0,.slice j 0 d.length (.un 1)] h=F [X i 0,.slice j 0 d.length (.un 1)] h:=by
 rw[hl];have a:aah aI h [rdO,bOb s] 0 [i,j]=none:=by
  have e1:Uz rdO (rdO.ren (tau aI [i,j]))=true:=rfl;have g:avf aI rdO rdO [i,j]= [i,j]:=rfl;have k:avf aI (bOb s) (bOb d) [i,j]= [i,j]:=rfl;have b:g! 0 (aeV [i,j])=true:=rfl;have b1:g! (e! 0) (aeV [i,j])=true:=rfl;have n:LP 0 [i,j]=i:=rfl;have n1:LP (e! 0) [i,j]=j:=rfl;simp only[aah,b,b1,n,n1,e,f,g,k,e1,c]
 have E:Xo aI (xY s.length) [rdO,bOb s] [X i 0,.slice j 0 s.length (.un 1)] h=none:=by
  have m:Xn aI (xY s.length) [X i 0,.slice j 0 s.length (.un 1)] []= [i,j]:=rfl;unfold Xo;rw[m];dsimp only;rw[a];split<;>rfl
 unfold aaw akC;rw[E]
def aEk(hi:aI<=i.nat)(c:i.nat<h.next.nat)(hj:aI<=j.nat)(f:j.nat<h.next.nat)(e:i≠j)(n:h.get i=some rdO)(o:h.get j=some (bOb s))(k:∀i j:Pos,Uz (bOb s) ((bOb s).ren (tau aI [i,j]))=true):
  aaw s l F [X i 0,.slice j 0 s.length (.un 1)] h=SE aI [] (NY l) (rcF l) [i,j] h:=by
 have g:eqL [X i 0,.slice j 0 s.length (.un 1)] [X i 0,.slice j 0 s.length (.un 1)]=true:=by
  have a:ku (X i 0) (X i 0)=true:=by
   show(match i.eq i with|true=>c! 0 0|false=>false)=true;rw[Pos.eq_self];rfl
  have b:ku (.slice j 0 s.length (.un 1)) (.slice j 0 s.length (.un 1))=true:=by
   show(match j.eq j,c! 0 0,c! s.length s.length with|true,true,true=>c! 1 1|_,_,_=>false)=true;rw[Pos.eq_self,show c! s.length s.length=true from j! _];rfl
  simp only[eqL,a,b]
 have u:aah aI h [rdO,bOb s] 0 [i,j]=some [i,j]:=by
  have e1:Uz rdO (rdO.ren (tau aI [i,j]))=true:=rfl;have x:avf aI rdO rdO [i,j]= [i,j]:=rfl;have y:avf aI (bOb s) (bOb s) [i,j]= [i,j]:=rfl;have w:g! 0 (aeV [i,j])=true:=rfl;have b1:g! (e! 0) (aeV [i,j])=true:=rfl;have z:LP 0 [i,j]=i:=rfl;have n1:LP (e! 0) [i,j]=j:=rfl;simp only[aah,w,b1,z,n1,n,o,x,y,e1,k]
 have v:okC aI (xY s.length) [rdO,bOb s] [X i 0,.slice j 0 s.length (.un 1)] h [i,j]=true:=by
  have e1:Uz rdO (rdO.ren (tau aI [i,j]))=true:=rfl;have r:Ue (tau aI [i,j]) (xY s.length)= [X i 0,.slice j 0 s.length (.un 1)]:=rfl;unfold okC;rw[r,g];simp only[XV,X6,avd,ao8,n,o,e1,k,Pos.eq_false.2 e,Nat.ble_eq,Nat.blt_eq,Bool.and_eq_true,Bool.true_and,Bool.and_true,and_true,true_and];exact⟨⟨hi,c⟩,hj,f⟩
 have E:Xo aI (xY s.length) [rdO,bOb s] [X i 0,.slice j 0 s.length (.un 1)] h=some [i,j]:=by
  have m:Xn aI (xY s.length) [X i 0,.slice j 0 s.length (.un 1)] []= [i,j]:=rfl;have r:Ue (tau aI [i,j]) (xY s.length)= [X i 0,.slice j 0 s.length (.un 1)]:=rfl;unfold Xo;rw[m];dsimp only;rw[r,g,u];dsimp only;rw[v]
 unfold aaw akC;rw[E]
def azS:∀s:List Nat,eqL (s.map λc:Nat=>Y .u8 (c:Int)) (s.map λc:Nat=>Y .u8 (c:Int))=true
 | []=>rfl
 |a::s=>by
  have e:ku (Y .u8 (a:Int)) (Y .u8 (a:Int))=true:=by
   show nR (a:Int) (a:Int)=true;exact j! a
  simp only[a!,eqL,e,azS s]
def aaj:Tab->List Nat->Option (List (List Wo))
 | [],_=>none
 |e::r,s=>if e.1=s then some e.2.1 else aaj r s
def arB(hi:aI<=i.nat)(a:i.nat<h.next.nat)(hj:aI<=j.nat)(c:j.nat<h.next.nat)(b:i≠j)(f:h.get i=some rdO)(g:h.get j=some (bOb s)):∀{T:Tab},aaj T s=some l->aav T [X i 0,.slice j 0 s.length (.un 1)] h=SE aI [] (NY l) (rcF l) [i,j] h
 | [],e=>by cases e
 |x::r,e=>by
  unfold aaj at e;split at e
  ·rename_i k;cases e;unfold aav;rw[k];refine aEk hi a hj c b f g λp q=>?_;rw[az6];show eqL _ _=true;exact azS s
  ·rename_i k;have m:=arB hi a hj c b f g e;unfold aav;by_cases hn:s.length=x.1.length
   ·refine(ax9 hn f g λp q=>?_).trans m;rw[az6];cases hb:Uz (bOb s) (bOb x.1) with
    |false=>rfl
    |true=>exact absurd (aJQ (apB hb)).symm k
   ·exact(aCF hn).trans m
def Sh(t:Pos->Pos)(p q:Pos)(n:Nat):Prop:=∀k,k<n->t (b! (p.nat+k))=b! (q.nat+k)
def Sh.le{t:Pos->Pos}{p q:Pos}{n m:Nat}(a:Sh t p q n)(h:m<=n):Sh t p q m:=λk hk=>a k (by omega)
def Sh.hd{t:Pos->Pos}{p q:Pos}{n:Nat}(a:Sh t p q n)(h:0<n):t p=q:=by
 have:=a 0 h;rwa[k!,k!,Pos.Ii,Pos.Ii]at this
def Sh.tl{t:Pos->Pos}{p q:Pos}{n:Nat}(a:Sh t p q (n+1)):Sh t p.succ q.succ n:=λk hk=>by
 have:=a (k+1) (by omega);rw[Pos.fA,Pos.fA,show p.nat+1+k=p.nat+(k+1) by omega,show q.nat+1+k=q.nat+(k+1) by omega];exact this
variable{t:Pos->Pos}{p q:Pos}
def aDI:∀l:List (List Nat),(wC l).map (V.ren t)=wC l
 | []=>rfl
 |a::l=>by simp only[wC,a!,aDI l];rfl
def avl:∀l:List Wo,(lN l).map (Ob.ren t)=lN l
 | []=>rfl
 | .a _::l=>avl l
 | .l s::l=>by simp only[lN,a!,avl l];rw[show(wOb s).ren t=wOb s by simp only[wOb,Ob.ren,aDI]]
def avm:∀{l:List Wo} {p q:Pos},Sh t p q (lN l).length->(lC p l).map (V.ren t)=lC q l
 | [],_,_,_=>rfl
 | .a _::l,p,q,h=>by simp only[lC,a!,avm (l:=l) h];rfl
 | .l s::l,p,q,h=>by
  have h':Sh t p q ((lN l).length+1):=h;simp only[lC,a!,avm (l:=l) h'.tl];rw[<-h'.hd (by omega)];rfl
def amP:∀{l:List Wo} {p q:Pos} {n:Nat},Sh t p q ((lN l).length+n)->Sh t (adv p l) (adv q l) n
 | [],p,q,n,h=>by rw[show(lN []).length+n=n from i! n]at h;exact h
 | .a _::l,p,q,n,h=>amP (l:=l) h
 | .l s::l,p,q,n,h=>by
  have h':Sh t p q (((lN l).length+n)+1):=by rw[show(lN (.l s::l)).length+n=((lN l).length+n)+1 by simp only[lN,List.length_cons];omega]at h;exact h
  exact amP (l:=l) h'.tl
def azb(l:List Wo)(r:List (List Wo)):(tO p (l::r)).length=(lN l).length+((tO (adv p l).succ r).length+1):=by simp[tO]
def aAc:∀{l:List (List Wo)} {p q:Pos} {n:Nat},Sh t p q ((tO p l).length+n)->Sh t (afc p l) (afc q l) n
 | [],p,q,n,h=>by rw[show(tO p []).length+n=n from i! n]at h;exact h
 |l::r,p,q,n,h=>by
  rw[azb,show(lN l).length+((tO (adv p l).succ r).length+1)+n=(lN l).length+((tO (adv p l).succ r).length+n+1) by omega]at h;exact aAc (l:=r) (amP h).tl
def aDL:∀{l:List (List Wo)} {p q:Pos},Sh t p q (tO p l).length->(tO p l).map (Ob.ren t)=tO q l/\(gC p l).map (V.ren t)=gC q l
 | [],_,_,_=>⟨rfl,rfl⟩
 |l::r,p,q,h=>by
  rw[azb]at h;have a:=amP (l:=l) h;obtain⟨e1,e2⟩:=aDL (l:=r) a.tl;constructor
  ·simp only[tO,h!,a!,avl,e1];rw[show Ob.ren t (O (N 149 false) (lC p l))=O (N 149 false) (lC q l) by simp only[Ob.ren,avm (l:=l) (h.le (Nat.le_add_right _ _))]]
  ·simp only[gC,a!,e2];rw[show V.ren t (.slice (adv p l) 0 l.length (.un 3))=.slice (adv q l) 0 l.length (.un 3) by simp only[V.ren,a.hd (by omega)]];rfl
def aN1{T:Tab}(hi:aI<=i.nat)(a:i.nat<h.next.nat)(hj:aI<=j.nat)(c:j.nat<h.next.nat)(b:i≠j)(m:h.get i=some rdO)(n:h.get j=some (bOb s))(e:aaj T s=some l):
  aav T [X i 0,.slice j 0 s.length (.un 1)] h=D (rcP h.next l) (mkF h (aae h.next l)):=by
 rw[arB hi a hj c b m n e];unfold SE;dsimp only[ZY];obtain⟨t,ht⟩:∃t,t=tau aI (avZ [i,j] (succs h.next (NY l))):=⟨_,rfl⟩
 rw[<-ht];have hb:baP.nat=aI+2:=Pos.fD _;have hl:(NY l).length=(tO baP l).length+1:=by simp[NY,aae]
 have f:Sh t baP h.next ((tO baP l).length+1):=λk hk=>by
  rw[ht];refine TU (by rw[Pos.fD];omega) ?_;rw[Pos.fD,apN,hb,show aI+2+k - aI=k+2 by omega];show(succs h.next (NY l))[k]?=_;exact V8 (by omega)
 obtain⟨e1,e2⟩:=aDL (l:=l) (f.le (Nat.le_succ _));have g:t (afc baP l)=afc h.next l:=(aAc f).hd (by omega);rw[ag8,NY,aae,h!,e1,rcF,rcP,aae,rcP];simp only[V.ren,g,a!,List.map_nil,gOb,Ob.ren,e2]
end
end Go.Proofs.Ik
