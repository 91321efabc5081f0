/- Lemmas that the claim's last text uses. No conditions. -/
import Derived.Test.YtpgppmioigacoaaGreatDoorSAJ
set_option linter.all false
set_option maxRecDepth 100000
open List renaming map_cons→a!,map_append→h!
open Go.Vm.Pos renaming of→b!
open Nat renaming beq→c!,succ→e!,blt→g!,zero_add→i!,beq_refl→j!,add_zero→k!
open Go.Vm.V renaming int→Y,ptr→X,bool→K,str→H
open Go.IntKind renaming i64→U
open Go.Vm.Ob renaming cells→O
open Go.Vm.Wr renaming rw→N
open Go.Vm.R renaming ok→D
noncomputable section
open Go Go.Proofs Go.Vm
namespace Go.Proofs.Ik
def rdO:Ob:=O (N 134 true) [Y U 4000,.aO,.aO,Y U 0,Y U 0,.aO,Y U 0,.aO,K false,Y U 0,K false]
def OB(args:List V):Option (V×List Ob):=match args with
 |Y U n:: []=>if n=4000 then some (X (b! aJ) 0,[rdO]) else none
 |_=>none
theorem aIo{args:List V}{r:V×List Ob}(e:OB args=some r):args= [Y U 4000]/\r=(X (b! aJ) 0,[rdO]):=by
 unfold OB at e;split at e
 ·split at e
  ·rename_i h;cases e;exact⟨by rw[h],rfl⟩
  ·cases e
 ·cases e
def ao7:Fun:=aAe aJ OB auO
theorem aKm:aG Tryz.prog aJ 40 ao7:=axK (l:= [b! aJ]) aDy λargs r e=>by
 obtain⟨rfl,rfl⟩:=aIo e;kernel_rfl
theorem aLB(h:Hp):ao7 [Y U 4000] h=D (X h.next 0) (h.new rdO):=(rfl)
inductive Wo where
 |a (t:List Nat)
 |l (s:List (List Nat))
def wC:List (List Nat)->List V
 | []=> []
 |t::l=>Y U 1:: H t:: .aO::wC l
def wOb(l:List (List Nat)):Ob:=O (N 149 false) (wC l)
def lN:List Wo->List Ob
 | []=> []
 | .a _::l=>lN l
 | .l s::l=>wOb s::lN l
def lC:Pos->List Wo->List V
 |_,[]=> []
 |p,.a t::l=>Y U 1:: H t:: .aO::lC p l
 |p,.l s::l=>Y U 3:: H []:: .slice p 0 s.length (.un 3)::lC p.succ l
def adv:Pos->List Wo->Pos
 |p,[]=>p
 |p,.a _::l=>adv p l
 |p,.l _::l=>adv p.succ l
def tO:Pos->List (List Wo)->List Ob
 |_,[]=> []
 |p,l::r=>lN l++ O (N 149 false) (lC p l)::tO (adv p l).succ r
def gC:Pos->List (List Wo)->List V
 |_,[]=> []
 |p,l::r=>Y U 1:: .slice (adv p l) 0 l.length (.un 3)::gC (adv p l).succ r
def aeN:Pos->List (List Wo)->Pos
 |p,[]=>p
 |p,l::r=>aeN (adv p l).succ r
def gOb(p:Pos)(l:List (List Wo)):Ob:=O (N 94 false) (gC p l)
def Z8(p:Pos)(l:List (List Wo)):List Ob:=tO p l++ [gOb p l]
def rcP(p:Pos)(l:List (List Wo)):V:=.slice (aeN p l) 0 l.length (.un 2)
def bOb(s:List Nat):Ob:=.bytes (s.map λc:Nat=>Y .u8 (c:Int))
def wV(n:Nat):List V:= [X (b! aJ) 0,.slice (b! (aJ+1)) 0 n (.un 1)]
abbrev baP:Pos:=b! (aJ+2)
def LC(l:List (List Wo)):List Ob:=Z8 baP l
def rcF(l:List (List Wo)):V:=rcP baP l
def aau(s:List Nat)(l:List (List Wo))(F:Fun):Fun:=aj7 aJ (wV s.length) [rdO,bOb s] [] (LC l) (rcF l) F
def fV(e:List Nat×List (List Wo)×List Nat):Bool:=
 (match arU aJ 2 (wV e.1.length) [rdO,bOb e.1] [] (LC e.2.1) (rcF e.2.1) with
 |true=>Gu aJ (aJ+2) (patch ([rdO,bOb e.1].map some) []++(LC e.2.1).map some) (e.2.2.map b!) (rcF e.2.1) (Yu (wV e.1.length) (mkO aJ ([rdO,bOb e.1].map some)))
 |false=>false)
abbrev Tab:Type:=List (List Nat×List (List Wo)×List Nat)
def aat:Tab->Fun
 | []=>Yu
 |e::r=>aau e.1 e.2.1 (aat r)
theorem at7:∀{l:Tab},(∀e∈l,fV e=true)->aG Tryz.prog aJ 41 (aat l)
 | [],_=>ami
 |e::r,h=>by
  have a:=h e (by simp);unfold fV at a;split at a
  ·rename_i b;exact aye (at7 λx c=>h x (by simp[c])) b (Does.comp ami rfl a)
  ·cases a
theorem ayF(s:List Nat)(t:Pos->Pos):(bOb s).ren t=bOb s:=by
 simp only[bOb,Ob.ren,List.map_map];congr 1
theorem aIh:∀{s d:List Nat},bOb s=bOb d->s=d:=λ{s d} e=>by
 have h:=Ob.bytes.inj e;have:∀{l k:List Nat},(l.map λc:Nat=>Y .u8 (c:Int))=k.map (λc:Nat=>Y .u8 (c:Int))->l=k:=by
  intro l;induction l with
  |nil=>intro k e;cases k with
   |nil=>rfl
   |cons=>simp at e
  |cons a l f=>intro k e;cases k with
   |nil=>simp at e
   |cons b k=>
    simp only[a!,List.cons.injEq,V.int.injEq,true_and]at e;rw[f e.2,Int.ofNat_inj.1 e.1]
 exact this h
section
variable{s d:List Nat}{l:List (List Wo)}{F:Fun}{h:Hp}{i j:Pos}
theorem aA4{n:Nat}(a:n≠s.length):aau s l F [X i 0,.slice j 0 n (.un 1)] h=F [X i 0,.slice j 0 n (.un 1)] h:=by
 unfold aau aj7 Wu;have:eqL [X i 0,.slice j 0 n (.un 1)] (RY (tau aJ (Ws aJ (wV s.length) [X i 0,.slice j 0 n (.un 1)] [])) (wV s.length))=false:=by
  cases hb:eqL [X i 0,.slice j 0 n (.un 1)] (RY (tau aJ (Ws aJ (wV s.length) [X i 0,.slice j 0 n (.un 1)] [])) (wV s.length)) with
  |false=>rfl
  |true=>
   have:=aeJ hb;simp only[wV,RY,V.ren,List.cons.injEq,V.slice.injEq]at this;exact absurd this.2.1.2.2.1 a
 dsimp only;rw[this]
theorem awJ(hl:d.length=s.length)(e:h.get i=some rdO)(f:h.get j=some (bOb d))(c:∀i j:Pos,SX (bOb d) ((bOb s).ren (tau aJ [i,j]))=false):aau s l F [X i 0,.slice j 0 d.length (.un 1)] h=F [X i 0,.slice j 0 d.length (.un 1)] h:=by
 rw[hl];have a:aae aJ h [rdO,bOb s] 0 [i,j]=none:=by
  have e1:SX rdO (rdO.ren (tau aJ [i,j]))=true:=rfl;have g:atF aJ rdO rdO [i,j]= [i,j]:=rfl;have k:atF aJ (bOb s) (bOb d) [i,j]= [i,j]:=rfl;have b:g! 0 (aeD [i,j])=true:=rfl;have b1:g! (e! 0) (aeD [i,j])=true:=rfl;have n:J3 0 [i,j]=i:=rfl;have o:J3 (e! 0) [i,j]=j:=rfl;simp only[aae,b,b1,n,o,e,f,g,k,e1,c]
 have E:Wu aJ (wV s.length) [rdO,bOb s] [X i 0,.slice j 0 s.length (.un 1)] h=none:=by
  have m:Ws aJ (wV s.length) [X i 0,.slice j 0 s.length (.un 1)] []= [i,j]:=rfl;unfold Wu;rw[m];dsimp only;rw[a];split<;>rfl
 unfold aau aj7;rw[E]
theorem aCM(hi:aJ<=i.nat)(c:i.nat<h.next.nat)(x:aJ<=j.nat)(f:j.nat<h.next.nat)(e:i≠j)(n:h.get i=some rdO)(o:h.get j=some (bOb s))(k:∀i j:Pos,SX (bOb s) ((bOb s).ren (tau aJ [i,j]))=true):
  aau s l F [X i 0,.slice j 0 s.length (.un 1)] h=QD aJ [] (LC l) (rcF l) [i,j] h:=by
 have g:eqL [X i 0,.slice j 0 s.length (.un 1)] [X i 0,.slice j 0 s.length (.un 1)]=true:=by
  have a:kN (X i 0) (X i 0)=true:=by
   show(match i.eq i with|true=>c! 0 0|false=>false)=true;rw[Pos.eq_self];rfl
  have b:kN (.slice j 0 s.length (.un 1)) (.slice j 0 s.length (.un 1))=true:=by
   show(match j.eq j,c! 0 0,c! s.length s.length with|true,true,true=>c! 1 1|_,_,_=>false)=true;rw[Pos.eq_self,show c! s.length s.length=true from j! _];rfl
  simp only[eqL,a,b]
 have u:aae aJ h [rdO,bOb s] 0 [i,j]=some [i,j]:=by
  have e1:SX rdO (rdO.ren (tau aJ [i,j]))=true:=rfl;have y:atF aJ rdO rdO [i,j]= [i,j]:=rfl;have z:atF aJ (bOb s) (bOb s) [i,j]= [i,j]:=rfl;have w:g! 0 (aeD [i,j])=true:=rfl;have b1:g! (e! 0) (aeD [i,j])=true:=rfl;have B:J3 0 [i,j]=i:=rfl;have C:J3 (e! 0) [i,j]=j:=rfl;simp only[aae,w,b1,B,C,n,o,y,z,e1,k]
 have v:okC aJ (wV s.length) [rdO,bOb s] [X i 0,.slice j 0 s.length (.un 1)] h [i,j]=true:=by
  have e1:SX rdO (rdO.ren (tau aJ [i,j]))=true:=rfl;have r:RY (tau aJ [i,j]) (wV s.length)= [X i 0,.slice j 0 s.length (.un 1)]:=rfl;unfold okC;rw[r,g];simp only[XM,XU,atD,aor,n,o,e1,k,Pos.eq_false.2 e,Nat.ble_eq,Nat.blt_eq,Bool.and_eq_true,Bool.true_and,Bool.and_true,and_true,true_and];exact⟨⟨hi,c⟩,x,f⟩
 have E:Wu aJ (wV s.length) [rdO,bOb s] [X i 0,.slice j 0 s.length (.un 1)] h=some [i,j]:=by
  have m:Ws aJ (wV s.length) [X i 0,.slice j 0 s.length (.un 1)] []= [i,j]:=rfl;have r:RY (tau aJ [i,j]) (wV s.length)= [X i 0,.slice j 0 s.length (.un 1)]:=rfl;unfold Wu;rw[m];dsimp only;rw[r,g,u];dsimp only;rw[v]
 unfold aau aj7;rw[E]
theorem ayp:∀s:List Nat,eqL (s.map λc:Nat=>Y .u8 (c:Int)) (s.map λc:Nat=>Y .u8 (c:Int))=true
 | []=>rfl
 |a::s=>by
  have e:kN (Y .u8 (a:Int)) (Y .u8 (a:Int))=true:=by
   show nJ (a:Int) (a:Int)=true;exact j! a
  simp only[a!,eqL,e,ayp s]
def aag:Tab->List Nat->Option (List (List Wo))
 | [],_=>none
 |e::r,s=>if e.1=s then some e.2.1 else aag r s
theorem aqt(hi:aJ<=i.nat)(a:i.nat<h.next.nat)(m:aJ<=j.nat)(c:j.nat<h.next.nat)(b:i≠j)(f:h.get i=some rdO)(g:h.get j=some (bOb s)):∀{T:Tab},aag T s=some l->aat T [X i 0,.slice j 0 s.length (.un 1)] h=QD aJ [] (LC l) (rcF l) [i,j] h
 | [],e=>by cases e
 |x::r,e=>by
  unfold aag at e;split at e
  ·rename_i k;cases e;unfold aat;rw[k];refine aCM hi a m c b f g λp q=>?_;rw[ayF];show eqL _ _=true;exact ayp s
  ·rename_i k;have o:=aqt hi a m c b f g e;unfold aat;by_cases n:s.length=x.1.length
   ·refine(awJ n f g λp q=>?_).trans o;rw[ayF];cases hb:SX (bOb s) (bOb x.1) with
    |false=>rfl
    |true=>exact absurd (aIh (aoQ hb)).symm k
   ·exact(aA4 n).trans o
def Sh(t:Pos->Pos)(p q:Pos)(n:Nat):Prop:=∀k,k<n->t (b! (p.nat+k))=b! (q.nat+k)
theorem Sh.le{t:Pos->Pos}{p q:Pos}{n m:Nat}(a:Sh t p q n)(h:m<=n):Sh t p q m:=λk b=>a k (by omega)
theorem Sh.hd{t:Pos->Pos}{p q:Pos}{n:Nat}(a:Sh t p q n)(h:0<n):t p=q:=by
 have:=a 0 h;rwa[k!,k!,Pos.MN,Pos.MN]at this
theorem Sh.tl{t:Pos->Pos}{p q:Pos}{n:Nat}(a:Sh t p q (n+1)):Sh t p.succ q.succ n:=λk b=>by
 have:=a (k+1) (by omega);rw[Pos.fG,Pos.fG,show p.nat+1+k=p.nat+(k+1) by omega,show q.nat+1+k=q.nat+(k+1) by omega];exact this
variable{t:Pos->Pos}{p q:Pos}
theorem aB8:∀l:List (List Nat),(wC l).map (V.ren t)=wC l
 | []=>rfl
 |a::l=>by simp only[wC,a!,aB8 l];rfl
theorem atL:∀l:List Wo,(lN l).map (Ob.ren t)=lN l
 | []=>rfl
 | .a _::l=>atL l
 | .l s::l=>by simp only[lN,a!,atL l];rw[show(wOb s).ren t=wOb s by simp only[wOb,Ob.ren,aB8]]
theorem atM:∀{l:List Wo} {p q:Pos},Sh t p q (lN l).length->(lC p l).map (V.ren t)=lC q l
 | [],_,_,_=>rfl
 | .a _::l,p,q,h=>by simp only[lC,a!,atM (l:=l) h];rfl
 | .l s::l,p,q,h=>by
  have h':Sh t p q ((lN l).length+1):=h;simp only[lC,a!,atM (l:=l) h'.tl];rw[<-h'.hd (by omega)];rfl
theorem amh:∀{l:List Wo} {p q:Pos} {n:Nat},Sh t p q ((lN l).length+n)->Sh t (adv p l) (adv q l) n
 | [],p,q,n,h=>by rw[show(lN []).length+n=n from i! n]at h;exact h
 | .a _::l,p,q,n,h=>amh (l:=l) h
 | .l s::l,p,q,n,h=>by
  have h':Sh t p q (((lN l).length+n)+1):=by rw[show(lN (.l s::l)).length+n=((lN l).length+n)+1 by simp only[lN,List.length_cons];omega]at h;exact h
  exact amh (l:=l) h'.tl
theorem axP(l:List Wo)(r:List (List Wo)):(tO p (l::r)).length=(lN l).length+((tO (adv p l).succ r).length+1):=by simp[tO]
theorem ayL:∀{l:List (List Wo)} {p q:Pos} {n:Nat},Sh t p q ((tO p l).length+n)->Sh t (aeN p l) (aeN q l) n
 | [],p,q,n,h=>by rw[show(tO p []).length+n=n from i! n]at h;exact h
 |l::r,p,q,n,h=>by
  rw[axP,show(lN l).length+((tO (adv p l).succ r).length+1)+n=(lN l).length+((tO (adv p l).succ r).length+n+1) by omega]at h;exact ayL (l:=r) (amh h).tl
theorem aCc:∀{l:List (List Wo)} {p q:Pos},Sh t p q (tO p l).length->(tO p l).map (Ob.ren t)=tO q l/\(gC p l).map (V.ren t)=gC q l
 | [],_,_,_=>⟨rfl,rfl⟩
 |l::r,p,q,h=>by
  rw[axP]at h;have a:=amh (l:=l) h;obtain⟨e1,e2⟩:=aCc (l:=r) a.tl;constructor
  ·simp only[tO,h!,a!,atL,e1];rw[show Ob.ren t (O (N 149 false) (lC p l))=O (N 149 false) (lC q l) by simp only[Ob.ren,atM (l:=l) (h.le (Nat.le_add_right _ _))]]
  ·simp only[gC,a!,e2];rw[show V.ren t (.slice (adv p l) 0 l.length (.un 3))=.slice (adv q l) 0 l.length (.un 3) by simp only[V.ren,a.hd (by omega)]];rfl
theorem aLM{T:Tab}(hi:aJ<=i.nat)(a:i.nat<h.next.nat)(r:aJ<=j.nat)(c:j.nat<h.next.nat)(b:i≠j)(n:h.get i=some rdO)(o:h.get j=some (bOb s))(e:aag T s=some l):
  aat T [X i 0,.slice j 0 s.length (.un 1)] h=D (rcP h.next l) (mkF h (Z8 h.next l)):=by
 rw[aqt hi a r c b n o e];unfold QD;dsimp only[ZU];obtain⟨t,g⟩:∃t,t=tau aJ (auz [i,j] (succs h.next (LC l))):=⟨_,rfl⟩
 rw[<-g];have hb:baP.nat=aJ+2:=Pos.gV _;have hl:(LC l).length=(tO baP l).length+1:=by simp[LC,Z8]
 have f:Sh t baP h.next ((tO baP l).length+1):=λk u=>by
  rw[g];refine XE (by rw[Pos.gV];omega) ?_;rw[Pos.gV,aoY,hb,show aJ+2+k - aJ=k+2 by omega];show(succs h.next (LC l))[k]?=_;exact ad7 (by omega)
 obtain⟨e1,e2⟩:=aCc (l:=l) (f.le (Nat.le_succ _));have m:t (aeN baP l)=aeN h.next l:=(ayL f).hd (by omega);rw[aoi,LC,Z8,h!,e1,rcF,rcP,Z8,rcP];simp only[V.ren,m,a!,List.map_nil,gOb,Ob.ren,e2]
end
end Go.Proofs.Ik
