/- Lemmas. No conditions. -/
import Derived.Test.YtpgppmioigacoaaGreatDoorFAU
set_option linter.all false
set_option maxRecDepth 100000
open List renaming getElem?_eq_some_iff→a!,mem_append→d!,length_append→g!,range→h!,drop_eq_getElem_cons→i!,getElem?_eq_getElem→k!,flatMap_append→l!,range_succ→o!,append_nil→p!,map_cons→q!,mem_map→r!,map_nil→t!,not_mem_nil→v!,nil_append→w!,length_map→x!,mem_cons→y!
open Go.Vm.Pos renaming of→b!
open Go.Proofs.Tryz renaming prog→c!
open Nat renaming reduceEqDiff→e!,le_refl→j!,add_zero→u!
open Go.Vm.Out renaming ret→n!,nor→z!
open Go.Vm.V renaming int→Y,ptr→X,bool→K,str→H
open Go.IntKind renaming i64→U
open Go.Vm.Ob renaming cells→O
open Go.Vm.Wr renaming rw→N
open Go.Vm.R renaming ok→D
noncomputable section
open Go Go.Vm Go.Ln Go.Proofs Go.Im
namespace Go.Im
def pX(now:List (Int×Ml))(x:Mg):Option (Int×Ml):=now.find? λy=>decide (y.1=x.uid)&&decide (y.2.id=x.id)
def FQ(n:Nat)(l:List (List Nat)):List Nat:= [42,32]++dZ n++ [32]++dH [32] l++ [13,10]
end Go.Im
namespace Go.Proofs.Im
section
variable{h h' g:Hp}{P:Pos->Prop}{p cp i:Pos}{uid only:Bool}{v:V}{L j:List V}{s:List Nat}{w:Wds}{f n:Nat}{b:Bx}{now:List (Int×Ml)}
def acQ{y:Int×Ml}{vk vs:V}{x:Mg}{w:Wr}(kp:Kn g p (O w (mgC x))):yM [.agg (V.ofList (thC y vk vs)),X p 0] g=D (K (decide (y.1=x.uid)&&decide (y.2.id=x.id))) (g.new (O (N 250 true) (thC y vk vs))):=by
 have e1:=(Kn.new g (O (N 250 true) (thC y vk vs))).ld (q:=0) (x:=iV y.1) rfl;have c:=(Kn.new g (O (N 250 true) (thC y vk vs))).ld (q:=1) (x:=iV y.2.id) rfl;have e2:=(kp.add (O (N 250 true) (thC y vk vs))).ld (q:=0) (x:=iV x.uid) rfl;have d:=(kp.add (O (N 250 true) (thC y vk vs))).ld (q:=1) (x:=iV x.id) rfl;rw[amx];by_cases e:y.1=x.uid
 ·have a:(y.1=x.uid)=True:=eq_true e;simp only[vvB,seval,RH,Jm,Jl,V.cZ,e1,e2,c,d,a];simp only[bV,bQ,vvB,seval,bT,Bool.true_and]
 ·have a:(y.1=x.uid)=False:=eq_false e;simp only[vvB,seval,RH,Jm,Jl,V.cZ,e1,e2,c,d,a];simp only[bV,bQ,vvB,seval,bT,Bool.false_and]
def Zj(p:Pos)(x:V)(g:Hp):dD y8 (.func (.func 178) .nil (.cons (X p 0) .nil)) [x] g=yM [x,X p 0] g:=(rfl)
def air(x:V)(h:Hp):BR c! 250 x h=bH 9 x h:=kR
def awM{w:Wr}(kc:Kn h cp (O w [v]))(r:Rws P Ad 9 h v now)(hn:now.length<=1000)(x:Mg):
  ∃h' cs f,Bz [.agg (V.ofList (mgC x)),X cp 0] h=D (.tuple (.cons (.agg (V.ofList cs)) (.cons (K f) .nil))) h'/\Nw h h'/\cs.length=9/\f=(pX now x).isSome/\∀y,pX now x=some y->∃vk vs,cs=thC y vk vs:=by
 obtain⟨u,G,c1,k1⟩:=mkW h (O (N 248 true) (mgC x));obtain⟨h2,I,c2,k2⟩:=mkW u (O (N 250 true) zTh);have c:=c1.trans c2;have V2:=(kc.nw c).ld (q:=0) (x:=v) rfl;have Z:∀g,eP (.func 178) [] [X h.next 0] g=D (.func (.func 178) .nil (.cons (X h.next 0) .nil)) g:=λg=>rfl;obtain⟨o,e3,C⟩:=RS (r.nw dQ c) dQ (λy=>decide (y.1=x.uid)&&decide (y.2.id=x.id)) (by omega) (f:=.func (.func 178) .nil (.cons (X h.next 0) .nil)) (λy cs g _ cg e _=>by
  obtain⟨vk,vs,rfl,-,-⟩:=e;rw[Zj,acQ ((k1.nw c2).nw cg)];exact⟨_,rfl,Nw.new _ _⟩)
 have d:kT [v,.func (.func 178) .nil (.cons (X h.next 0) .nil)] h2=D (iV (fE (now.findIdx? λy=>decide (y.1=x.uid)&&decide (y.2.id=x.id)))) o:=e3;have J:=k2.nw C;have n1:=c1.next;have m:=FU (f:=λy:Int×Ml=>decide (y.1=x.uid)&&decide (y.2.id=x.id)) (l:=now);have B3:bW zTh [] o=D (.agg (V.ofList zTh)) o:=(rfl)
 rw[Xk];cases B:now.findIdx? (λy=>decide (y.1=x.uid)&&decide (y.2.id=x.id)) with
 |none=>
  rw[B]at d m;simp only[fE]at d;have E:pX now x=none:=m;obtain⟨k,a⟩:∃k,k=o.put u.next (some (O (N 250 true) zTh)):=⟨_,rfl⟩
  have M:aS 9 (X u.next 0) (.agg (V.ofList zTh)) o=D V.undef k:=by rw[a];exact J.stN rfl rfl
  have S:Kn k u.next (O (N 250 true) zTh):=by rw[a];exact J.put _
  have Q:Nw h k:=by rw[a];exact(c.trans C).put (by omega) _
  simp(disch:=omega)only[vvB,seval,Bh,wB,wz,wu,Nc,V.cZ,<-G,<-I,V2,Z,d,B3,M];exact⟨k,zTh,false,by simp only[bV,bQ,vvB,seval,air,S.ldN (n:=9) rfl,bT]<;>rfl,Q,rfl,by rw[E];rfl,λy e=>by rw[E]at e;cases e⟩
 |some t=>
  rw[B]at d m;simp only[fE]at d;obtain⟨y,hy⟩:∃y,now[t]?=some y:=by
   obtain⟨ht,-⟩:=List.findIdx?_eq_some_iff_getElem.1 B;exact⟨_,k! ht⟩
  have E:pX now x=some y:=by rw[show pX now x=_ from m];exact hy
  obtain⟨i,q,cs,ix,ex,aa,-,-,-,ln⟩:=(r.nw dQ (c.trans C)).elt hy;obtain⟨vk,vs,rfl,-,-⟩:=ex;have W:=ln o rfl;have V3:=((kc.nw c).nw C).ld (q:=0) (x:=v) rfl;obtain⟨k,a⟩:∃k,k=o.put u.next (some (O (N 250 true) (thC y vk vs))):=⟨_,rfl⟩
  have M:aS 9 (X u.next 0) (.agg (V.ofList (thC y vk vs))) o=D V.undef k:=by rw[a];exact J.stN rfl rfl
  have S:Kn k u.next (O (N 250 true) (thC y vk vs)):=by rw[a];exact J.put _
  have Q:Nw h k:=by rw[a];exact(c.trans C).put (by omega) _
  simp(disch:=omega)only[vvB,seval,Bh,wB,wz,wu,MZ,V.cZ,<-G,<-I,V2,Z,d,V3,ix,W,M];exact⟨k,thC y vk vs,true,by simp only[bV,bQ,vvB,seval,air,S.ldN (n:=9) rfl,bT]<;>rfl,Q,rfl,by rw[E];rfl,λz e=>by rw[E]at e;cases e;exact⟨vk,vs,rfl⟩⟩
def aIU{b:Nat}(d:Bd b h i 0 141 L s){n:Nat}(hn:n<100){l:List (List Nat)}(sl:Sl h.next.nat h 1 v l.length (l.map H))(e:zn 1 v)(hl:l.length<=100)(Q:fP l<=1000000)(hb:∀t∈l,∀c∈t,c<256)(hj:l.length<=1\/dH [32] l≠ [])(Z:s.length<=1000000):
  ∃r h' m,KO [Y U (n:Int),v,X i 0] h=D r h'/\Bd b h' i 0 141 m (s++FQ n l)/\Stp (OfB i 0 L) h (OfB i 0 m) h':=by
 have W:=kQ hn;obtain⟨r1,J,e1,rfl,o⟩:=UF (sep:= [32]) sl e (j! _) (by omega) (by simp) (by omega) hb (by simp) hj;have M:(dH [32] l).length<=1000100:=by
  cases l with
  |nil=>simp[dH]
  |cons a r=>
   rw[xI,g!,WM];simp[fP]at Q⊢;simp at hl;omega
 obtain⟨r2,u,G,e2,b2,S,-,-⟩:=Uj (d.ch o λ_ _ _ q=>q) (FQ n l) (by unfold FQ;simp;omega);have I:=Gw hn h;have Sa:∀(x y:List Nat) (g:Hp),x.length+y.length<4000000->aH .add .none (H x) (H y) g=D (H (x++y)) g:=λx y g hl=>dw (by omega);have z:=λg=>Sa [42,32] (dZ n) g (by simp;omega);have B:=λg=>Sa ([42,32]++dZ n) [32] g (by simp;omega);have C:=λg=>Sa ([42,32]++dZ n++ [32]) (dH [32] l) g (by simp;omega);have E:=λg=>Sa ([42,32]++dZ n++ [32]++dH [32] l) [13,10] g (by simp;omega);have k:yP [X i 0,H ([42,32]++dZ n++ [32]++dH [32] l++ [13,10])] J=D r2 u:=e2;rw[apE];simp only[vvB,seval,ahl,ZB,I,z,B,e1,C,E,k];exact⟨_,u,G,by simp only[bV,bQ,vvB,seval,bT]<;>rfl,b2,((Stp.refl (OfB i 0 L) h).step o λ_ q=>q.elim).trans S⟩
end
section
variable{h g:Hp}{J:Pos->Prop}{pv i:Pos}{only u:Bool}{v:V}{box had:Int}{L a:List V}{s:List Nat}{w:Wds}{f n:Nat}{now:List (Int×Ml)}
def aCM{w:Wr}(k:Kn h i (O w L))(j:L[1]?=some .aP):KW [X i 0] h=D (H []) h:=by
 have b:=k.ld j;have c:BN .aP h=D .dn h:=rfl;have d:aZ 2 .aP h=D (Y U 0) h:=rfl;have e:IZ 5 .dn (Y U 0) h=D (H []) h:=rfl;rw[atl];simp(disch:=omega)only[vvB,seval,axW,axG,al9,b,c,d,e,qw (v:=.aP) rfl b];simp only[bV,bQ,vvB,seval,bT]
def aHD{cs:List V}(hl:cs.length=9)(h:Hp):aS 9 (X h.next 0) (.agg (V.ofList cs)) (h.new (O (N 250 true) zTh))=D V.undef (h.new (O (N 250 true) cs)):=by
 have:=BK (h:=h) (t:=250) (f:=true) (z:=zTh) (l:=V.ofList cs) (n:=9) (V.iI _) (by rw[V.cZ];exact hl) rfl;rw[V.cZ]at this;exact this
structure Upd (h:Hp) (J:Pos->Prop) (pv:Pos) (box had:Int) (now:List (Int×Ml)) (pb pn:Pos) (top:Nat) (Pn:Pos->Prop) (rn:V) (g:Hp) (m':List Mg) (vw':V) (s:List Nat) (L:List V):Prop where
 vk:VwK g J pv box had m' vw'
 bd:Bd h.next.nat g pb 0 141 L s
 ofb:∀j,OfB pb 0 L j->j=pb\/top<=j.nat
 nil:s= []->L[1]?=some .aP
 rows:Rws Pn Ad 9 g rn now
 cell:Kn g pn (O (N 242 true) [rn])
 ch:Ch J h g
 lt:pb.nat<pn.nat/\pn.nat<top/\h.next.nat<=pb.nat
 pn_:∀j,Pn j->pb.nat<j.nat/\j.nat<top/\j≠pn
def Upd.nw{pb pn:Pos}{top:Nat}{Pn:Pos->Prop}{rn:V}{g g':Hp}{m':List Mg}{vw':V}(u:Upd h J pv box had now pb pn top Pn rn g m' vw' s L)(c:Nw g g'):Upd h J pv box had now pb pn top Pn rn g' m' vw' s L where
 vk:=u.vk.ch c λ_ _ q=>q
 bd:=u.bd.ch c λ_ _ _ q=>q
 ofb:=u.ofb
 nil:=u.nil
 rows:=u.rows.nw dQ c
 cell:=u.cell.nw c
 ch:=u.ch.nw c
 lt:=u.lt
 pn_:=u.pn_
def Upd.say{pb pn:Pos}{top:Nat}{Pn:Pos->Prop}{rn:V}{g g':Hp}{m':List Mg}{vw':V}{m:List Nat}{b:List V}(u:Upd h J pv box had now pb pn top Pn rn g m' vw' s L)(k:∀j,J j->j.nat<h.next.nat)(p:top<=g.next.nat)(d:Bd h.next.nat g' pb 0 141 b m)(c:Stp (OfB pb 0 L) g (OfB pb 0 b) g')(r:m≠ []):Upd h J pv box had now pb pn top Pn rn g' m' vw' m b where
 vk:=u.vk.ch c.ch λj q o=>by have:=k j q;have:=(o.from u.bd _).1;omega
 bd:=d
 ofb:=λj o=>(c.sub j o).elim (u.ofb j) λl=>.inr (by omega)
 nil:=λe=>absurd e r
 rows:=u.rows.ch dQ c.ch λj _ q=>⟨q,λo=>(u.ofb j o).elim (λe=>by have:=u.pn_ j q;rw[e]at this;omega) λe=>by have:=u.pn_ j q;omega⟩
 cell:=u.cell.ch c.ch λo=>(u.ofb _ o).elim (λe=>by have:=u.lt;rw[e]at this;omega) λe=>by have:=u.lt;omega
 ch:=u.ch.trans c.ch λj hj o=>by have:=(o.from u.bd _).1;omega
 lt:=u.lt
 pn_:=u.pn_
def Upd.del{pb pn:Pos}{top:Nat}{Pn:Pos->Prop}{rn:V}{g g':Hp}{m' k:List Mg}{vw' d:V}(u:Upd h J pv box had now pb pn top Pn rn g m' vw' s L)(b:∀j,J j->j.nat<h.next.nat)(vk:VwK g' J pv box had k d)(c:Ch J g g'):Upd h J pv box had now pb pn top Pn rn g' k d s L where
 vk:=vk
 bd:=u.bd.ch c λj hb _ q=>by have:=b j q;omega
 ofb:=u.ofb
 nil:=u.nil
 rows:=u.rows.ch dQ c λj _ q=>⟨q,λe=>by have:=b j e;have:=u.pn_ j q;have:=u.lt;omega⟩
 cell:=u.cell.ch c λe=>by have:=b _ e;have:=u.lt;omega
 ch:=u.ch.trans c λ_ _ q=>q
 lt:=u.lt
 pn_:=u.pn_
end
end Go.Proofs.Im
namespace Go.Im
abbrev okS:List Nat:= [79,75]
abbrev anC:List Nat:= [100,111,110,101]
abbrev ah6:List Nat:= [79,75,32,100,111,110,101]
def okT(d tx:List Nat):List Nat:=if tx= [] then lineS [d,ah6] else lineS [d,okS,[91]++tx++ [93],anC]
def an2(A:Acc)(ks:Int×Int×List (Int×Int×Int)):Prop:=∀x∈ks.2.2,((Wn A.mails ks.1).find? λy=>decide (y.1=x.1)&&decide (y.2.id=x.2.1)).isSome=true
structure CanUpd (A:Acc) (ks:Int×Int×List (Int×Int×Int)):Prop where
 small:A.Small
 few:ks.2.2.length<50
 sorted:(Wn A.mails ks.1).Pairwise λx y=>x.1<y.1
 few2:(Wn A.mails ks.1).length<50
 old:∀x∈ks.2.2,∀y,(Wn A.mails ks.1).find? (λy=>decide (y.1=x.1)&&decide (y.2.id=x.2.1))=some y->y.2.mod<=x.2.2
 had:∀y∈Wn A.mails ks.1,y.1<=ks.2.1
end Go.Im
namespace Go.Proofs.Im
section
variable{bb:Nat}{h h' g h0:Hp}{P F I J Z:Pos->Prop}{ps pl ib ir pc im a0:Pos}{cb:Cap}{fb uid only last bare part:Bool}{vm vl vv vw:V}{st:Sn}{L:List V}{s d tx:List Nat}{w:Wds}{f n:Nat}{b:Bx}{m:List Mg}
def WE(h0:Hp)(Z:Pos->Prop)(h:Hp)(pc im ps:Pos)(st:Sn):Prop:=
 ∃F J pl ib cb fb vm vl vv I,World h pc im ps st F J pl ib cb fb vm vl vv I/\(∀j,Ft F J pc im j->Z j\/h0.next.nat<=j.nat)/\Ch Z h0 h
def Rq.we(q:Rq bb h0 Z h pc im ps ir uid w s st L vw P F J pl ib cb fb vm vl vv I):WE h0 Z h pc im ps st:=⟨F,J,pl,ib,cb,fb,vm,vl,vv,I,q.wd,q.foot,q.chz⟩
def awN(x y:V)(h:Hp):aaw [.dn,x,y] h=D (H []) h:=by
 rw[atm];simp only[vvB,seval,apn,amc,amb,aiW];simp only[bV,bQ,vvB,seval,bT]
def doX:Go.Vm.F->Hp->Out:=aB (aB abR (tT 104 al3 al2)) (aB abQ n!)
def aIy(b:Bool):eqV (K b) (K b)=true:=by cases b<;>rfl
def wM{l:List (List Nat)}(hl:∀t∈l,∀c∈t,c<256):∀c∈lineS l,c<256:=by
 have hj:∀c∈dH [32] l,c<256:=by
  cases l with
  |nil=>intro c i;simp[dH]at i
  |cons a r=>
   intro x e;rw[xI,d!]at e;rcases e with e|e
   ·exact hl a (by simp) x e
   ·unfold zl at e;obtain⟨y,o,k⟩:=List.mem_flatten.1 e;obtain⟨t,j,rfl⟩:=r!.1 o;rcases d!.1 k with q|q
    ·simp at q;omega
    ·exact hl t (by simp[j]) x q
 intro c i;unfold lineS at i;rcases d!.1 i with q|q
 ·exact hj c q
 ·simp at q;omega
def aFg(q:Rq bb h0 Z h pc im ps ir uid w s st L vw P F J pl ib cb fb vm vl vv I)(ka:Kn h a0 (O (N tA true) (anL 0 tx last bare part)))(na:¬OfB ir 5 L a0)(hs:s.length<=1000000)(C:∀c∈s,c<256)(v:d.length<=1000000)(k:∀c∈d,c<256)(hx:tx.length<=1000)(G:∀c∈tx,c<256)
  {fr:Go.Vm.F} (a:fr.get (b! 10)=some (X ir 0)) (e:fr.get (b! 11)=some (X a0 0)) (W:fr.get (b! 12)=some (H d)):
  aV c! [.tmp 8,.tmp 9] (λr h'=>r=.tuple (.cons (H (s++okT d tx)) (.cons (K (!last)) .nil))/\WE h0 Z h' pc im ps st) (doX fr h):=by
 have A1:=ka.ld (q:=1) (x:=H tx) rfl;have fin:∀{M:Hp} {S:List V} {t:List Nat} {fr:Go.Vm.F},Rq bb h0 Z M pc im ps ir uid w (s++t) st S vw P F J pl ib cb fb vm vl vv I->Kn M a0 (O (N tA true) (anL 0 tx last bare part))->¬OfB ir 5 S a0->t≠ []->t.length<=3000000->(∀c∈t,c<256)->fr.get (b! 10)=some (X ir 0)->fr.get (b! 11)=some (X a0 0)->
   aV c! [.tmp 8,.tmp 9] (λr h'=>r=.tuple (.cons (H (s++t)) (.cons (K (!last)) .nil))/\WE h0 Z h' pc im ps st) (aB abQ n! fr M):=by
  intro M S t fr u Q n2 aa ab E a e;obtain⟨h3,e3,c3,n3⟩:=afk u.bd (by simp[aa]) (λc i=>by rcases d!.1 i with q|q;exact C c q;exact E c q) (by simp;omega);have k3:=Q.ch c3 λo=>n2 o.1;have B2:=Q.ld (q:=2) (x:=K last) rfl;have B3:=k3.ld (q:=2) (x:=K last) rfl;simp(disch:=omega)only[vvB,seval,abQ,a,e,e3,B3,MS (m:=λh=>aF (X a0 2) h) B2 (aIy last)];refine aV.ret (qT0) ⟨rfl,F,J,pl,ib,cb,fb,vm,vl,vv,I,u.wd.ch c3 λj f o=>u.dis j o.1 f,u.foot,u.chz.trans c3 λj hj o=>(u.ob j o.1).resolve_right (by omega)⟩
 unfold doX;by_cases z:tx= []
 ·have p:(tx= [])=True:=eq_true z;obtain⟨r2,M,S,e2,u,p2⟩:=q.say (el:=9) [d,ah6] (n:=2) rfl (by omega) (by simp[fP];omega) (by
   intro t v;simp at v;rcases v with rfl|rfl
   ·exact k
   ·decide) (.inr (by simp[dH])) (by simp[dH];omega)
  simp only[q!,t!]at e2;obtain⟨Q,n2⟩:=keepA p2 ka na;have ho:okT d tx=dH [32] [d,ah6]++ [13,10]:=by unfold okT;rw[if_pos z];rfl
  rw[ho];simp(disch:=omega)only[vvB,seval,abR,al2,a,e,W,A1,p,aqb,e2];have:=fin (fr:=(T.set (some (K false)) (b! 104) fr)) u Q n2 (by simp) (by simp[dH];omega) (λc i=>wM (l:= [d,ah6]) (by
   intro t v;simp at v;rcases v with rfl|rfl
   ·exact k
   ·decide) c i) (qK2 a) (qK2 e)
  simpa only[vvB,seval]using this
 ·have p:(tx= [])=False:=eq_false z;have Sa:∀(x y:List Nat) (g:Hp),x.length+y.length<4000000->aH .add .none (H x) (H y) g=D (H (x++y)) g:=λx y g hl=>dw (by omega);have S1:=λg=>Sa [91] tx g (by simp;omega);have S2:=λg=>Sa ([91]++tx) [93] g (by simp;omega);have B:∀t∈ [d,okS,[91]++tx++ [93],anC],∀c∈t,c<256:=by
   intro t v;simp only[y!,v!,or_false]at v;rcases v with rfl|rfl|rfl|rfl
   ·exact k
   ·decide
   ·intro c i;rw[d!,d!]at i;rcases i with(i|i)|i
    ·revert c;decide
    ·exact G c i
    ·revert c;decide
   ·decide
  obtain⟨r2,M,S,e2,u,p2⟩:=q.say (el:=9) [d,okS,[91]++tx++ [93],anC] (n:=4) rfl (by omega) (by simp[fP];omega) B (.inr (by simp[dH])) (by simp[dH];omega);simp only[q!,t!]at e2;obtain⟨Q,n2⟩:=keepA p2 ka na;have ho:okT d tx=dH [32] [d,okS,[91]++tx++ [93],anC]++ [13,10]:=by unfold okT;rw[if_neg z];rfl
  rw[ho];simp(disch:=omega)only[vvB,seval,abR,al3,a,e,W,A1,p,S1,S2,aqa,e2];have:=fin (fr:=(T.set (some (K true)) (b! 104) fr)) u Q n2 (by simp) (by simp[dH];omega) (λc i=>wM (l:= [d,okS,[91]++tx++ [93],anC]) B c i) (qK2 a) (qK2 e);simpa only[vvB,seval]using this
end
end Go.Proofs.Im
namespace Go.Im
abbrev noS:List Nat:= [32,78,79,32]
end Go.Im
namespace Go.Proofs.Im
section
variable{bb:Nat}{h h' h0:Hp}{P F I J Z:Pos->Prop}{ps pl ib ir pc im:Pos}{cb:Cap}{fb only:Bool}{v vm vl vv vw:V}{st st2:Sn}{L b:List V}{s s2 nm:List Nat}{w:Wds}{n:Nat}
def aEU{v c s:V}{n:Int}(e:v.cells= [v]/\ig v=true)(a:c.cells= [c]/\ig c=true)(d:s.cells= [s]/\ig s=true)(h:Hp):
  bW [.dn,.dn,Y U 0,.aP,K false,.dn,.aP] [(0,1,c),(1,1,s),(2,1,Y U n),(3,1,v)] h=D (.agg (.cons c (.cons s (.cons (Y U n) (.cons v (.cons (K false) (.cons .dn (.cons .aP .nil)))))))) h:=by
 unfold bW;simp only[Tt,e.1,e.2,a.1,a.2,d.1,d.2];rfl
def aKW:liesAt c! c!.depth 143 (7 / c!.cellsOf 143) 5 141 1=true:=kR
def asq{a:List ResultVar}{Q Q':V->Hp->Prop}{o:Out}(t:aV c! a Q o)(c:∀r h,Q r h->Q' r h):aV c! a Q' o:=by
 obtain⟨r,h,e,q⟩:=t;exact⟨r,h,e,c r h q⟩
def afJ(a l:V):(V.cons a l).list=a::l.list:=(rfl)
def alu:V.nil.list= []:=(rfl)
def aJB:aKm=(aB Uh (aB (bD 0 (aB Ug (tT 13 (aB ara n!) (aB Uf (tT 20 (aB aq9 n!) (aB Ue (tT 24 (aB aq8 n!) z!))))))) (aB Ud (aB Ub (aB TY (aB Nv (aB (bD 1 (aB Nu (tT 66 (aB abT n!) (aB VS (tT 76 (aB al4 n!) z!))))) (aB (aB VR (tT 88 abS z!)) doX)))))))):=rfl
def aaQ(t:TypeId)(h:Hp):fA t [Y U 0,H [],K false,K false,K false] h=D (X h.next 0) (h.new (O (N t true) zAn)):=(rfl)
def Jj(pc im ps:Pos)(w:Wds)(nm:List Nat)(st:Sn)(b:List V)(s2:List Nat)(st2:Sn):Prop:=
 ∀(bb:Nat) (h0:Hp) (Z:Pos->Prop) (h:Hp) (ir:Pos) (L:List V) (vw:V) (P F J:Pos->Prop) (pl ib:Pos) (cb:Cap) (fb:Bool) (vm vl vv:V) (I:Pos->Prop),Rq bb h0 Z h pc im ps ir false w [] st L vw P F J pl ib cb fb vm vl vv I->
  ∃h' vw' P' w' a,ahT [X pc 0,X ir 0,H nm] h=D (.agg (V.ofList b)) h'/\DF bb h0 Z vw' P' h' pc im ps ir a w' s2 st2
end
section
variable{h h' g:Hp}{P F I J:Pos->Prop}{ps pl ib pc im i:Pos}{A B:Acc}{cb:Cap}{fb only u:Bool}{v vm vl vv vw:V}{st st2:Sn}{s:List Nat}{w:Wds}{k f n:Nat}
def Told.atN{P:Pos->Prop}{h:Hp}{v:V}{gs:List Ln.Got}(t:Told P h v gs){k:Nat}{g:Ln.Got}(e:gs[k]?=some g):
  ∃j q vw,(∀h',aX 2 v (Y U (k:Int)) h'=D (X j q) h')/\bH 2 (X j q) h=D (.agg (.cons (Y U g.kind) (.cons vw .nil))) h/\UO P h vw g.words:=by
 obtain⟨cs,o,i,w⟩:=t;have c:k<gs.length:=(a!.1 e).1;obtain⟨a,vw,b,d⟩:=w.get e;obtain⟨j,q,e1,-,-,e2⟩:=o.sl.atN c;refine⟨j,q,vw,e1,?_,d⟩;rw[e2 h rfl];obtain⟨l0,x0⟩:=a!.1 a;obtain⟨l1,l⟩:=a!.1 b;rw[i! l0,i! l1,x0,l];rfl
def oU(pc im ps:Pos)(g:Ln.Got)(st:Sn)(t:List Nat)(on:Bool)(a:Sn):Prop:=
 t.length<=2000000/\∀(h:Hp) (F J:Pos->Prop) (pl ib:Pos) (cb:Cap) (fb:Bool) (vm vl vv:V) (I:Pos->Prop) (P:Pos->Prop) (vw:V),World h pc im ps st F J pl ib cb fb vm vl vv I->WS P h vw g.words->(∀j,P j->¬Ft F J pc im j)->
  ∃h',aiB [X pc 0,X ps 0,Y U 0,.agg (.cons (Y U g.kind) (.cons vw .nil))] h=D (.tuple (.cons (H t) (.cons (K on) .nil))) h'/\WE h (Ft F J pc im) h' pc im ps a
inductive Alls (pc im ps:Pos):List Ln.Got->Sn->List Nat->Sn->Prop
 |nil (st:Sn):Alls pc im ps [] st [] st
 |go {g:Ln.Got} {gs:List Ln.Got} {st st1 st2:Sn} {t u:List Nat}:oU pc im ps g st t true st1->Alls pc im ps gs st1 u st2->Alls pc im ps (g::gs) st (t++u) st2
 |stop {g:Ln.Got} {gs:List Ln.Got} {st st1:Sn} {t:List Nat}:oU pc im ps g st t false st1->Alls pc im ps (g::gs) st t st1
def aHo{s t:List Nat}{gs:List Ln.Got}{st c:Sn}{d m:Pos->Prop}(W:World h pc im ps st d m pl ib cb fb vm vl vv I)(hG:Ik.aI<=h.next.nat)(hF:Fed s gs)(ha:Alls pc im ps gs st t c):
  ∃h',yC [X pc 0,X ps 0,H s] h=D (H t) h'/\WE h (Ft d m pc im) h' pc im ps c:=by
 obtain⟨hl,aq,ag⟩:=hF;obtain⟨v,G,ad,y,E⟩:=ag h hG;have au:=y.next;have hZ:=W.lt;have af:Gm (H s) (h.new Ik.rdO)=D (.slice h.next.succ 0 s.length (.un 1)) ((h.new Ik.rdO).new (.bytes (bys s))):=avn (by omega);have ac:amB [Y U 4000] h=D (X h.next 0) (h.new Ik.rdO):=Ik.aQy h;rw[azP]
 suffices T:aV c! [.tmp 6] (λr h'=>r=H t/\WE h (Ft d m pc im) h' pc im ps c) (amm (T.set (some (H s)) (b! 2) (T.set (some (X ps 0)) (b! 1) (T.set (some (X pc 0)) (b! 0) T.nil))) h) by
  obtain⟨r,h',e,rfl,w⟩:=T;exact⟨h',e,w⟩
 simp(disch:=omega)only[vvB,seval,amm,amc,aoP,aoO,aoN,ac,af,ad];refine Oc.then (dX (n:=gs.length) (λ μ fr g=>∃(k:Nat) (acc u:List Nat) (si:Sn),fr.get (b! 0)=some (X pc 0)/\fr.get (b! 1)=some (X ps 0)/\fr.get (b! 7)=some v/\fr.get (b! 8)=some (H acc)/\fr.get (b! 9)=some (Y U (k:Int))/\
   k+μ=gs.length/\Alls pc im ps (gs.drop k) si u c/\acc++u=t/\acc.length<=k*2000000/\Told (λj=>h.next.nat<=j.nat/\j.nat<G.next.nat) g v gs/\G.next.nat<=g.next.nat/\
   ∃F J pl ib cb fb vm vl vv I,World g pc im ps si F J pl ib cb fb vm vl vv I/\(∀j,Ft F J pc im j->j.nat<h.next.nat\/G.next.nat<=j.nat)/\(∀j,Ft F J pc im j->Ft d m pc im j\/h.next.nat<=j.nat)/\Ch (Ft d m pc im) h g)
  (A:=λfr g=>fr.get (b! 8)=some (H t)/\WE h (Ft d m pc im) g pc im ps c) (B:=λ_ _=>False) (by rw[dR];omega) ?_ ?_) ?_ ?_
 ·exact⟨0,[],t,st,qK0,qK0,qK0,qK0,qK1,by omega,ha,rfl,by simp,E,j! _,d,m,pl,ib,cb,fb,vm,vl,vv,I,W.ch y (λ_ _ q=>q),λj f=>.inl (hZ j f),λj f=>.inl f,y.ch⟩
 ·rintro μ fr g ⟨k,acc,u,si,f0,f1,f7,Q,f9,hk,a,hu,ao,tg,ar,F,J,pl,ib,cb,fb,vm,vl,vv,I,w,b,z,cg⟩;by_cases hz:μ=0
  ·have ah:gs.length<=k:=by omega
   rw[List.drop_eq_nil_of_le ah]at a;cases a;rw[p!]at hu;subst hu;simp(disch:=omega)only[vvB,seval,TF,TA,f7,f9,Told.len tg];exact⟨rfl,qK2 Q,F,J,pl,ib,cb,fb,vm,vl,vv,I,w,z,cg⟩
  ·have Z:k<gs.length:=by omega
   have S:gs[k]?=some gs[k]:=k! Z;rw[i! Z]at a;generalize gs[k]=gk at S a;obtain⟨j,q,vw,i1,i2,wr⟩:=tg.atN S;have ap:k*2000000<=1000*2000000:=Nat.mul_le_mul_right _ (by omega);have next:∀{x:List Nat} {on:Bool} {s1:Sn},oU pc im ps gk si x on s1->∃o,aiB [X pc 0,X ps 0,Y U 0,.agg (.cons (Y U gk.kind) (.cons vw .nil))] g=D (.tuple (.cons (H x) (.cons (K on) .nil))) o/\x.length<=2000000/\Told (λj=>h.next.nat<=j.nat/\j.nat<G.next.nat) o v gs/\G.next.nat<=o.next.nat/\
     ∃F J pl ib cb fb vm vl vv I,World o pc im ps s1 F J pl ib cb fb vm vl vv I/\(∀j,Ft F J pc im j->j.nat<h.next.nat\/G.next.nat<=j.nat)/\(∀j,Ft F J pc im j->Ft d m pc im j\/h.next.nat<=j.nat)/\Ch (Ft d m pc im) h o:=by
    intro x on s1 hd;obtain⟨o,M,F',J',ak,aj,ab,ae,am,al,an,I',w3,p,L⟩:=hd.2 g F J pl ib cb fb vm vl vv I _ vw w wr.ws λj q f=>by have:=b j f;omega
    have n3:=L.next;refine⟨o,M,hd.1,tg.ch L λj _ q=>⟨q,λf=>by have:=b j f;omega⟩,by omega,F',J',ak,aj,ab,ae,am,al,an,I',w3,λj f=>(p j f).elim (b j) λl=>.inr (by omega),λj f=>(p j f).elim (z j) λl=>.inr (by omega),cg.trans L λj hj f=>(z j f).resolve_right (by omega)⟩
   cases a with
   |go hd C=>
    rename_i st1 x u1;obtain⟨o,M,ai,aa,n3,w3⟩:=next hd
    have S1:∀h,aH .add .none (H acc) (H x) h=D (H (acc++x)) h:=λh=>dw (by omega);simp(disch:=omega)only[vvB,seval,TF,TA,ni,abD,abC,abB,f0,f1,f7,Q,f9,Told.len tg,i1,i2,M,S1];exact⟨μ - 1,by omega,k+1,acc++x,u1,st1,qK2 f0,qK2 f1,qK2 f7,qK0,qK1,by omega,C,by rw[List.append_assoc];exact hu,by rw[g!];omega,aa,n3,w3⟩
   |stop hd=>
    obtain⟨o,M,ai,aa,n3,F,J,pl,ib,cb,fb,vm,vl,vv,I,w3,-,p,L⟩:=next hd
    have S1:∀h,aH .add .none (H acc) (H u) h=D (H (acc++u)) h:=λh=>dw (by omega);simp(disch:=omega)only[vvB,seval,TF,TA,abD,abC,abB,f0,f1,f7,Q,f9,Told.len tg,i1,i2,M,S1];exact⟨rfl,qK2 hu,F,J,pl,ib,cb,fb,vm,vl,vv,I,w3,p,L⟩
 ·rintro fr g ⟨Q,w⟩;simp(disch:=omega)only[vvB,seval,aoL,Q];exact aV.ret (qT0) ⟨rfl,w⟩
 ·intro fr g q;exact q.elim
end
end Go.Proofs.Im
namespace Go.Vm
section
variable{h:Hp}
def ldL{i:Pos}{wr:Wr}{l r:List V}{n:Nat}(a:h.get i=some (O wr (l++r)))(hn:l.length=n):bH n (X i 0) h=D (.agg (V.ofList l)) h:=by
 show dV h i (λ_ cs=>match gy n (fB 0 cs) with|some l=>R.ok (V.agg (V.ofList l)) h|none=>.bad)=_;rw[dW (wr:=wr) (all:=l++r) (by rw[a];rfl)];rw[uO (cs:=l) (λf b=>by rw[Nat.zero_add,List.getElem?_append_left (by omega)]) hn]
def arZ:∀{l m:List V},l.length=m.length->Td l m=some l
 | [],[],_=>rfl
 | [],_::_,h=>by cases h
 |_::_,[],h=>by cases h
 |a::l,b::m,h=>by
  show Option.casesOn (motive:=λ_=>Option (List V)) (Td l m) none (λr=>some (a::r))=_;rw[arZ (by simpa using h)]
def stL{i:Pos}{t:TypeId}{f:Bool}{l m:List V}{n:Nat}(d:h.get i=some (O (N t f) m))(e:l.length=m.length)(hn:l.length=n):aS n (X i 0) (.agg (V.ofList l)) h=D V.undef (h.put i (some (O (N t f) l))):=by
 have b:V.cells (.agg (V.ofList l))=l:=V.cZ l;rw[xB d rfl (by rw[b,hn,Nat.beq_refl]),b];show(match Td l m with|some a=>R.ok V.undef (h.put i (some (O (N t f) a)))|none=>.bad)=_;rw[arZ e]
end
end Go.Vm
namespace Go.Proofs.Im
def awo(x:V)(h:Hp):BR c! 62 x h=bH 9 x h:=kR
def aFk{h:Hp}{i:Pos}{wr:Wr}{l r:List V}(o:h.get i=some (O wr (l++r)))(hl:l.length=9)(hi:i.nat<h.next.nat):∃h',aut [X i 0] h=D (.agg (V.ofList l)) h'/\Ch (λ_=>False) h h':=by
 obtain⟨b,a⟩:∃b,b=h.new (O (N 62 true) [H [],H [],Y U 0,Y U 0,Y U 0,Y U 0,Y U 0,Y U 0,Y U 0]):=⟨_,rfl⟩
 have k:Ch (λ_=>False) h b:=by rw[a];exact Ch.new _ _ _
 have m:b.get h.next=some (O (N 62 true) [H [],H [],Y U 0,Y U 0,Y U 0,Y U 0,Y U 0,Y U 0,Y U 0]):=by rw[a];exact dY _ _
 have e:=ldL ((k.get i hi λq=>q).trans o) hl;have j:=stL (l:=l) m hl hl;have d:bH 9 (X h.next 0) (b.put h.next (some (O (N 62 true) l)))=D (.agg (V.ofList l)) (b.put h.next (some (O (N 62 true) l))):=ldL (r:= []) (by rw[kJ,p!]) hl;rw[aJR];simp(disch:=omega)only[vvB,seval,aKj,aCg,agp,aCe,oV,<-a,fG,e,j];exact⟨b.put h.next (some (O (N 62 true) l)),by simp only[bV,bQ,vvB,seval,awo,d,bT],by rw[a];exact ail _ _ _⟩
end Go.Proofs.Im
namespace Go.Im
abbrev QF:List V:= [H [117],H [112],iV 1000,iV 100,iV 1048576,iV 1073741824,iV 1073741824,iV 10000,iV 200]
end Go.Im
namespace Go.Proofs.Im
section
variable{bb:Nat}{h h' g h0:Hp}{P F I J Z:Pos->Prop}{ps pl ib ir pc im i:Pos}{cb:Cap}{fb uid only u:Bool}{v vm vl vv vw:V}{st st2:Sn}{L c:List V}{s s2 nm:List Nat}{w:Wds}{f n:Nat}
def aD6(q:Rq bb h0 Z h pc im ps ir uid w s st L vw P F J pl ib cb fb vm vl vv I)(Q:w.len=2)(ak:oI w= [[117],[112]])(aj:I4 w=false):
  ∃h',auu [X pc 0,X ir 0] h=D (anV 0 [] false false false) h'/\DF bb h0 Z vw P h' pc im ps ir uid w s {st with inn:=true}:=by
 obtain⟨S,ag,c1,k1⟩:=mkW h (O (N tA true) zAn);have q1:=q.nw c1;have am:¬OfB ir 5 L h.next:=λo=>by have:=(o.from q.bd _).2;omega
 have an:¬Ft F J pc im h.next:=λo=>by have:=q.wd.lt _ o;omega
 obtain⟨r2,G,e2,c2,hN⟩:=avK (n:=2) q1.bd q1.l3 q1.ws (by omega);have af:acE [X ir 0,Y U 2] S=D r2 G:=e2;obtain⟨v,rfl,W,t⟩:∃v,r2=.tuple (.cons v (.cons (K true) .nil))/\Ow 0 G 9 1 v 2 ([[117],[112]].map H)/\∀j,bI v=some j->S.next.nat<=j.nat:=by
  rcases hN with⟨hL,-⟩|⟨-,v,rfl,W,t⟩
  ·rw[aj]at hL;cases hL
  ·rw[Q,ak]at W;exact⟨v,by rw[decide_eq_true Q],W,t⟩
 obtain⟨B,fv,hv,kv,ao⟩:∃B fv,v=.slice B 0 2 (.un 1)/\Kn G B (O (N 9 fv) [H [117],H [112]])/\S.next.nat<=B.nat:=by
  rcases W.is with⟨h0,_⟩|⟨i,e,hb,hi,f,hg⟩
  ·omega
  ·exact⟨i,f,e,⟨hg,hi⟩,t i (by rw[e];rfl)⟩
 have aa:∀g,aX 1 v (Y U 0) g=D (X B 0) g:=λg=>by rw[hv];rfl
 have ab:∀g,aX 1 v (Y U 1) g=D (X B 1) g:=λg=>by rw[hv];rfl
 have E:Nw S G:=c2;have q2:=q1.nw E;have R1:=q2.kr.ld q2.l1;have M:=q2.wd.acc.st;obtain⟨h3,e3,c3⟩:=aFk (l:=QF) (r:=(stC st.acc ib cb vm pl).drop 9) M.1 rfl M.2;have ae:Nw G h3:=c3;obtain⟨h4,ah,c4,k4⟩:=mkW h3 (O (N 62 true) QF);have S4:=mkT 9 [H [],H [],Y U 0,Y U 0,Y U 0,Y U 0,Y U 0,Y U 0,Y U 0] ah;have d:=ae.trans c4;have U0:=k4.ld (q:=0) (x:=H [117]) rfl;have U1:=k4.ld (q:=1) (x:=H [112]) rfl;have ac:=(kv.nw d).ld (q:=0) (x:=H [117]) rfl;have ad:=(kv.nw d).ld (q:=1) (x:=H [112]) rfl;have C:=q2.nw d;have al:=(k1.nw E).nw d;obtain⟨b,a⟩:∃b,b=({st with inn:=true}:Sn):=⟨_,rfl⟩
 obtain⟨k,m⟩:∃k,k=h4.put pc (some (O (N tCn true) [K b.inn,vv,K b.only,iV b.cnt,.map im])):=⟨_,rfl⟩
 have S5:aS 1 (X pc 0) (K true) h4=D V.undef k:=by rw[m,a];exact C.wd.con.st (q:=0) (y:=K true) ⟨rfl,rfl⟩ (by simp)
 have w5:World k pc im ps b F J pl ib cb fb vm vl vv I:=by
  rw[m];exact C.wd.anG (by rw[a]) (by rw[a];exact C.wd.view) λj q=>⟨λf=>(C.wd.fj j f).1 q,C.wd.jn j q⟩
 have c5:Ch (λj=>j=pc) h4 k:=by rw[m];exact Ch.put _ _ rfl
 have q5:=C.turn w5 c5 (λj e=>.inr (.inr (.inl e))) λj f=>.inl f;have ai:=q.wd.con.2;have k5:=al.ch c5 λe=>by rw[<-e]at ai;omega
 obtain⟨z,p⟩:∃z,z=k.put h.next (some (O (N tA true) (anL 0 [] false false false))):=⟨_,rfl⟩
 have S6:aS 5 (X h.next 0) (anV 0 [] false false false) k=D V.undef z:=by rw[p];exact k5.stN rfl rfl
 have k6:Kn z h.next (O (N tA true) (anL 0 [] false false false)):=by rw[p];exact k5.put _
 have c6:Ch (λj=>j=h.next) k z:=by rw[p];exact Ch.put _ _ rfl
 have q6:=q5.ah0 c6 am an q.chz.next;refine⟨z,?_,by have:=q6.mk';rw[a]at this;exact this⟩;rw[aJW];simp(disch:=omega)only[vvB,seval,aKn,aCB,aCx,aCw,aCv,aCu,aCt,aCz,<-ag,af,R1,e3,S4,aa,ab,ac,ad,U0,U1,S5,aQV,S6,eq_self];simp only[bV,bQ,vvB,seval,Ap,k6.ldN (n:=5) rfl,bT]
def Jj.of{w:Wds}(a:nm≠aOJ)(d:Tq nm alI=some (f,n,u))(j:aH3 n st)(b:∀(bb:Nat) (ir:Pos) (vw:V) (P:Pos->Prop),Cmd f bb pc im ps ir false w [] st vw P c s2 st2)(hl:c.length=5):Jj pc im ps w nm st c s2 st2:=
 λbb h0 Z h ir L vw P F J pl ib cb fb vm vl vv I q=>by
  obtain⟨h',e,r⟩:=run_go q a d j (b bb ir vw P) hl;exact⟨h',vw,P,w,false,e,r⟩
end
section
variable{h h' g:Hp}{P F I:Pos->Prop}{ps pl ib p cp i:Pos}{A:Acc}{cb:Cap}{fb only:Bool}{v vm vl:V}{id:Int}{k f n d:Nat}{b:Bx}
def aw7(a:dL h F ps A pl ib cb fb vm vl I)(j:A.Small){w:Wr}(m:Kn h cp (O w [X ps 0]))(l:A.boxes.findIdx? (λb=>decide (b.id=id))=some d):∃h',BD [iV id,X cp 0] h=D (K false) h'/\Nw h h':=by
 have L:=m.ld (q:=0) (x:=X ps 0) rfl;obtain⟨e,e1,c⟩:=aby a j id;rw[l]at e1;simp only[fE]at e1;have hd:((d:Int)<0)=False:=eq_false (by omega);rw[apG];simp only[vvB,seval,ahq,ZG,ZF,L,e1,hd];exact⟨e,by simp only[bV,bQ,vvB,seval,bT],c⟩
def att(p:Pos)(x:V)(g:Hp):dD qh (.func (.func 102) .nil (.cons (X p 0) .nil)) [x] g=BD [x,X p 0] g:=(rfl)
def ay1(p:Pos)(x:V)(g:Hp):dD qh (.func (.func 47) (.cons (X p 0) .nil) .nil) [x] g=KQ [X p 0,x] g:=(rfl)
def aza(a:dL h F ps A pl ib cb fb vm vl I)(hA:A.Small)(r:Rws P (flat iG) 1 h v [id])(hf:A.boxes.findIdx? (λb=>decide (b.id=id))=some d):
  ∃w h',Oo [X ps 0,v] h=D (.tuple (.cons w (.cons (K true) .nil))) h'/\Rws (λj=>h.next.nat<=j.nat) (flat iG) 1 h' w [id]/\Nw h h':=by
 obtain⟨G,s,l,k1⟩:=mkW h (O (N 24 true) [X ps 0]);have S:eX 24 (X ps 0) h=D (X h.next 0) G:=by rw[s];rfl
 obtain⟨w,h2,e2,r2,u,m⟩:=ala (r.nw (aJ _) l) (by simp);have m:=m.resolve_left (by simp);obtain⟨J,e3,Q,z⟩:=an3 m (by simp);rw[BO ltI (by simp)]at Q;have n1:=l.next;have n2:=u.next;have n3:=z.next;have c:Nw G J:=u.then z λj hj e=>by have:=(m.eY e).1;omega
 have t:=Q.rows (P':=λj=>h.next.nat<=j.nat) (aJ _) (λ_ _ q=>q.elim) λj q _=>by omega
 have e4:=aeT t (by simp);obtain⟨L,E,B⟩:=Qw t (aJ _) (λ_=>false) (by simp) (f:=.func (.func 102) .nil (.cons (X h.next 0) .nil)) (λx y g M C e=>by
  cases(show [y]= [Y U x] from e);simp at M;subst M;obtain⟨g',e6,Z⟩:=aw7 ((a.nw (l.trans c)).nw C) hA ((k1.nw c).nw C) hf;exact⟨g',by rw[att];exact e6,Z⟩)
 have o:jk [w,.func (.func 102) .nil (.cons (X h.next 0) .nil)] J=D (K false) L:=by
  have:([id].any λ_=>false)=false:=rfl;rw[this]at E;exact E
 have W:∀g,eP (.func 102) [] [X h.next 0] g=D (.func (.func 102) .nil (.cons (X h.next 0) .nil)) g:=λg=>rfl;rw[arq];simp only[vvB,seval,akT,ade,adb,ada,ac9,ac8,S,e2,e3,e4,W,o];exact⟨w,L,by simp only[bV,bQ,vvB,seval,bT]<;>rfl,t.nw (aJ _) B,(l.trans c).trans B⟩
def dL.aII(a:dL h F ps A pl ib cb fb vm vl I)(e:A.boxes[k]?=some b):∀g,g.get ib=h.get ib->∀f y,(gY b)[f]?=some y->aF (X ib (k*6+f)) g=D y g:=by
 have c:=(a!.1 e).1;obtain⟨i,q,cs,j,ex,-,-,-,ld,-⟩:=a.bxr.elt e;obtain rfl:cs=gY b:=ex;have:=j h;rw[sN c]at this;cases this;exact ld
def aD3(a:dL h F ps A pl ib cb fb vm vl I)(u:A.Small)(w:A.boxes.findIdx? (λb=>decide (b.id=id))=some d)(m:A.boxes[d]?=some b)(hn:b.next<=1000000):∃h',KQ [X ps 0,iV id] h=D (K false) h'/\Nw h h':=by
 obtain⟨l,e1,j⟩:=aby a u id;rw[w]at e1;simp only[fE]at e1;have e:=(a!.1 m).1;have a1:=a.nw j;have L:=a.st.ld (q:=10) (x:=.slice ib 0 A.boxes.length cb) rfl;have o:=a1.st.ld (q:=10) (x:=.slice ib 0 A.boxes.length cb) rfl;have M:=a.st.ld (q:=5) (x:=iV 1073741824) rfl;have r:=a1.st.ld (q:=5) (x:=iV 1073741824) rfl;have y:=λg=>sN (sz:=6) (i:=ib) (c:=cb) e g;have ld:=a1.aII m l rfl 4 (iV b.next) rfl;have hd:(b.next>1073741824)=False:=eq_false (by omega);have s:∀{k:Out},chk (λh=>aF (X ps 10) h) (.slice ib 0 A.boxes.length cb) k 1 [h]=k:=qw a.bxr.noF L;have t:∀{k:Out},chk (λh=>aF (X ps 5) h) (iV 1073741824) k 1 [h]=k:=qw rfl M;rw[atI];simp only[vvB,seval,ao9,af7,af6,e1,o,s,y,ld,r,t,hd];exact⟨l,by simp only[bV,bQ,vvB,seval,bT],j⟩
def aLl(x:V)(h:Hp):BR c! 106 x h=bH 2 x h:=kR
def azb(a:dL h F ps A pl ib cb fb vm vl I)(hA:A.Small)(W:A.boxes.findIdx? (λb=>decide (b.id=id))=some d)(u:A.boxes[d]?=some b)(hn:0<=b.next/\b.next<=1000000):
  ∃h',Ot [X ps 0,iV id] h=D (.agg (V.ofList (gW (id,b.next)))) h'/\dL h' F ps {A with boxes:=updB id (λb=>{b with next:=b.next+1}) A.boxes} pl ib cb fb vm vl I/\Ch (λj=>j=ib) h h':=by
 obtain⟨h1,C,M,k1⟩:=mkW h (O (N 106 true) [Y U 0,Y U 0]);have a1:=a.nw M;obtain⟨B,e2,z⟩:=aby a1 hA id;rw[W]at e2;simp only[fE]at e2;have a2:=a1.nw z;have t:=(a!.1 u).1;have L1:=a1.st.ld (q:=10) (x:=.slice ib 0 A.boxes.length cb) rfl;have L2:=a2.st.ld (q:=10) (x:=.slice ib 0 A.boxes.length cb) rfl;have cL:∀{k:Out},chk (λh=>aF (X ps 10) h) (.slice ib 0 A.boxes.length cb) k 1 [h1]=k:=qw a.bxr.noF L1;have ix:=λg=>sN (sz:=6) (i:=ib) (c:=cb) t g;have ld:=a2.aII u B rfl 4 (iV b.next) rfl;obtain⟨b',o⟩:∃b':Bx,b'={b with next:=b.next+1}:=⟨_,rfl⟩
 have L:=a2.aQP u (f:=4) (by omega) (y:=b.next+1) (b':=b') (by rw[o];rfl);obtain⟨l,r⟩:∃l,l=B.put ib (some (O (N 55 fb) ((A.boxes.set d b').map gY).flatten)):=⟨_,rfl⟩
 rw[<-r]at L;have a3:dL l F ps {A with boxes:=A.boxes.set d b'} pl ib cb fb vm vl I:=by rw[r];exact a2.aKe (by rw[List.length_set])
 have Q:Ch (λj=>j=ib) B l:=by rw[r];exact Ch.put _ _ rfl
 have J:=a3.aII (k:=d) (b:=b') (by rw[List.getElem?_set_self t]) l rfl 4 (iV (b.next+1)) (by rw[o];rfl);have E:=a.bx.2;have k3:=(k1.nw z).ch Q λe=>by rw[<-e]at E;omega
 obtain⟨m,s⟩:∃m,m=l.put h.next (some (O (N 106 true) (gW (id,b.next)))):=⟨_,rfl⟩
 have S4:aS 2 (X h.next 0) (.agg (V.ofList (gW (id,b.next)))) l=D V.undef m:=by rw[s];exact k3.stN rfl rfl
 have w:aS 2 (X h.next 0) (.agg (.cons (Y U id) (.cons (Y U b.next) .nil))) l=D V.undef m:=S4;have k4:Kn m h.next (O (N 106 true) (gW (id,b.next))):=by rw[s];exact k3.put _
 have S:Ch (λj=>j=h.next) l m:=by rw[s];exact Ch.put _ _ rfl
 have a4:=a3.ch S λj f e=>by have:=a.lt j f;rw[e]at this;omega
 have G:updB id (λb=>{b with next:=b.next+1}) A.boxes=A.boxes.set d b':=by
  obtain⟨x,Z,e⟩:=alc (f:=λb:Bx=>{b with next:=b.next+1}) W;rw[u]at Z;cases Z;rw[e,o]
 have ad:∀g,aH .add .none (Y U b.next) (Y U 1) g=D (Y U (b.next+1)) g:=λg=>UB (by omega) (by omega);have sb:∀g,aH .sub .none (Y U (b.next+1)) (Y U 1) g=D (Y U b.next) g:=λg=>by
  rw[aaT (by omega) (by omega)];congr 2;omega
 have NC:∀g,aO (X ib (d*6)) g=D (X ib (d*6)) g:=λg=>rfl;rw[arv];simp(disch:=omega)only[vvB,seval,akW,adA,adz,ady,adx,<-C,e2,L2,cL,ix,NC,ld,ad,L,J,sb,w];refine⟨m,by simp only[bV,bQ,vvB,seval,aLl,k4.ldN (n:=2) rfl,bT],by rw[G];exact a4,?_⟩;exact((M.trans z).ch.trans Q λ_ _ q=>q).trans S λj hj e=>by rw[e]at hj;omega
def aw9(x:V)(h:Hp):Oq [x,H []] h=D (iV 0) h:=by
 have e1:V5 [H [],H [105,110,45,114,101,112,108,121,45,116,111]] h=D (H []) h:=FP (aIQ _ _ _) h;have e2:dD akQ (.func (.func 104) .nil .nil) [H [],H [105,110,45,114,101,112,108,121,45,116,111]] h=D (H []) h:=e1;rw[aru];simp only[vvB,seval,akV,axJ,adu,adt,ads,e2];simp only[bV,bQ,vvB,seval,bT]
end
end Go.Proofs.Im
namespace Go.Im
def aqe(A:Acc)(b:Bx)(at_:Int):Ml:={id:=A.lastId+1,thread:=A.lastId+1,text:= [],at_:=at_,keys:= [],mem:= [(b.id,b.next)],mod:=A.clock+1,born:=A.clock+1}
def TV(A:Acc)(b:Bx)(at_:Int):Acc:=
 {clock:=A.clock+1
  boxes:=jX (A.clock+1) [b.id] (updB b.id (λb=>{b with next:=b.next+1}) A.boxes)
  mails:=A.mails++ [aqe A b at_]
  ents:=A.ents++([lq (A.clock+1) b.id]++ [({mod:=A.clock+1,kind:=2,id:=A.lastId+1,how:=1}:En),{mod:=A.clock+1,kind:=3,id:=A.lastId+1,how:=1}])
  floor:=A.floor
  lastBox:=A.lastBox
  lastId:=A.lastId+1
  octets:=A.octets}
structure CanApp (A:Acc) (k:Nat) (b:Bx):Prop where
 small:A.Small
 logged:A.Logged
 at_:A.boxes[k]?=some b
 find:A.boxes.findIdx? (λx=>decide (x.id=b.id))=some k
 next:0<=b.next/\b.next<=900000
 clock:A.clock<900000
 lastId:0<=A.lastId/\A.lastId<900000
 ents:A.ents.length<=8000
 mails:A.mails.length<=900
 oct:0<=A.octets/\A.octets<=1000
end Go.Im
namespace Go.Proofs.Im
section
variable{h g h0:Hp}{F I l:Pos->Prop}{ps pl ib p i:Pos}{A:Acc}{cb:Cap}{fb only:Bool}{vm vl:V}{f:Nat}{b:Bx}
def dL.aSX(a:dL h F ps A pl ib cb fb vm vl I){B0:Nat}(v:∀j,F j->j.nat<B0){m':Ml}{d:V}(o:dF 0 l jZ 40 8 g d (A.mails++ [m']))(c:Ch (λj=>bI vm=some j) h g)(w:∀j,bI d=some j->h.next.nat<=j.nat)(u:∀j,l j->I j\/(B0<=j.nat/\j.nat<h.next.nat))(J:B0<=h.next.nat):
  dL (g.put ps (some (O (N tSt true) (stC {A with mails:=A.mails++ [m']} ib cb d pl)))) (λj=>F j\/l j\/bI d=some j) ps {A with mails:=A.mails++ [m']} pl ib cb fb d vl l/\
   dF 0 l jZ 40 8 (g.put ps (some (O (N tSt true) (stC {A with mails:=A.mails++ [m']} ib cb d pl)))) d (A.mails++ [m']):=by
 have ks:=a.st.ch c λe=>(a.nm ps e).1 rfl;have z:Ch (λj=>j=ps) g (g.put ps (some (O (N tSt true) (stC {A with mails:=A.mails++ [m']} ib cb d pl)))):=Ch.put _ _ rfl;have ca:Ch (λj=>bI vm=some j\/j=ps) h (g.put ps (some (O (N tSt true) (stC {A with mails:=A.mails++ [m']} ib cb d pl)))):=(c.mono λ_ _ e=>.inl e).trans z λ_ _ e=>.inr e;have G:=v _ a.foot.1;have E:=v _ a.foot.2.1;have C:=v _ a.foot.2.2.1;have m:∀j,l j->j≠ps/\j≠pl/\j≠ib/\bI vl≠some j:=λj q=>by
  rcases u j q with q|q
  ·have:=a.inn j q;exact⟨this.2.1,this.2.2.1,this.2.2.2.1,this.2.2.2.2.2⟩
  ·exact⟨λe=>by rw[e]at q;omega,λe=>by rw[e]at q;omega,λe=>by rw[e]at q;omega,λe=>by have:=v _ (a.foot.2.2.2.2 j e);omega⟩
 have k:∀j,l j->j.nat<h.next.nat:=λj q=>(u j q).elim (λq=>a.lt j (a.inn j q).1) λq=>q.2;have r:∀j,bI d=some j->j≠ps:=λj e n=>by have:=w j e;rw[n]at this;omega
 have o':dF 0 l jZ 40 8 (g.put ps (some (O (N tSt true) (stC {A with mails:=A.mails++ [m']} ib cb d pl)))) d (A.mails++ [m']):=o.ch dI z (λj e n=>r j e n) λj _ q=>⟨q,(m j q).1⟩
 refine⟨⟨ks.put _,a.lg.ch ca λe=>e.elim (λe=>(a.nm pl e).2.1 rfl) λe=>a.ne.1 e.symm,a.bx.ch ca λe=>e.elim (λe=>(a.nm ib e).2.2.1 rfl) λe=>a.ne.2.1 e.symm,a.cap,?_,?_,a.ne,?_,a.nl,?_,?_,?_,a.enil⟩,o'⟩
 ·obtain⟨t,x,y,s⟩:=o';refine⟨t,x,y,?_⟩;rcases s.is with⟨h0,e⟩|⟨i,e,hb,hi,f,B⟩
  ·simp at h0
  ·exact .inr ⟨i,f,[],e,by simpa using B,hi⟩
 ·obtain⟨t,x,y,s⟩:=a.en;exact⟨t,x.mono λ_ _ e=>e,y,s.ch ca λj hj e=>e.elim (λe=>(a.nm j e).2.2.2 hj) (a.nl j hj).1⟩
 ·intro j e;have:=w j e;exact⟨r j e,λn=>by rw[n]at this;omega,λn=>by rw[n]at this;omega,λn=>by have:=a.lt j (a.foot.2.2.2.2 j n);omega⟩
 ·intro j q;have:=m j q;exact⟨.inr (.inl q),this.1,this.2.1,this.2.2.1,λe=>by have:=w j e;have:=k j q;omega,this.2.2.2⟩
 ·exact⟨.inl a.foot.1,.inl a.foot.2.1,.inl a.foot.2.2.1,λj e=>.inr (.inr e),λj e=>.inl (a.foot.2.2.2.2 j e)⟩
 ·intro j q;have hn:=ca.next;rcases q with q|q|q
  ·have:=a.lt j q;omega
  ·have:=k j q;omega
  ·exact(o'.eY q).2
def bM0{w:V}(j:w.cells= [w]/\ig w=true)(a b:Int)(t:List Nat)(c d e:Int)(h:Hp):bW zMl [(0,1,Y U a),(1,1,Y U b),(2,1,H t),(3,1,Y U c),(4,1,w),(6,1,Y U d),(7,1,Y U e)] h=D (.agg (V.ofList [Y U a,Y U b,H t,Y U c,w,.aP,Y U d,Y U e])) h:=by
 unfold bW;simp only[Tt,j.1,j.2];rfl
def aT1:QG 40 zMl=some (O (N 40 true) zMl,λp=>X p 0):=(rfl)
def aTZ(x:Int×Int):eH 106 [Y U 0,Y U 0] 1 [(0,2,.agg (V.ofList (gW x)))]=some (O (N 106 true) (gW x),λp=>.slice p 0 1 (.kn 1)):=(rfl)
def aTX(m:Ml)(vk vs:V):eH 40 zMl 1 [(0,8,.agg (V.ofList (dS m vk vs)))]=some (O (N 40 true) (dS m vk vs),λp=>.slice p 0 1 (.kn 1)):=(rfl)
end
section
variable{h h' g:Hp}{P F I d:Pos->Prop}{ps pl ib p pc cp i:Pos}{A B:Acc}{cb:Cap}{fb only:Bool}{v vm vl:V}{id:Int}{k f n o:Nat}{b:Bx}
theorem azd(a:dL h F ps A pl ib cb fb vm vl I)(ho:dF 0 I jZ 40 8 h vm A.mails)(hC:CanApp A o b)(r:Rws P (flat iG) 1 h v [b.id]){at_:Int}(d6:0<=at_/\at_<=1000000):
  ∃rr h' F' E bg I',Ov [X ps 0,v,.aP,Y U at_,H []] h=D rr h'/\dL h' F' ps (TV A b at_) pl ib cb fb E bg I'/\dF 0 I' jZ 40 8 h' E (TV A b at_).mails/\Ch F h h'/\∀j,F' j->F j\/h.next.nat<=j.nat:=by
 have hA:=hC.small;have d7:=hC.clock;have dE:=hA.clock;have d9:=hC.lastId;have cy:=hC.mails;have d1:=hC.oct;have cW:=hC.ents;obtain⟨w1,h1,e1,r1,c1⟩:=ato (Rws.aP (λ_=>False) (flat dN) 1 h) (λ_ q=>(by cases q)) (by simp);obtain⟨w2,h2,e2,r2,c2⟩:=aza (a.nw c1) hA (r.nw (aJ _) c1) hC.find;have b4:=c1.trans c2;have a2:=a.nw b4;have n1:=c1.next;have n2:=c2.next;have L2:=a2.st.ld (q:=11) (x:=vm) rfl;have M2:=a2.st.ld (q:=2) (x:=iV 1000) rfl;have M4:=a2.st.ld (q:=4) (x:=iV 1048576) rfl;have cB:=a2.st.ld (q:=15) (x:=iV A.octets) rfl;have lm:=a2.ml.rws.len h2;have e3:=asu a2 hA;obtain⟨h3,e4,c3⟩:=Qw r2 (aJ _) (λ_=>false) (by simp) (f:=.func (.func 47) (.cons (X ps 0) .nil) .nil) (λx y g hx cg e=>by
  cases(show [y]= [Y U x] from e);simp at hx;subst hx;obtain⟨g',e6,c6⟩:=aD3 (a2.nw cg) hA hC.find hC.at_ (by have:=hC.next;omega);exact⟨g',by rw[ay1];exact e6,c6⟩)
 have cR:jk [w2,.func (.func 47) (.cons (X ps 0) .nil) .nil] h2=D (K false) h3:=by
  have:([b.id].any λ_=>false)=false:=rfl;rw[this]at e4;exact e4
 have FF:∀g,eP (.func 47) [X ps 0] [] g=D (.func (.func 47) (.cons (X ps 0) .nil) .nil) g:=λg=>rfl;have a3:=a2.nw c3;have b6:=b4.trans c3;have n3:=c3.next;have e5:=asr a3 hA;obtain⟨h4,br⟩:∃h4,h4=h3.put ps (some (O (N tSt true) (stC {A with clock:=A.clock+1} ib cb vm pl))):=⟨_,rfl⟩
 rw[<-br]at e5;have a4:dL h4 F ps {A with clock:=A.clock+1} pl ib cb fb vm vl I:=by rw[br];exact a3.aub rfl rfl rfl rfl
 have c4:Ch (λj=>j=ps) h3 h4:=by rw[br];exact Ch.put _ _ rfl
 have cz:=a4.st.ld (q:=14) (x:=iV A.lastId) rfl;obtain⟨A5,G⟩:∃A5:Acc,A5={A with clock:=A.clock+1,lastId:=A.lastId+1}:=⟨_,rfl⟩
 obtain⟨S,bs⟩:∃S,S=h4.put ps (some (O (N tSt true) (stC A5 ib cb vm pl))):=⟨_,rfl⟩
 have S5:aS 1 (X ps 14) (iV (A.lastId+1)) h4=D V.undef S:=by rw[bs,G];exact a4.st.st (q:=14) ⟨rfl,rfl⟩ (show 14<16 by omega)
 have a5:dL S F ps A5 pl ib cb fb vm vl I:=by rw[bs,G];exact a4.aub (B:={A with clock:=A.clock+1,lastId:=A.lastId+1}) rfl rfl rfl rfl
 have c5:Ch (λj=>j=ps) h4 S:=by rw[bs];exact Ch.put _ _ rfl
 have aq:Ch (λj=>j=ps) h3 S:=c4.trans c5 λ_ _ q=>q;have n5:=aq.next;have b5:=a5.nw (Nw.bump 1 S);have L5:=a5.st.ld (q:=14) (x:=iV (A.lastId+1)) (by rw[G];rfl);have bS:=b5.st.ld (q:=14) (x:=iV (A.lastId+1)) (by rw[G];rfl);have eT:=aw9 (X ps 0) (aK 1 S);obtain⟨p,hp⟩:∃p,p=S.next:=⟨_,rfl⟩
 obtain⟨h6,bu,c6,-⟩:=mkW S (O (N 40 true) [iV (A.lastId+1),iV 0,H [],iV at_,w1,.aP,iV (A.clock+1),iV (A.clock+1)]);have S6:=mkT 8 zMl bu;have dT:(aK 1 S).put S.next (some (O (N 40 true) zMl))=S.new (O (N 40 true) zMl):=rfl;have k6:Kn h6 p (O (N 40 true) [iV (A.lastId+1),iV 0,H [],iV at_,w1,.aP,iV (A.clock+1),iV (A.clock+1)]):=by rw[bu,hp];exact Kn.new _ _
 have n6:h6.next.nat=S.next.nat+1:=by rw[bu,bJ]
 have T6:=k6.ld (q:=1) (x:=iV 0) rfl;have I6:=k6.ld (q:=0) (x:=iV (A.lastId+1)) rfl;obtain⟨h7,bv⟩:∃h7,h7=h6.put p (some (O (N 40 true) [iV (A.lastId+1),iV (A.lastId+1),H [],iV at_,w1,.aP,iV (A.clock+1),iV (A.clock+1)])):=⟨_,rfl⟩
 have S7:aS 1 (X p 1) (iV (A.lastId+1)) h6=D V.undef h7:=by rw[bv];exact k6.st (q:=1) ⟨rfl,rfl⟩ (by simp)
 have k7:Kn h7 p (O (N 40 true) [iV (A.lastId+1),iV (A.lastId+1),H [],iV at_,w1,.aP,iV (A.clock+1),iV (A.clock+1)]):=by rw[bv];exact k6.put _
 have c7:Ch (λj=>j=p) h6 h7:=by rw[bv];exact Ch.put _ _ rfl
 have n7:=c7.next;have ar:Nw S h7:=c6.then c7 λj hj e=>by rw[e,hp]at hj;omega
 have a7:=a5.nw ar;have r7:=(r2.nw (aJ _) c3).ch (P':=λj=>h1.next.nat<=j.nat/\j.nat<h3.next.nat) (aJ _) aq λj hj q=>⟨⟨q,hj⟩,λe=>by have:=a.st.2;rw[e]at q;omega⟩
 have r7:=r7.nw (aJ _) ar;have af:∀j,F j->j.nat<h.next.nat:=a.lt;have ag:A5.Small:=by rw[G];exact⟨by show 0<=A.clock+1/\A.clock+1<1000000;omega,hA.boxes,hA.mails,hA.ents,hA.each⟩
 have bl:A5.boxes=A.boxes:=by rw[G]
 have cJ:=a7.nw (Nw.bump 1 h7);have ek:(aK 1 h7).next.nat=h7.next.nat+1:=sZ _ _;obtain⟨h8,e8,a8,c8⟩:=azb (id:=b.id) cJ ag (by rw[bl];exact hC.find) (by rw[bl];exact hC.at_) (by have:=hC.next;omega);have co:=k7.bump 1;have d8:=af _ a.foot.2.2.1;have k8:=co.ch c8 λe=>by rw[e]at hp;have:=congrArg Pos.nat hp;omega
 have M7:=k7.ld (q:=5) (x:=.aP) rfl;have cC:=co.ld (q:=5) (x:=.aP) rfl;have M8:=k8.ld (q:=5) (x:=.aP) rfl;have n8:=c8.next;obtain⟨h9,bd⟩:∃h9,h9=h8.put h7.next (some (O (N 106 true) (gW (b.id,b.next)))):=⟨_,rfl⟩
 have c9:Ch (λj=>j=h7.next) h8 h9:=by rw[bd];exact Ch.put _ _ rfl
 have n9:h9.next.nat=h8.next.nat:=by rw[bd];rfl
 have dg:Kn h9 h7.next (O (N 106 true) ([(b.id,b.next)].map gW).flatten):=by rw[bd];exact⟨kJ _ _ _,by rw[jQ];omega⟩
 have t9:Rws (λj=>j=h7.next) (flat gW) 2 h9 (.slice h7.next 0 1 (.kn 1)) [(b.id,b.next)]:=Kn.rws (c:=gW) (l:= [(b.id,b.next)]) (cp:=.kn 1) (sz:=2) dg (λ_=>rfl) (λ_ _ _ _ e=>by cases e;exact j! _);have k9:=k8.ch c9 λe=>by have:=k7.2;rw[e]at this;omega
 have a9:=a8.ch c9 λj f e=>by have:=af j f;rw[e]at this;omega
 obtain⟨J,ay,cK,bA,a6⟩:=aqG (el:=106) (bt:=16) (Rws.aP (λ_=>False) (flat gW) 2 h9) (.inl ⟨rfl,rfl⟩) t9 (by simp) (by simp);rw[w!]at bA;have cl:=k9.nw a6;have b0:=a9.nw a6;have eb:=a6.next;obtain⟨m,hm⟩:∃m,m=aqe A b at_:=⟨_,rfl⟩
 obtain⟨u,aD⟩:∃u,u=ay.put p (some (O (N 40 true) (dS m w1 J))):=⟨_,rfl⟩
 have cD:aS 1 (X p 5) J ay=D V.undef u:=by rw[aD,hm];exact cl.st (q:=5) bA.cell (by simp)
 have cm:Kn u p (O (N 40 true) (dS m w1 J)):=by rw[aD];exact cl.put _
 have ba:Ch (λj=>j=p) ay u:=by rw[aD];exact Ch.put _ _ rfl
 have db:p.nat=S.next.nat:=congrArg Pos.nat hp;have ai:=b0.ch ba λj f e=>by have:=af j f;rw[e]at this;omega
 have ec:=ba.next;have aM:∀j:Pos,j.nat<h7.next.nat->j≠ib->j≠p->u.get j=h7.get j:=λj hj hi c0=>by
  have q8:=c8.get j (by omega) hi;have q9:=c9.get j (by omega) λe=>by rw[e]at hj;omega
  have dl:=a6.get j (by omega) λq=>q;have a1:=ba.get j (by omega) c0;rw[a1,dl,q9,q8];rfl
 have au:Ch (λj=>j=ib\/j=p) h7 u:=⟨by omega,λj hj hn=>aM j hj (λe=>hn (.inl e)) λe=>hn (.inr e)⟩
 have hI:∀j,I j->j.nat<h.next.nat/\j≠ps/\j≠ib:=λj q=>⟨af j (a.inn j q).1,(a.inn j q).2.1,(a.inn j q).2.2.2.1⟩
 have al:∀j,bI vm=some j->j.nat<h.next.nat/\j≠ps/\j≠ib:=λj e=>⟨af j (a.foot.2.2.2.1 j e),(a.nm j e).1,(a.nm j e).2.2.1⟩
 have cj:dF 0 I jZ 40 8 u vm A.mails:=by
  have o3:=ho.nw dI b6;have o5:=o3.ch (P':=I) dI aq (λj e L=>(al j e).2.1 L) λj _ q=>⟨q,(hI j q).2.1⟩
  exact(o5.nw dI ar).ch dI au (λj e L=>L.elim (al j e).2.2 λL=>by have:=(al j e).1;rw[L]at this;omega) λj _ q=>⟨q,λL=>L.elim (hI j q).2.2 λL=>by have:=(hI j q).1;rw[L]at this;omega⟩
 obtain⟨d,ae⟩:∃d:Pos->Prop,d=λj=>I j\/(h.next.nat<=j.nat/\j.nat<u.next.nat/\j≠p):=⟨_,rfl⟩
 have xm:jZ d u m (dS m w1 J):=by
  refine⟨w1,J,rfl,?_,?_⟩
  ·have rk:Rws (λj=>h.next.nat<=j.nat/\j.nat<h1.next.nat) (flat dN) 1 h1 w1 []:=r1.mono (aJ _) λj hj q=>⟨q,hj⟩
   have dv:=rk.nw (aJ _) (c2.trans c3);have dx:=dv.ch (P':=λj=>h.next.nat<=j.nat/\j.nat<h1.next.nat) (aJ _) aq λj _ q=>⟨q,λe=>by have:=a.st.2;rw[e]at q;omega⟩
   have dy:=dx.nw (aJ _) ar;rw[hm];exact dy.ch (aJ _) au λj _ q=>⟨by rw[ae];exact .inr ⟨q.1,by omega,λe=>by rw[e]at q;omega⟩,λe=>e.elim (λe=>by rw[e]at q;omega) λe=>by rw[e]at q;omega⟩
  ·rw[hm];have rm:Rws (λj=>h9.next.nat<=j.nat/\j.nat<ay.next.nat) (flat gW) 2 ay J [(b.id,b.next)]:=(bA.rows (P':=λj=>h9.next.nat<=j.nat) (aJ _) (λ_ _ q=>q.elim) λ_ q _=>q).mono (aJ _) λj hj q=>⟨q,hj⟩
   exact rm.ch (aJ _) ba λj _ q=>⟨by rw[ae];exact .inr ⟨by omega,by omega,λe=>by rw[e]at q;omega⟩,λe=>by rw[e]at q;omega⟩
 obtain⟨E,az,cL,di,aj,ed,bi⟩:=cj.app1 (bt:=104) (x:=m) (cs:=dS m w1 J) (P':=d) dI (Nat.zero_le _) rfl (λj _ q=>by rw[ae];exact .inl q) xm (λj _ q e=>by
  rw[ae]at q;rcases q with q|q
  ·exact(a.inn j q).2.2.2.2.1 e
  ·have:=(al j e).1;omega) (by omega)
 have b7:bZ 40 8 104 vm (.slice u.next 0 1 (.kn 1)) (u.new (O (N 40 true) (dS m w1 J)))=D E az:=cL;have bf:(aK 1 u).put u.next (some (O (N 40 true) (dS m w1 J)))=u.new (O (N 40 true) (dS m w1 J)):=rfl;have aR:∀j,bI E=some j->u.next.nat<=j.nat:=λj e=>by rw[bi]at e;cases e;rw[Pos.fD];omega
 obtain⟨A8,Q⟩:∃A8:Acc,A8={A5 with boxes:=updB b.id (λb=>{b with next:=b.next+1}) A5.boxes}:=⟨_,rfl⟩
 rw[<-Q]at a8 a9 b0 ai;have bw:A8.mails=A.mails:=by rw[Q,G]
 have cu:dF 0 d jZ 40 8 az E (A8.mails++ [m]):=by rw[bw];exact di
 obtain⟨ab,bB⟩:=ai.aSX (B0:=h.next.nat) af (m':=m) cu aj aR (λj q=>by rw[ae]at q;exact q.imp id λq=>⟨q.1,q.2.1⟩) (by omega);obtain⟨t,z⟩:∃t:Acc,t={A8 with mails:=A8.mails++ [m]}:=⟨_,rfl⟩
 rw[<-z]at ab bB;obtain⟨ac,aE⟩:∃ac,ac=az.put ps (some (O (N tSt true) (stC t ib cb E pl))):=⟨_,rfl⟩
 rw[<-aE]at ab bB;have cr:=ai.st.ch aj λe=>(ai.nm ps e).1 rfl;have cE:aS 1 (X ps 11) E az=D V.undef ac:=by rw[aE,z];exact cr.st (q:=11) (by rw[bi];exact⟨rfl,rfl⟩) (show 11<16 by omega)
 have bb:Ch (λj=>j=ps) az ac:=by rw[aE];exact Ch.put _ _ rfl
 have d2:=aj.next;have ee:=bb.next;have d4:=ai.st.ld (q:=11) (x:=vm) rfl;have bR:=(ai.nw (Nw.bump 1 u)).st.ld (q:=11) (x:=vm) rfl;have bX:=(cm.bump 1).ldN (n:=8) rfl;have bm:p≠ps:=λe=>by have:=a.st.2;rw[<-e]at this;omega
 have dc:=(cm.ch aj λe=>by have:=(al p e).1;omega).ch bb bm;have cA:=ab.st.ld (q:=15) (x:=iV t.octets) rfl;have d0:t.octets=A.octets:=by rw[z,Q,G]
 obtain⟨w,aL⟩:∃w,w=ac.put ps (some (O (N tSt true) (stC t ib cb E pl))):=⟨_,rfl⟩
 have cF:aS 1 (X ps 15) (iV t.octets) ac=D V.undef w:=by rw[aL];exact ab.st.st (q:=15) ⟨rfl,rfl⟩ (show 15<16 by omega)
 have C:=ab.aub (B:=t) rfl rfl rfl rfl;rw[<-aL]at C;have am:Ch (λj=>j=ps) ac w:=by rw[aL];exact Ch.put _ _ rfl
 have dj:dF 0 d jZ 40 8 w E t.mails:=by
  have:t.mails=A8.mails++ [m]:=by rw[z]
  rw[this];exact bB.ch dI am (λj e L=>(ab.nm j e).1 L) λj _ q=>⟨q,(ab.inn j q).2.1⟩
 have ef:=am.next;have cn:=dc.ch am bm;have bh:=C.nw (Nw.bump 1 w);have d3:(aK 1 w).next.nat=w.next.nat+1:=sZ _ _;have bp:t.Small:=by
  rw[z];refine⟨by rw[Q];exact ag.clock,by rw[Q];show 0<(updB _ _ A5.boxes).length/\_;rw[auB];exact ag.boxes,by show(A8.mails++ [m]).length<=1000;rw[bw,g!];show A.mails.length+1<=1000;omega,by rw[Q];exact ag.ents,λx hx=>?_⟩;rw[show(({A8 with mails:=A8.mails++ [m]}:Acc).mails)=A8.mails++ [m] from rfl,d!,bw]at hx;rcases hx with hx|hx
  ·exact hA.each x hx
  ·simp at hx;rw[hx,hm];exact⟨by simp[aqe],by simp[aqe]⟩
 have dr:Rws (λj=>h1.next.nat<=j.nat/\j.nat<h3.next.nat) (flat iG) 1 (aK 1 w) w2 [b.id]:=by
  have a1:=r7.ch (P':=λj=>h1.next.nat<=j.nat/\j.nat<h3.next.nat) (aJ _) au λj _ q=>⟨q,λe=>e.elim (λe=>by rw[e]at q;omega) λe=>by rw[e]at q;omega⟩
  have bE:=a1.ch (P':=λj=>h1.next.nat<=j.nat/\j.nat<h3.next.nat) (aJ _) aj λj _ q=>⟨q,λe=>by have:=(al j e).1;omega⟩
  have bL:=bE.ch (P':=λj=>h1.next.nat<=j.nat/\j.nat<h3.next.nat) (aJ _) (bb.trans am λ_ _ q=>q) λj _ q=>⟨q,λe=>by have:=a.st.2;rw[e]at q;omega⟩
  exact bL.nw (aJ _) (Nw.bump 1 w)
 have bq:t.boxes=updB b.id (λb=>{b with next:=b.next+1}) A.boxes:=by rw[z,Q,G]
 obtain⟨dC,bo,cM,b1,ds,cS,bc⟩:=ai1 bh bp dr (by simp) (A.clock+1) (BO ltI (by simp)) (λk x y _ hy=>by simp at hy) (λx hx=>by
  simp at hx;subst hx;exact⟨o,by rw[bq,arL (f:=λb:Bx=>{b with next:=b.next+1}) (λ_=>rfl)];exact hC.find⟩)
 have eg:=bc.next;have a0:=cn.bump 1;have bz:=a0.ch bc λe=>by rw[e]at db;omega
 obtain⟨M,W⟩:∃M:List En,M= [({mod:=A.clock+1,kind:=2,id:=A.lastId+1,how:=1}:En),{mod:=A.clock+1,kind:=3,id:=A.lastId+1,how:=1}]:=⟨_,rfl⟩
 obtain⟨ad,aa⟩:∃ad,ad=bo.put w.next (some (O (N 85 true) (M.map iL).flatten)):=⟨_,rfl⟩
 have an:Ch (λj=>j=w.next) bo ad:=by rw[aa];exact Ch.put _ _ rfl
 have eh:ad.next.nat=bo.next.nat:=by rw[aa];rfl
 have dd:Kn ad w.next (O (N 85 true) (M.map iL).flatten):=by rw[aa];exact⟨kJ _ _ _,by rw[jQ];omega⟩
 have cH:=b1.ch an λj f e=>by have:=C.lt j f;rw[e]at this;omega
 have dt:=ds.ch (P':=λj=>(aK 1 w).next.nat<=j.nat) (aJ _) an λj _ q=>⟨q,λe=>by rw[e]at q;omega⟩
 have be:M.length=2:=by rw[W];rfl
 have dz:Rws (λj=>j=w.next) (flat iL) 4 ad (.slice w.next 0 2 (.kn 2)) M:=by
  have:=Kn.rws (c:=iL) (l:=M) (cp:=.kn 2) (sz:=4) dd (λ_=>rfl) (λ_ _ _ _ e=>by cases e;exact Nat.le_of_eq be);rwa[be]at this
 have cX:aiC dC ([b.id].map (lq (A.clock+1))).length:=by rw[x!];exact cS
 obtain⟨eo,d5,cP,dk,ao⟩:=aqG (el:=85) (bt:=32) dt cX dz (by rw[W];simp) (by rw[be];simp);have Z:=cH.nw ao;have ei:=ao.next;have du:=dk.rows (P':=λj=>ad.next.nat<=j.nat) (aJ _) (λ_ _ q=>q.elim) λ_ q _=>q;have ah:t.ents=A.ents:=by rw[z,Q,G]
 have cc:∀e∈ [b.id].map (lq (A.clock+1))++M,e.mod=A.clock+1:=λe he=>by
  rcases d!.1 he with q|q
  ·obtain⟨id,_,rfl⟩:=r!.1 q;rfl
  ·rw[W]at q;simp at q;rcases q with q|q<;>rw[q]
 have cf:∀e∈t.ents,e.mod<=A.clock+1:=λe he=>by
  have cV:e∈A.ents:=by rw[<-ah];exact he
  have:=hC.logged.mods e cV;omega
 have ci:t.ents.length+([b.id].map (lq (A.clock+1))++M).length<=10000:=by
  rw[ah,g!,x!,be];simp;omega
 obtain⟨em,b9,bg,cQ,cq,cv,ap,bn⟩:=axb Z.lg Z.en du (λj e=>(Z.nl j e).2.1) (λj hj pj=>⟨λe=>by have:=C.lt pl C.foot.2.1;rw[e]at pj;omega,λe=>by have:=C.lt j (C.foot.2.2.2.2 j e);omega⟩) cc cf ci;have cI:=Z.aJ6 cq cv ap bn (by rw[W];simp);have ej:=ap.next;have de:=(bz.ch an λe=>by have:=cn.2;rw[e]at this;omega).nw ao;have da:¬(F p\/d p\/bI E=some p):=λe=>by
  rcases e with e|e|e
  ·have:=af p e;omega
  ·rw[ae]at e;rcases e with e|e
   ·have:=(hI p e).1;omega
   ·exact e.2.2 rfl
  ·have:=aR p e;omega
 have df:=de.ch ap λe=>da (.inl (e.elim (λe=>by rw[e];exact a.foot.2.1) λe=>a.foot.2.2.2.2 p e));have Id:∀{g:Hp},Kn g p (O (N 40 true) (dS m w1 J))->aF (X p 0) g=D (iV (A.lastId+1)) g:=λk=>k.ld (q:=0) (by rw[hm];rfl);have Th:∀{g:Hp},Kn g p (O (N 40 true) (dS m w1 J))->aF (X p 1) g=D (iV (A.lastId+1)) g:=λk=>k.ld (q:=1) (by rw[hm];rfl);have Lp:∀{g:Hp} {F:Pos->Prop} {B:Acc} {vm vl:V} {I:Pos->Prop},dL g F ps B pl ib cb fb vm vl I->aF (X ps 12) g=D (X pl 0) g:=λa=>a.st.ld (q:=12) rfl;refine⟨.tuple (.cons (iV (A.lastId+1)) (.cons (iV 0) .nil)),b9,λj=>(F j\/d j\/bI E=some j)\/bI bg=some j,E,bg,d,?_,?_,?_,?_,?_⟩
 ·rw[arx]
  suffices T:aV c! [.tmp 10,.tmp 11] (λr h'=>r=.tuple (.cons (iV (A.lastId+1)) (.cons (iV 0) .nil))/\h'=b9) (YC (T.set (some (H [])) (b! 4) (T.set (some (Y U at_)) (b! 3) (T.set (some .aP) (b! 2) (T.set (some v) (b! 1) (T.set (some (X ps 0)) (b! 0) T.nil))))) h) by
   obtain⟨r,h',e,rfl,rfl⟩:=T;exact e
  have cw:=r.len h;have cG:aS 8 (X p 0) (.agg (V.ofList [iV (A.lastId+1),iV 0,H [],iV at_,w1,.aP,iV (A.clock+1),iV (A.clock+1)])) (S.new (O (N 40 true) zMl))=D V.undef h6:=by rw[hp];exact S6
  have bx:(aK 1 S).put p (some (O (N 40 true) zMl))=S.new (O (N 40 true) zMl):=by rw[hp];rfl
  have bM:=λh=>bM0 r1.cell (A.lastId+1) 0 [] at_ (A.clock+1) (A.clock+1) h;have cT:∀{k:Out},chk (λh=>aF (X ps 14) h) (iV (A.lastId+1)) k 1 [aK 1 S]=k:=qw rfl bS;have cx:=r7.len h7;have ea:(((List.length ([]:List Nat)):Nat):Int)=0:=rfl;have ce:((0:Int)>1048576 - A.octets)=False:=eq_false (by omega);have cd:((A.mails.length:Int)>=1000)=False:=eq_false (by omega);have sb:∀g,aH .sub .none (Y U 1048576) (Y U A.octets) g=D (Y U (1048576 - A.octets)) g:=λg=>aaT (by omega) (by omega);have b2:∀g,aH .add .none (Y U A.lastId) (Y U 1) g=D (Y U (A.lastId+1)) g:=λg=>UB (by omega) (by omega);have l1:(([b.id].length:Nat):Int)=1:=rfl;have ck:∀g,aZ 1 (H []) g=D (Y U 0) g:=λg=>rfl;have dh:(at_<0)=False:=eq_false (by omega);have cU:(at_>253402300799)=False:=eq_false (by omega);rw[l1]at cw cx;simp(disch:=omega)only[vvB,e!,reduceCtorEq,↓reduceIte,YC,zB,adJ,adI,adH,adG,adF,adE,Z7,Z5,Z4,ZY,ZX,ZW,ZV,ZU,ZT,ZR,ZQ,fG,cw,dh,cU,e1,e2,L2,lm,M2,cd,ck,M4,cB,sb,ce,e3,FF,cR,e5,cz,b2,S5,eT,bS,cT,bM,aT1,<-hp,bx,cG,T6,I6,S7,cx];refine Oc.then (dP (σ:=Unit) (n:=1) (pi:=113) (pn:=112) (pc:=114) [0,4,14,16,17,18,111] (λ_=> [X ps 0,H [],w2,iV (A.clock+1),X p 0,Y U 1,w2]) (λk _ g=>(k=0/\g=h7)\/(k=1/\g=u))
   (A:=λfr g=>Fa fr [0,4,14,16,17,18] [X ps 0,H [],w2,iV (A.clock+1),X p 0,Y U 1]/\g=u) (B:=λ_ _=>False) (s:=())
   (λfr h _ k e1 e2=>by simp only[vvB,e!,reduceCtorEq,↓reduceIte,ZP,e1,e2]) (λfr h k _ e1=>by simp(disch:=omega)only[vvB,e!,reduceCtorEq,↓reduceIte,ZM,e1]) (by decide) (by rw[dR];omega) (qK0) (qK1) (by simp only[Fa,vvB,e!,reduceCtorEq,↓reduceIte,and_self]) (.inl ⟨rfl,rfl⟩) ?_ ?_) ?_ ?_
  ·intro k _ fr g hk bk b8 fa hI;obtain⟨f0,f4,av,aw,ak,ax,bj,-⟩:=fa;rcases hI with⟨rfl,rfl⟩|⟨h1,-⟩
   ·obtain⟨i,q,cs,ix,ex,-,-,-,ld,-⟩:=r7.elt (k:=0) (x:=b.id) rfl;obtain rfl:cs=iG b.id:=ex;have ct:=ld g rfl 0 (iV b.id) rfl;rw[u!]at ct;have cN:∀{k:Out},chk (λh=>aF (X p 5) h) .aP k 1 [aK 1 g]=k:=qw rfl cC;simp(disch:=omega)only[vvB,e!,reduceCtorEq,↓reduceIte,ZO,ZN,f0,ak,bj,bk,ix,ct,e8,M8,cN,aTZ,<-bd,cK,cD];exact⟨qK2 bk,qK2 b8,(),by simp only[Fa,vvB,e!,reduceCtorEq,↓reduceIte,f0,f4,av,aw,ak,ax,bj,and_self],.inr (by first|exact⟨trivial,rfl⟩|exact⟨rfl,rfl⟩)⟩
   ·omega
  ·intro _ fr g fa hI;obtain⟨f0,f4,av,aw,ak,ax,-⟩:=fa;rcases hI with⟨h1,-⟩|⟨-,rfl⟩
   ·omega
   ·exact⟨by simp only[Fa,f0,f4,av,aw,ak,ax,and_self],rfl⟩
  ·rintro fr g ⟨⟨f0,f4,av,aw,ak,ax,-⟩,rfl⟩;rw[W]at aa;have b3:∀g,aH .add .none (Y U t.octets) (Y U 0) g=D (Y U t.octets) g:=λg=>by rw[UB (by omega) (by omega)];congr 2;omega
   simp(disch:=omega)only[vvB,e!,reduceCtorEq,↓reduceIte,ZL,ZK,ZJ,ZI,f0,f4,av,aw,ak,ax,bR,bX,aTX,bf,b7,cE,cA,ck,b3,cF,cM,Id bz,qw (v:=iV (A.lastId+1)) rfl (Id a0),aC7,Th bz,qw (v:=iV (A.lastId+1)) rfl (Th a0),aTd,<-aa,cP,Lp Z,afU (v:=X pl 0) rfl (Lp b1) (Lp bh),cQ,Id df];exact aV.ret (qT0) ⟨rfl,rfl⟩
  ·intro fr g q;exact q.elim
 ·have ca:({({t with boxes:=jX (A.clock+1) [b.id] t.boxes}:Acc) with ents:=t.ents++([b.id].map (lq (A.clock+1))++M)}:Acc)=TV A b at_:=by
   rw[z,Q,G,hm,W];rfl
  rw[<-ca];exact cI
 ·have cY:(TV A b at_).mails=t.mails:=by rw[z,Q,G,hm];rfl
  rw[cY];have bN:=(dj.nw dI (Nw.bump 1 w)).ch (P':=d) dI bc (λj e L=>(C.nm j e).2.2.1 L) λj _ q=>⟨q,λL=>(C.inn j q).2.2.2.1 L⟩
  have bO:=bN.ch (P':=d) dI an (λj e L=>by have:=C.lt j (C.foot.2.2.2.1 j e);rw[L]at this;omega) λj _ q=>⟨q,λL=>by have:=C.lt j (C.inn j q).1;rw[L]at this;omega⟩
  exact(bO.nw dI ao).ch (P':=d) dI ap (λj e L=>L.elim (Z.nm j e).2.1 (Z.nm j e).2.2.2) λj _ q=>⟨q,λL=>L.elim (Z.inn j q).2.2.1 (Z.inn j q).2.2.2.2.2⟩
 ·refine⟨by omega,λj hj hn=>?_⟩;have q3:=b6.get j hj λq=>q
  have q5:=aq.get j (by omega) λe=>hn (by rw[e];exact a.foot.1);have q7:=ar.get j (by omega) λq=>q;have a1:=aM j (by omega) (λe=>hn (by rw[e];exact a.foot.2.2.1)) λe=>by rw[e]at hj;omega
  have bE:=aj.get j (by omega) λe=>hn (a.foot.2.2.2.1 j e);have dm:=bb.get j (by omega) λe=>hn (by rw[e];exact a.foot.1);have bL:=am.get j (by omega) λe=>hn (by rw[e];exact a.foot.1);have bN:=bc.get j (by omega) λe=>hn (by rw[e];exact a.foot.2.2.1);have bO:=an.get j (by omega) λe=>by rw[e]at hj;omega
  have dp:=ao.get j (by omega) λq=>q;have dq:=ap.get j (by omega) λe=>hn (e.elim (λe=>by rw[e];exact a.foot.2.1) λe=>a.foot.2.2.2.2 j e);rw[dq,dp,bO,bN];show w.get j=_;rw[bL,dm,bE,a1,q7,q5,q3]
 ·intro j q;rcases q with(q|q|q)|q
  ·exact .inl q
  ·rw[ae]at q;exact q.imp (λq=>(a.inn j q).1) λq=>q.1
  ·have:=aR j q;exact .inr (by omega)
  ·rcases bn j q with e|e
   ·exact .inl (a.foot.2.2.2.2 j e)
   ·exact .inr (by omega)
end
end Go.Proofs.Im
namespace Go.Im
def aDg:Acc:={clock:=1,boxes:= [{id:=1,name:=je,par:=0,valid:=1,next:=1,mod:=1}],mails:= [],ents:= [],floor:=0,lastBox:=1,lastId:=0,octets:=0}
end Go.Im
namespace Go.Proofs.Im
section
variable{h h' g:Hp}{F:Pos->Prop}{ps pl ib pc cp i:Pos}{A B:Acc}{cb:Cap}{fb only:Bool}{id:Int}{k n:Nat}
def aGu(h:Hp):∃h',Xp [] h=D (.agg (V.ofList QF)) h'/\Nw h h':=by
 obtain⟨d,a,-,e⟩:=mkW h (O (N 62 true) QF);have c:=mkT 9 [H [],H [],Y U 0,Y U 0,Y U 0,Y U 0,Y U 0,Y U 0,Y U 0] a;have b:∀g,bW [H [],H [],Y U 0,Y U 0,Y U 0,Y U 0,Y U 0,Y U 0,Y U 0] [(0,1,(H [117])),(1,1,(H [112])),(2,1,(Y U 1000)),(3,1,(Y U 100)),(4,1,(Y U 1048576)),(5,1,(Y U 1073741824)),(6,1,(Y U 1073741824)),(7,1,(Y U 10000)),(8,1,(Y U 200))] g=D (.agg (V.ofList QF)) g:=λg=>rfl;rw[ayn];simp only[vvB,seval,ahs,aj1,aj0,b,c];exact⟨d,by simp only[bV,bQ,vvB,seval,awo,e.ldN (n:=9) rfl,bT],by rw[a];exact Nw.new _ _⟩
def aJx(h:Hp):acC [Y U 10000] h=D (.tuple (.cons (X h.next 0) (.cons (Y U 0) .nil))) (h.new (O (N 130 true) [iV 10000,.aP,iV 0])):=by
 have B:∀g,bW [Y U 0,.aP,Y U 0] [(0,1,Y U 10000)] g=D (.agg (V.ofList [iV 10000,.aP,iV 0])) g:=λg=>rfl;rw[azR];simp(disch:=omega)only[vvB,seval,axR,aoV,aoU,aoT,B,V.cZ];simp only[bV,bQ,vvB,seval,bT]<;>rfl
abbrev aqh:List Int:= [1000,100,1048576,1073741824,1073741824,10000,200]
def aJt(h:Hp):∃ps h' F pl ib cb fb,acw [.agg (V.ofList QF)] h=D (.tuple (.cons (X ps 0) (.cons (iV 0) .nil))) h'/\dL h' F ps aDg pl ib cb fb .aP .aP (λ_=>False)/\Nw h h'/\∀j,F j->h.next.nat<=j.nat:=by
 obtain⟨b,C,c1,m⟩:=mkW h (O (N 62 true) QF);have n1:b.next.nat=h.next.nat+1:=by rw[C,bJ]
 have L0:=m.ld (q:=0) (x:=H [117]) rfl;have L1:=m.ld (q:=1) (x:=H [112]) rfl;have L2:=m.ld (q:=2) (x:=iV 1000) rfl;have L3:=m.ld (q:=3) (x:=iV 100) rfl;have L4:=m.ld (q:=4) (x:=iV 1048576) rfl;have L5:=m.ld (q:=5) (x:=iV 1073741824) rfl;have L6:=m.ld (q:=6) (x:=iV 1073741824) rfl;have L7:=m.ld (q:=7) (x:=iV 10000) rfl;have L8:=m.ld (q:=8) (x:=iV 200) rfl;have T1:wZ [H [117]] b=D (K true) b:=by rw[af2 (by decide) (by decide)];rfl
 have T2:wZ [H [112]] b=D (K true) b:=by rw[af2 (by decide) (by decide)];rfl
 obtain⟨a,E,S,k2⟩:=mkW b (O (N 3 true) (aqh.map iG).flatten);have n2:a.next.nat=b.next.nat+1:=by rw[E,bJ]
 have B2:bU 3 [Y U 0,Y U 0,Y U 0,Y U 0,Y U 0,Y U 0,Y U 0] 7 [(0,1,iV 1000),(1,1,iV 100),(2,1,iV 1048576),(3,1,iV 1073741824),(4,1,iV 1073741824),(5,1,iV 10000),(6,1,iV 200)] b=D (.slice b.next 0 7 (.kn 7)) a:=by rw[E];rfl
 have r2:Rws (λj=>j=b.next) (flat iG) 1 a (.slice b.next 0 7 (.kn 7)) aqh:=Kn.rws (c:=iG) (l:=aqh) (cp:=.kn 7) (sz:=1) k2 (λ_=>rfl) (λ_ _ _ _ e=>by cases e;exact j! _);obtain⟨d,G,c3,k3⟩:=mkW a (O (N 130 true) [iV 10000,.aP,iV 0]);have eL:=aJx a;rw[<-G]at eL;have n3:d.next.nat=a.next.nat+1:=by rw[G,bJ]
 have Q:=(m.nw S).ld (q:=7) (x:=iV 10000) rfl;have N3:=((m.nw S).nw c3).ldN (n:=9) rfl;obtain⟨bx,t⟩:∃bx:Bx,bx={id:=1,name:=je,par:=0,valid:=1,next:=1,mod:=1}:=⟨_,rfl⟩
 have BB:∀g,bW [Y U 0,H [],Y U 0,Y U 0,Y U 0,Y U 0] [(0,1,(Y U 1)),(1,1,(H [73,78,66,79,88])),(3,1,(Y U 1)),(4,1,(Y U 1)),(5,1,(Y U 1))] g=D (.agg (V.ofList (gY bx))) g:=λg=>by rw[t];rfl
 obtain⟨f,I,c4,k4⟩:=mkW d (O (N 55 true) (gY bx));have B4:bU 55 [Y U 0,H [],Y U 0,Y U 0,Y U 0,Y U 0] 1 [(0,6,.agg (V.ofList (gY bx)))] d=D (.slice d.next 0 1 (.kn 1)) f:=by rw[I,t];rfl
 have n4:f.next.nat=d.next.nat+1:=by rw[I,bJ]
 obtain⟨z,J,W,k5⟩:=mkW f (O (N tSt true) (QF++ [iV 0,.slice d.next 0 1 (.kn 1),.aP,X a.next 0,iV 1,iV 0,iV 0]));have B5:∀g,bW zSt [(0,9,.agg (V.ofList QF)),(10,1,.slice d.next 0 1 (.kn 1)),(12,1,X a.next 0),(13,1,(Y U 1))] g=D (.agg (V.ofList (QF++ [iV 0,.slice d.next 0 1 (.kn 1),.aP,X a.next 0,iV 1,iV 0,iV 0]))) g:=λg=>rfl;have X5:eX tSt (.agg (V.ofList (QF++ [iV 0,.slice d.next 0 1 (.kn 1),.aP,X a.next 0,iV 1,iV 0,iV 0]))) f=D (X f.next 0) z:=by rw[J];rfl
 have n5:z.next.nat=f.next.nat+1:=by rw[J,bJ]
 obtain⟨u6,e6⟩:=CG (n:=1) k5 (q:=9) (by simp);obtain⟨p,u⟩:∃p,p=z.put f.next (some (O (N tSt true) (stC aDg d.next (.kn 1) .aP a.next))):=⟨_,rfl⟩
 have Z:kE [X f.next 9,Y U 1] z=D u6 p:=by rw[u];exact e6
 have k6:Kn p f.next (O (N tSt true) (stC aDg d.next (.kn 1) .aP a.next)):=by rw[u];exact k5.put _
 have P:Ch (λj=>j=f.next) z p:=by rw[u];exact Ch.put _ _ rfl
 have v:Nw h p:=((((c1.trans S).trans c3).trans c4).trans W).then P λj hj e=>by rw[e]at hj;omega
 have M:∀(i j:Pos),i.nat≠j.nat->i≠j:=λi j hn e=>hn (congrArg Pos.nat e);refine⟨f.next,p,(λj=>j=f.next\/j=a.next\/j=d.next),a.next,d.next,.kn 1,true,?_,?_,v,?_⟩
 ·rw[azL]
  suffices T:aV c! [.tmp 2,.tmp 3] (λr h'=>r=.tuple (.cons (X f.next 0) (.cons (iV 0) .nil))/\h'=p) (amk (T.set (some (.agg (V.ofList QF))) (b! 0) T.nil) h) by
   obtain⟨r,h',e,rfl,rfl⟩:=T;exact e
  have rl:aZ 2 (.slice b.next 0 7 (.kn 7)) a=D (Y U 7) a:=r2.len a;simp(disch:=omega)only[vvB,seval,amk,aoG,aoF,aoE,V.cZ,<-C,L0,L1,L2,L3,L4,L5,L6,L7,L8,T1,T2,B2,rl];refine Oc.then (dP (σ:=Unit) (n:=7) (pi:=35) (pn:=34) (pc:=36) [1,33] (λ_=> [X h.next 0,.slice b.next 0 7 (.kn 7)]) (λk _ g=>g=a)
   (A:=λfr g=>fr.get (b! 1)=some (X h.next 0)/\g=a) (B:=λ_ _=>False) (s:=())
   (λfr h _ k e1 e2=>by simp only[vvB,seval,aoD,e1,e2]) (λfr h k _ e1=>by simp(disch:=omega)only[vvB,seval,aoA,e1]) (by decide) (by rw[dR];omega) (qK1) (qK1) (by simp only[Fa,vvB,seval,and_self]) rfl ?_ ?_) ?_ ?_
  ·intro k _ fr g hk y aa fa hI;obtain⟨f1,w,-⟩:=fa;subst hI;obtain⟨x,hx⟩:∃x,aqh[k]?=some x:=⟨_,k! (show k<aqh.length from hk)⟩
   obtain⟨i,q,cs,ix,ex,-,-,-,ld,-⟩:=r2.elt hx;obtain rfl:cs=iG x:=ex;have L:=ld g rfl 0 (iV x) rfl;rw[u!]at L;have hb:1<=x/\x<=2147483647:=by
    have:∀x∈aqh,1<=x/\x<=2147483647:=by decide
    exact this x (List.mem_of_getElem? hx)
   have ab:(x<1)=False:=eq_false (by omega);have ac:(x>2147483647)=False:=eq_false (by omega);simp(disch:=omega)only[vvB,seval,aoC,aoB,w,y,ix,L,ab,ac];exact⟨qK2 y,qK2 aa,(),by simp only[Fa,vvB,seval,f1,w,and_self],rfl⟩
  ·intro _ fr g fa hI;exact⟨fa.1,hI⟩
  ·rintro fr g ⟨f1,rfl⟩;simp(disch:=omega)only[vvB,seval,aoz,ajJ,ajI,ajH,f1,Q,eL,N3,BB,B4,B5,X5,Z];exact aV.ret (qT0) ⟨rfl,rfl⟩
  ·intro fr g q;exact q.elim
 ·have hb:aDg.boxes= [bx]:=by rw[t];rfl
  refine⟨k6,(((k3.nw c4).nw W).ch P (M _ _ (by omega))),?_,?_,⟨[],.nil,λ_ q=>(by cases q),.inl ⟨rfl,rfl⟩⟩,dF.nil _ _ _ _ _ _,⟨M _ _ (by omega),M _ _ (by omega),M _ _ (by omega)⟩,λj e=>(by cases e),λj e=>(by cases e),λj e=>e.elim,⟨.inl rfl,.inr (.inl rfl),.inr (.inr rfl),λj e=>(by cases e),λj e=>(by cases e)⟩,?_,λ_=>rfl⟩
  ·rw[hb];have:=(k4.nw W).ch P (M _ _ (by omega));simpa using this
  ·intro i o n c e;cases e;exact j! _
  ·intro j q;have n6:=P.next;rcases q with rfl|rfl|rfl<;>omega
 ·intro j q;rcases q with rfl|rfl|rfl<;>omega
end
end Go.Proofs.Im
namespace Go.Im
def bxF(k:Nat):Bx:={id:=1,name:=je,par:=0,valid:=1,next:=(k:Int)+1,mod:=(k:Int)+1}
def mlF(i:Nat):Ml:={id:=(i:Int)+1,thread:=(i:Int)+1,text:= [],at_:=(i:Int),keys:= [],mem:= [(1,(i:Int)+1)],mod:=(i:Int)+2,born:=(i:Int)+2}
def qp(i:Nat):List En:= [lq ((i:Int)+2) 1,{mod:=(i:Int)+2,kind:=2,id:=(i:Int)+1,how:=1},{mod:=(i:Int)+2,kind:=3,id:=(i:Int)+1,how:=1}]
def jw(k:Nat):Acc:={clock:=(k:Int)+1,boxes:= [bxF k],mails:=(h! k).map mlF,ents:=(h! k).flatMap qp,floor:=0,lastBox:=1,lastId:=(k:Int),octets:=0}
def aDx(k:Nat):TV (jw k) (bxF k) (k:Int)=jw (k+1):=by
 have a:((k:Int)+1+1)=((k+1:Nat):Int)+1:=by omega
 have d:((k:Int)+1+1)=(k:Int)+2:=by omega
 unfold TV jw;simp only[o!,List.map_append,l!,q!,t!,List.flatMap_cons,List.flatMap_nil,p!];have hb:jX ((k:Int)+1+1) [(bxF k).id] (updB (bxF k).id (λb=>{b with next:=b.next+1}) [bxF k])= [bxF (k+1)]:=by
  simp only[jX,updB,bxF,if_true,↓reduceIte];congr 1
 have c:aqe {clock:=(k:Int)+1,boxes:= [bxF k],mails:=(h! k).map mlF,ents:=(h! k).flatMap qp,floor:=0,lastBox:=1,lastId:=(k:Int),octets:=0} (bxF k) (k:Int)=mlF k:=by
  simp only[aqe,mlF,bxF,Ml.mk.injEq,true_and];omega
 rw[hb,c,a];simp only[Acc.mk.injEq,true_and,and_true];refine⟨?_,by omega⟩;congr 1;all_goals simp only[qp,lq,bxF,List.cons_append,w!,List.cons.injEq,En.mk.injEq,and_true,true_and]
 try omega
def ayV{k:Nat}(c:k<=100):(jw k).Small:=by
 refine⟨?_,?_,?_,?_,?_⟩
 ·show 0<=(k:Int)+1/\(k:Int)+1<1000000;omega
 ·show 0< [bxF k].length/\ [bxF k].length<=1000;simp
 ·show((h! k).map mlF).length<=1000;simp;omega
 ·show((h! k).flatMap qp).length<=9000;have:∀n,((h! n).flatMap qp).length=3*n:=λn=>by
   induction n with
   |zero=>rfl
   |succ n b=>rw[o!,l!,g!,b];simp[qp];omega
  rw[this];omega
 ·intro m a;obtain⟨i,_,rfl⟩:=r!.1 a;exact⟨by simp[mlF],by simp[mlF]⟩
def alE(n:Nat):((h! n).flatMap qp).length=3*n:=by
 induction n with
 |zero=>rfl
 |succ n a=>rw[o!,l!,g!,a];simp[qp];omega
def UJ(k:Nat):(jw k).Logged:=⟨λe a=>by
 obtain⟨i,hi,a⟩:=List.mem_flatMap.1 a;have:=List.mem_range.1 hi;show e.mod<=(k:Int)+1;simp only[qp,lq,y!,v!,or_false]at a;rcases a with rfl|rfl|rfl<;>simp only[]<;>omega⟩
def aFa{k:Nat}(a:k<=100):CanApp (jw k) 0 (bxF k) where
 small:=ayV a
 logged:=UJ k
 at_:=rfl
 find:=by
  show [bxF k].findIdx? (λx=>decide (x.id=(bxF k).id))=some 0;simp[bxF]
 next:=by show 0<=(k:Int)+1/\(k:Int)+1<=900000;omega
 clock:=by show(k:Int)+1<900000;omega
 lastId:=by show 0<=(k:Int)/\(k:Int)<900000;omega
 ents:=by show((h! k).flatMap qp).length<=8000;rw[alE];omega
 mails:=by show((h! k).map mlF).length<=900;simp;omega
 oct:=by show(0:Int)<=0/\(0:Int)<=1000;omega
end Go.Im
namespace Go.Proofs.Im
section
variable{h h' g:Hp}{P F I:Pos->Prop}{ps pl ib cp i:Pos}{A B:Acc}{cb:Cap}{fb only:Bool}{v vm vl:V}{id:Int}{k n:Nat}
def aJw(x:V)(h:Hp):acB [x] h=D x h:=by
 rw[azQ];simp only[vvB,seval,axQ,akP,Sm];simp only[bV,bQ,vvB,seval,bT]
def aHj(r:Rws P (flat dN) 1 h v (List.replicate n []))(hn:n<=100):
  ∃ps h' F pl ib cb fb vm vl I,Ox [v] h=D (X ps 0) h'/\dL h' F ps (jw n) pl ib cb fb vm vl I/\Nw h h'/\∀j,F j->h.next.nat<=j.nat:=by
 obtain⟨h1,e1,G⟩:=aGu h;obtain⟨ps,h2,F,pl,ib,cb,fb,e2,a2,J,f2⟩:=aJt h1;have u:=G.trans J;have n1:=G.next;have n2:=J.next;have y:=r.len;rw[List.length_replicate]at y;have e3:=aJw (iV 0) h2;rw[arz]
 suffices T:aV c! [.tmp 2] (λz h'=>z=X ps 0/\∃F pl ib cb fb vm vl I,dL h' F ps (jw n) pl ib cb fb vm vl I/\Nw h h'/\∀j,F j->h.next.nat<=j.nat) (YD (T.set (some v) (b! 0) T.nil) h) by
  obtain⟨z,h',e,rfl,F,pl,ib,cb,fb,vm,vl,I,q⟩:=T;exact⟨ps,h',F,pl,ib,cb,fb,vm,vl,I,e,q⟩
 simp(disch:=omega)only[vvB,seval,YD,ajZ,adR,adQ,aq5,e1,e2,e3,fG];refine Oc.then (dX (n:=n) (λt fr g=>∃(k:Nat) (F:Pos->Prop) (pl ib:Pos) (cb:Cap) (fb:Bool) (vm vl:V) (I:Pos->Prop),fr.get (b! 0)=some v/\fr.get (b! 3)=some (X ps 0)/\fr.get (b! 5)=some (Y U (k:Int))/\k+t=n/\dL g F ps (jw k) pl ib cb fb vm vl I/\dF 0 I jZ 40 8 g vm (jw k).mails/\Nw h g/\∀j,F j->h.next.nat<=j.nat)
  (A:=λfr g=>fr.get (b! 3)=some (X ps 0)/\∃(F:Pos->Prop) (pl ib:Pos) (cb:Cap) (fb:Bool) (vm vl:V) (I:Pos->Prop),dL g F ps (jw n) pl ib cb fb vm vl I/\Nw h g/\∀j,F j->h.next.nat<=j.nat) (B:=λ_ _=>False) (by rw[dR];omega) ?_ ?_) ?_ ?_
 ·exact⟨0,F,pl,ib,cb,fb,.aP,.aP,_,qK0,qK0,qK1,by omega,a2,dF.nil _ _ _ _ _ _,u,λj q=>by have:=f2 j q;omega⟩
 ·rintro t fr g ⟨k,F,pl,ib,cb,fb,vm,vl,I,f0,f3,L,hk,a,o,c,p⟩;by_cases hz:t=0
  ·have m:k=n:=by omega
   subst m;simp(disch:=omega)only[vvB,seval,RJ,QJ,f0,L,y];exact⟨rfl,qK2 f3,F,pl,ib,cb,fb,vm,vl,I,a,c,p⟩
  ·have m:k<n:=by omega
   obtain⟨d,f⟩:∃d,d=g.new (O (N 3 true) [iV 1]):=⟨_,rfl⟩
   have b:Nw g d:=by rw[f];exact Nw.new _ _
   have k2:Kn d g.next (O (N 3 true) ([(1:Int)].map iG).flatten):=by rw[f];exact Kn.new _ _
   have r2:Rws (λj=>j=g.next) (flat iG) 1 d (.slice g.next 0 1 (.kn 1)) [(bxF k).id]:=Kn.rws (c:=iG) (l:= [(1:Int)]) (cp:=.kn 1) (sz:=1) k2 (λ_=>rfl) (λ_ _ _ _ e=>by cases e;exact j! _);have Q:bU 3 [Y U 0] 1 [(0,1,Y U 1)] g=D (.slice g.next 0 1 (.kn 1)) d:=by rw[f];rfl
   obtain⟨i,q,cs,ix,ex,-,-,-,ld,-⟩:=(r.nw (aJ _) (c.trans b)).elt (k:=k) (x:= []) (by rw[List.getElem?_replicate,if_pos m]);obtain rfl:cs=dN []:=ex;have s:=ld d rfl 0 (H []) rfl;rw[u!]at s;obtain⟨z,g3,S,E,C,W,e4,a3,M,Z,w⟩:=azd (a.nw b) (o.nw dI b) (aFa (by omega)) r2 (at_:=(k:Int)) (by omega);rw[aDx]at a3 M;have n3:=(c.trans b).next;simp(disch:=omega)only[vvB,seval,RJ,QJ,wG,adN,f0,f3,L,y,Q,ix,s,e4];exact⟨t - 1,by omega,k+1,S,pl,ib,cb,fb,E,C,W,qK2 f0,qK2 f3,qK1,by omega,a3,M,(c.trans b).then Z λj hj q=>by have:=p j q;omega,λj q=>(w j q).elim (p j) λl=>by omega⟩
 ·rintro fr g ⟨f3,F,pl,ib,cb,fb,vm,vl,I,a,c,p⟩;simp only[vvB,seval,ajV,f3];exact aV.ret (qT0) ⟨rfl,F,pl,ib,cb,fb,vm,vl,I,a,c,p⟩
 ·intro fr g q;exact q.elim
end
end Go.Proofs.Im
