/- Lemmas that the claim's last text uses. No conditions. -/
import Derived.Test.YtpgppmioigacoaaGreatDoorDrAR
set_option linter.all false
set_option maxRecDepth 100000
open Nat renaming reduceEqDiff→a!,le_refl→j!,add_zero→w!
open Go.Vm.Pos renaming of→b!
open List renaming eraseIdx_eq_take_drop_succ→c!,mem_append→d!,getElem?_eq_some_iff→e!,getElem?_eq_getElem→g!,drop_eq_getElem_cons→i!,length_append→l!,append_nil→n!,mem_of_getElem?→o!,map_cons→p!,append_assoc→q!,length_take→r!,length_eraseIdx_of_lt→u!,drop_eq_nil_of_le→v!,mem_map_of_mem→y!,length_cons→z!,filter_cons→A!,map_append→B!,map_take→C!,map_drop→D!,mem_map→E!,map_nil→F!
open Go.Proofs.Tryz renaming prog→h!
open Go.Vm.Out renaming ret→k!,nor→t!
open Go.Vm.V renaming int→Y,ptr→X,bool→K,str→H
open Go.IntKind renaming i64→U
open Go.Vm.Ob renaming cells→O
open Go.Vm.Wr renaming rw→N
open Go.Vm.R renaming ok→D
noncomputable section
open Go Go.Vm Go.Ln Go.Proofs Go.Im
namespace Go.Im
def nS(now:List (Int×Ml))(x:Mg):Option (Int×Ml):=now.find? λy=>decide (y.1=x.uid)&&decide (y.2.id=x.id)
abbrev iF:List Nat:= [69,88,80,85,78,71,69]
def oW(n:Nat)(l:List (List Nat)):List Nat:= [42,32]++iq n++ [32]++dN [32] l++ [13,10]
def yw(now:List (Int×Ml))(l:List Mg):List Mg:=l.filter λx=>(nS now x).isSome
def nI(now:List (Int×Ml)):Nat->List Mg->List Nat
 |_,[]=> []
 |i,x::l=>if(nS now x).isSome=true then nI now (i+1) l else oW (i+1) [iF]++nI now i l
end Go.Im
namespace Go.Proofs.Im
section
variable{h h' g:Hp}{P:Pos->Prop}{p cp i:Pos}{uid only:Bool}{v:V}{L j:List V}{s:List Nat}{w:Wds}{f n:Nat}{b:Bx}{now:List (Int×Ml)}
theorem aoL{y:Int×Ml}{vk vs:V}{x:Mg}{w:Wr}(kp:Kn g p (O w (mgC x))):xH [.agg (V.ofList (thC y vk vs)),X p 0] g=.ok (K (decide (y.1=x.uid)&&decide (y.2.id=x.id))) (g.new (O (N tTh true) (thC y vk vs))):=by
 have e1:=(Kn.new g (O (N tTh true) (thC y vk vs))).ld (q:=0) (x:=iV y.1) rfl;have c:=(Kn.new g (O (N tTh true) (thC y vk vs))).ld (q:=1) (x:=iV y.2.id) rfl;have e2:=(kp.add (O (N tTh true) (thC y vk vs))).ld (q:=0) (x:=iV x.uid) rfl;have d:=(kp.add (O (N tTh true) (thC y vk vs))).ld (q:=1) (x:=iV x.id) rfl;rw[aiy];by_cases e:y.1=x.uid
 ·have a:(y.1=x.uid)=True:=eq_true e;simp only[vvB,a!,reduceCtorEq,↓reduceIte,DN,FX,FW,V.dD,e1,e2,c,d,a];simp only[aU,bW,vvB,a!,reduceCtorEq,↓reduceIte,bZ,Bool.true_and]
 ·have a:(y.1=x.uid)=False:=eq_false e;simp only[vvB,a!,reduceCtorEq,↓reduceIte,DN,FX,FW,V.dD,e1,e2,c,d,a];simp only[aU,bW,vvB,a!,reduceCtorEq,↓reduceIte,bZ,Bool.false_and]
theorem amm(p:Pos)(x:V)(g:Hp):dK x9 (.func (.func zn) .nil (.cons (X p 0) .nil)) [x] g=xH [x,X p 0] g:=(rfl)
theorem avm(x:V)(h:Hp):AV h! tTh x h=bT 9 x h:=kR
theorem acW{w:Wr}(kc:Kn h cp (O w [v]))(r:Rws P CQ 9 h v now)(hn:now.length<=1000)(x:Mg):
  ∃h' cs f,H9 [.agg (V.ofList (mgC x)),X cp 0] h=.ok (.tuple (.cons (.agg (V.ofList cs)) (.cons (K f) .nil))) h'/\Nw h h'/\cs.length=9/\f=(nS now x).isSome/\∀y,nS now x=some y->∃vk vs,cs=thC y vk vs:=by
 obtain⟨u,G,c1,k1⟩:=mkW h (O (N tVm true) (mgC x));obtain⟨h2,I,c2,k2⟩:=mkW u (O (N tTh true) zTh);have c:=c1.trans c2;have V2:=(kc.nw c).ld (q:=0) (x:=v) rfl;have Z:∀g,eP (.func zn) [] [X h.next 0] g=.ok (.func (.func zn) .nil (.cons (X h.next 0) .nil)) g:=λg=>rfl;obtain⟨o,e3,C⟩:=afa (r.nw dV c) dV (λy=>decide (y.1=x.uid)&&decide (y.2.id=x.id)) (by omega) (f:=.func (.func zn) .nil (.cons (X h.next 0) .nil)) (λy cs g _ cg e _=>by
  obtain⟨vk,vs,rfl,-,-⟩:=e;rw[amm,aoL ((k1.nw c2).nw cg)];exact⟨_,rfl,Nw.new _ _⟩)
 have d:mV [v,.func (.func zn) .nil (.cons (X h.next 0) .nil)] h2=.ok (iV (gK (now.findIdx? λy=>decide (y.1=x.uid)&&decide (y.2.id=x.id)))) o:=e3;have J:=k2.nw C;have n1:=c1.next;have m:=YI (f:=λy:Int×Ml=>decide (y.1=x.uid)&&decide (y.2.id=x.id)) (l:=now);have B3:bQ zTh [] o=.ok (.agg (V.ofList zTh)) o:=(rfl)
 rw[alr];cases B:now.findIdx? (λy=>decide (y.1=x.uid)&&decide (y.2.id=x.id)) with
 |none=>
  rw[B]at d m;simp only[gK]at d;have E:nS now x=none:=m;obtain⟨k,a⟩:∃k,k=o.put u.next (some (O (N tTh true) zTh)):=⟨_,rfl⟩
  have M:aT 9 (X u.next 0) (.agg (V.ofList zTh)) o=.ok V.undef k:=by rw[a];exact J.stN rfl rfl
  have S:Kn k u.next (O (N tTh true) zTh):=by rw[a];exact J.put _
  have Q:Nw h k:=by rw[a];exact(c.trans C).put (by omega) _
  simp(disch:=omega)only[vvB,a!,reduceCtorEq,↓reduceIte,GY,Ju,Jt,Js,WI,V.dD,<-G,<-I,V2,Z,d,B3,M];exact⟨k,zTh,false,by simp only[aU,bW,vvB,a!,reduceCtorEq,↓reduceIte,avm,S.ldN (n:=9) rfl,bZ]<;>rfl,Q,rfl,by rw[E];rfl,λy e=>by rw[E]at e;cases e⟩
 |some t=>
  rw[B]at d m;simp only[gK]at d;obtain⟨y,hy⟩:∃y,now[t]?=some y:=by
   obtain⟨ht,-⟩:=List.findIdx?_eq_some_iff_getElem.1 B;exact⟨_,g! ht⟩
  have E:nS now x=some y:=by rw[show nS now x=_ from m];exact hy
  obtain⟨i,q,cs,ix,ex,aa,-,-,-,ln⟩:=(r.nw dV (c.trans C)).elt hy;obtain⟨vk,vs,rfl,-,-⟩:=ex;have W:=ln o rfl;have V3:=((kc.nw c).nw C).ld (q:=0) (x:=v) rfl;obtain⟨k,a⟩:∃k,k=o.put u.next (some (O (N tTh true) (thC y vk vs))):=⟨_,rfl⟩
  have M:aT 9 (X u.next 0) (.agg (V.ofList (thC y vk vs))) o=.ok V.undef k:=by rw[a];exact J.stN rfl rfl
  have S:Kn k u.next (O (N tTh true) (thC y vk vs)):=by rw[a];exact J.put _
  have Q:Nw h k:=by rw[a];exact(c.trans C).put (by omega) _
  simp(disch:=omega)only[vvB,a!,reduceCtorEq,↓reduceIte,GY,Ju,Jt,Js,WH,V.dD,<-G,<-I,V2,Z,d,V3,ix,W,M];exact⟨k,thC y vk vs,true,by simp only[aU,bW,vvB,a!,reduceCtorEq,↓reduceIte,avm,S.ldN (n:=9) rfl,bZ]<;>rfl,Q,rfl,by rw[E];rfl,λz e=>by rw[E]at e;cases e;exact⟨vk,vs,rfl⟩⟩
theorem aCI{b:Nat}(d:Bd b h i 0 tBd L s){n:Nat}(z:n<100){l:List (List Nat)}(sl:Sl h.next.nat h 1 v l.length (l.map H))(e:yB 1 v)(hl:l.length<=100)(S:iG l<=1000000)(hb:∀t∈l,∀c∈t,c<256)(M:l.length<=1\/dN [32] l≠ [])(hs:s.length<=1000000):
  ∃r h' m,Ia [Y U (n:Int),v,X i 0] h=.ok r h'/\Bd b h' i 0 tBd m (s++oW n l)/\Stp (OfB i 0 L) h (OfB i 0 m) h':=by
 have Z:=uO z;obtain⟨r1,J,e1,rfl,o⟩:=ahB (sep:= [32]) sl e (j! _) (by omega) (by simp) (by omega) hb (by simp) M;have Q:(dN [32] l).length<=1000100:=by
  cases l with
  |nil=>simp[dN]
  |cons a r=>
   rw[AA,l!,acK];simp[iG]at S⊢;simp at hl;omega
 obtain⟨r2,u,I,e2,b2,W,-,-⟩:=PN (d.ch o λ_ _ _ q=>q) (oW n l) (by unfold oW;simp;omega);have D:=acS z h;have Sa:∀(x y:List Nat) (g:Hp),x.length+y.length<4000000->aJ .add .none (H x) (H y) g=.ok (H (x++y)) g:=λx y g hl=>kz (by omega);have B:=λg=>Sa [42,32] (iq n) g (by simp;omega);have C:=λg=>Sa ([42,32]++iq n) [32] g (by simp;omega);have E:=λg=>Sa ([42,32]++iq n++ [32]) (dN [32] l) g (by simp;omega);have G:=λg=>Sa ([42,32]++iq n++ [32]++dN [32] l) [13,10] g (by simp;omega);have k:xM [X i 0,H ([42,32]++iq n++ [32]++dN [32] l++ [13,10])] J=.ok r2 u:=e2;rw[als];simp only[vvB,a!,reduceCtorEq,↓reduceIte,RU,WJ,D,B,C,e1,E,G,k];exact⟨_,u,I,by simp only[aU,bW,vvB,a!,reduceCtorEq,↓reduceIte,bZ]<;>rfl,b2,((Stp.refl (OfB i 0 L) h).step o λ_ q=>q.elim).trans W⟩
end
end Go.Proofs.Im
namespace Go.Im
theorem XW{n:Nat}(e:n<100):(oW n [iF]).length<=14/\(∀c∈oW n [iF],c<256)/\oW n [iF]≠ []:=by
 have d:=uO e;refine⟨by simp[oW,dN];omega,λc b=>?_,by simp[oW]⟩;simp only[oW,d!]at b;rcases b with(((b|b)|b)|b)|b
 ·revert c;decide
 ·exact d.2.1 c b
 ·revert c;decide
 ·revert c;decide
 ·revert c;decide
theorem ahG(now:List (Int×Ml)):∀(l:List Mg) (i:Nat),i+l.length<100->(nI now i l).length<=14*l.length/\∀c∈nI now i l,c<256
 | [],i,_=>⟨by simp[nI],λc b=>by simp[nI]at b⟩
 |x::l,i,h=>by
  simp only[z!]at h;unfold nI;split
  ·have:=ahG now l (i+1) (by omega);exact⟨by simp;omega,this.2⟩
  ·have d:=ahG now l i (by omega);have e:=XW (n:=i+1) (by omega);refine⟨by simp;omega,λc b=>?_⟩;rcases d!.1 b with q|q
   ·exact e.2.1 c q
   ·exact d.2 c q
theorem ajs(now:List (Int×Ml))(x:Mg)(l:List Mg):yw now (x::l)=if(nS now x).isSome=true then x::yw now l else yw now l:=by
 unfold yw;rw[A!]
end Go.Im
namespace Go.Proofs.Im
section
variable{h g:Hp}{J:Pos->Prop}{pv im i:Pos}{only u:Bool}{v vw:V}{box had:Int}{st:Sn}{L a:List V}{s:List Nat}{w:Wds}{k f n:Nat}{now:List (Int×Ml)}{m:List Mg}
theorem axj{w:Wr}(l:Kn h i (O w L))(j:L[1]?=some .aQ):Ir [X i 0] h=D (H []) h:=by
 have b:=l.ld j;have c:Az .aQ h=D .bP h:=rfl;have d:aZ 2 .aQ h=D (Y U 0) h:=rfl;have e:FC 5 .bP (Y U 0) h=D (H []) h:=rfl;rw[aoz];simp(disch:=omega)only[vvB,a!,reduceCtorEq,↓reduceIte,ak9,aia,ah9,b,c,d,e,wG (v:=.aQ) rfl b];simp only[aU,bW,vvB,a!,reduceCtorEq,↓reduceIte,bZ]
theorem aCL(vk:VwK h J pv box had m vw)(M:k<m.length)(hm:m.length<=1000):
  ∃o c vw',kN [vw,Y U (k:Int),Y U ((k:Int)+1)] h=D vw' o/\Kn o pv (O (N tVw true) [iV box,vw,iV had])/\aT 1 (X pv 1) vw' o=D V.undef c/\VwK c J pv box had (m.eraseIdx k) vw'/\Ch J h c:=by
 rcases vk.row with⟨rfl,-⟩|⟨im,f,rest,rfl,Z⟩
 ·simp at M
 have W:∀d∈m.map mgC,d.length=3:=λd S=>by obtain⟨x,_,rfl⟩:=E!.1 S;rfl
 have C:(m.map mgC).length=m.length:=List.length_map _;obtain⟨o,t,e1,P,z⟩:=aiF (i:=k) Z W (by omega) (by omega);rw[C]at e1;have G:(m.map mgC).eraseIdx k=(m.eraseIdx k).map mgC:=by
  rw[c!,c!,B!,C!,D!]
 rw[G]at P;have E:(m.eraseIdx k).length=m.length - 1:=u! M;have r:im≠pv:=λe=>vk.nv (by rw[<-e];rfl);have v1:=vk.vw.ch z λe=>r e.symm;obtain⟨c,p⟩:∃c,c=o.put pv (some (O (N tVw true) [iV box,.slice im 0 (m.length - 1) (.un 3),iV had])):=⟨_,rfl⟩
 have Q:aT 1 (X pv 1) (.slice im 0 (m.length - 1) (.un 3)) o=D V.undef c:=by rw[p];exact v1.st (q:=1) ⟨rfl,rfl⟩ (by simp)
 have B:Ch (λj=>j=pv) o c:=by rw[p];exact Ch.put _ _ rfl
 have I:J im:=vk.foot.2.1 im rfl;have y:Ch J h c:=(z.mono λj _ e=>by rw[e];exact I).trans (B.mono λj _ e=>by rw[e];exact vk.foot.1) λ_ _ q=>q;refine⟨o,c,.slice im 0 (m.length - 1) (.un 3),e1,v1,Q,?_,y⟩;have b:∀x∈m.eraseIdx k,x∈m:=λx l=>List.mem_of_mem_eraseIdx l
 refine⟨by rw[p];exact v1.put _,.inr ⟨im,f,t,by rw[E],P.ch B r⟩,λx l=>((vk.told x (b x l)).ch z λe=>(vk.sep x (b x l)).2 (by rw[e];rfl)).ch B λe=>(vk.sep x (b x l)).1 e,?_,λx l=>⟨(vk.sep x (b x l)).1,λe=>(vk.sep x (b x l)).2 (by cases e;rfl)⟩,λe=>by cases e;exact r rfl,⟨vk.foot.1,λj e=>by cases e;exact I,λx l=>vk.foot.2.2 x (b x l)⟩,λj q=>Nat.lt_of_lt_of_le (vk.lt j q) y.next⟩;have:(m.eraseIdx k).map (·.at_)=(m.map (·.at_)).eraseIdx k:=by
  rw[c!,c!,B!,C!,D!]
 rw[this];exact vk.nd.sublist (List.eraseIdx_sublist _ _)
theorem aBz{cs:List V}(hl:cs.length=9)(h:Hp):aT 9 (X h.next 0) (.agg (V.ofList cs)) (h.new (O (N tTh true) zTh))=D V.undef (h.new (O (N tTh true) cs)):=by
 have:=iT (h:=h) (t:=tTh) (f:=true) (z:=zTh) (l:=V.ofList cs) (n:=9) (V.dO _) (by rw[V.dD];exact hl) rfl;rw[V.dD]at this;exact this
structure Upd (h:Hp) (J:Pos->Prop) (pv:Pos) (box had:Int) (now:List (Int×Ml)) (pb pn:Pos) (top:Nat) (Pn:Pos->Prop) (rn:V) (g:Hp) (m':List Mg) (vw':V) (s:List Nat) (L:List V):Prop where
 vk:VwK g J pv box had m' vw'
 bd:Bd h.next.nat g pb 0 tBd L s
 ofb:∀j,OfB pb 0 L j->j=pb\/top<=j.nat
 nil:s= []->L[1]?=some .aQ
 rows:Rws Pn CQ 9 g rn now
 cell:Kn g pn (O (N tTs true) [rn])
 ch:Ch J h g
 lt:pb.nat<pn.nat/\pn.nat<top/\h.next.nat<=pb.nat
 pn_:∀j,Pn j->pb.nat<j.nat/\j.nat<top/\j≠pn
theorem Upd.nw{pb pn:Pos}{top:Nat}{Pn:Pos->Prop}{rn:V}{g b:Hp}{m':List Mg}{vw':V}(u:Upd h J pv box had now pb pn top Pn rn g m' vw' s L)(c:Nw g b):Upd h J pv box had now pb pn top Pn rn b m' vw' s L where
 vk:=u.vk.ch c λ_ _ q=>q
 bd:=u.bd.ch c λ_ _ _ q=>q
 ofb:=u.ofb
 nil:=u.nil
 rows:=u.rows.nw dV c
 cell:=u.cell.nw c
 ch:=u.ch.nw c
 lt:=u.lt
 pn_:=u.pn_
theorem Upd.say{pb pn:Pos}{top:Nat}{Pn:Pos->Prop}{rn:V}{g p:Hp}{m':List Mg}{vw':V}{s':List Nat}{b:List V}(u:Upd h J pv box had now pb pn top Pn rn g m' vw' s L)(r:∀j,J j->j.nat<h.next.nat)(t:top<=g.next.nat)(d:Bd h.next.nat p pb 0 tBd b s')(c:Stp (OfB pb 0 L) g (OfB pb 0 b) p)(x:s'≠ []):Upd h J pv box had now pb pn top Pn rn p m' vw' s' b where
 vk:=u.vk.ch c.ch λj q o=>by have:=r j q;have:=(o.from u.bd _).1;omega
 bd:=d
 ofb:=λj o=>(c.sub j o).elim (u.ofb j) λl=>.inr (by omega)
 nil:=λe=>absurd e x
 rows:=u.rows.ch dV c.ch λj _ q=>⟨q,λo=>(u.ofb j o).elim (λe=>by have:=u.pn_ j q;rw[e]at this;omega) λe=>by have:=u.pn_ j q;omega⟩
 cell:=u.cell.ch c.ch λo=>(u.ofb _ o).elim (λe=>by have:=u.lt;rw[e]at this;omega) λe=>by have:=u.lt;omega
 ch:=u.ch.trans c.ch λj y o=>by have:=(o.from u.bd _).1;omega
 lt:=u.lt
 pn_:=u.pn_
theorem Upd.del{pb pn:Pos}{top:Nat}{Pn:Pos->Prop}{rn:V}{g l:Hp}{m' o:List Mg}{vw' d:V}(u:Upd h J pv box had now pb pn top Pn rn g m' vw' s L)(b:∀j,J j->j.nat<h.next.nat)(vk:VwK l J pv box had o d)(c:Ch J g l):Upd h J pv box had now pb pn top Pn rn l o d s L where
 vk:=vk
 bd:=u.bd.ch c λj hb _ q=>by have:=b j q;omega
 ofb:=u.ofb
 nil:=u.nil
 rows:=u.rows.ch dV c λj _ q=>⟨q,λe=>by have:=b j e;have:=u.pn_ j q;have:=u.lt;omega⟩
 cell:=u.cell.ch c λe=>by have:=b _ e;have:=u.lt;omega
 ch:=u.ch.trans c λ_ _ q=>q
 lt:=u.lt
 pn_:=u.pn_
end
section
variable{h h' g:Hp}{F I J:Pos->Prop}{ps pl ib pv pc i:Pos}{A B:Acc}{cb:Cap}{fb only u:Bool}{v vm vl vw:V}{box had:Int}{L:List V}{s:List Nat}{k f n:Nat}{now:List (Int×Ml)}{m:List Mg}{all:Bool}
theorem ajw(now:List (Int×Ml))(i:Nat)(x:Mg)(l:List Mg):nI now i (x::l)=if(nS now x).isSome=true then nI now (i+1) l else oW (i+1) [iF]++nI now i l:=(rfl)
theorem anS{now:List (Int×Ml)}:∀{m:List Mg} {i:Nat},(∀x∈m,(nS now x).isSome=true)->nI now i m= []
 | [],_,_=>rfl
 |x::m,i,h=>by rw[ajw,if_pos (h x (by simp)),anS λy a=>h y (by simp[a])]
theorem azq{now:List (Int×Ml)}{m:List Mg}(h:∀x∈m,(nS now x).isSome=true):yw now m=m:=List.filter_eq_self.2 h
theorem atV(a:dG h F ps A pl ib cb fb vm vl I)(hA:A.Small)(vk:VwK h J pv box had m vw)(hm:m.length<50)(hs:(Wn A.aP box).Pairwise λx y=>x.1<y.1)(aE:(Wn A.aP box).length<50)
  (hq:∀x∈m,∀y,nS (Wn A.aP box) x=some y->y.2.mod<=x.told) (hh:∀y∈Wn A.aP box,y.1<=had) (ab:all=false->∀x∈m,(nS (Wn A.aP box) x).isSome=true):
  ∃h' vw',XJ [X pv 0,X ps 0,K all] h=D (H (nI (Wn A.aP box) 0 m)) h'/\VwK h' J pv box had (yw (Wn A.aP box) m) vw'/\Ch J h h':=by
 obtain⟨now,aM⟩:∃now,now=Wn A.aP box:=⟨_,rfl⟩
 obtain⟨h1,aq,c1,-⟩:=mkW h (O (N tBd true) [.bP,.aQ]);have n1:h1.next.nat=h.next.nat+1:=by rw[aq,bD]
 have d1:Bd h.next.nat h1 h.next 0 tBd [.bP,.aQ] []:=by
  rw[aq];exact⟨j! _,by rw[bD];omega,dR _ _,.inl rfl,⟨.aQ,rfl,Ow.nil _ _ _ _,λj hj=>(by cases hj)⟩,au8⟩
 have B0:=(vk.vw.nw c1).ld (q:=0) (x:=iV box) rfl;obtain⟨r,p,e2,o2,c2⟩:=afu (a.nw c1) hA hs aE;rw[<-aM]at hs aE hq hh ab o2⊢;have R2:=(o2.rws dV).mono (P':=λj=>h1.next.nat<=j.nat/\j.nat<p.next.nat) dV λj hj q=>⟨q,hj⟩
 have n2:=c2.next;obtain⟨h3,ai⟩:∃h3,h3=p.new (O (N tTs true) [r]):=⟨_,rfl⟩
 have S3:aT 1 (X p.next 0) r (p.new (O (N tTs true) [.aQ]))=D V.undef h3:=by rw[ai];exact alI R2.cell (by simp)
 have c3:Nw p h3:=by rw[ai];exact Nw.new _ _
 have n3:h3.next.nat=p.next.nat+1:=by rw[ai,bD]
 have ax:=(c1.trans c2).trans c3;have u3:Upd h J pv box had now h.next p.next h3.next.nat (λj=>h1.next.nat<=j.nat/\j.nat<p.next.nat) r h3 m vw [] [.bP,.aQ]:=
  {vk:=vk.ch ax λ_ _ q=>q
   bd:=d1.ch (c2.trans c3) λ_ _ _ q=>q
   ofb:=λj o=>o.elim .inl λ⟨v,e,hv⟩=>by cases e;cases hv
   nil:=λ_=>rfl
   rows:=R2.nw dV c3
   cell:=by rw[ai];exact Kn.new _ _
   ch:=ax.ch
   lt:=⟨by omega,by omega,j! _⟩
   pn_:=λj q=>⟨by omega,by omega,λe=>by rw[e]at q;omega⟩}
 have aa:=vk.lt;rw[aoA]
 suffices T:aX h! [.tmp 6] (λr' h'=>r'=H (nI now 0 m)/\∃vw',VwK h' J pv box had (yw now m) vw'/\Ch J h h') (ad5 (T.set (some (K all)) (b! 2) (T.set (some (X ps 0)) (b! 1) (T.set (some (X pv 0)) (b! 0) T.nil))) h) by
  obtain⟨r',h',e,rfl,vw',q⟩:=T;exact⟨h',vw',e,q⟩
 simp only[vvB,a!,reduceCtorEq,↓reduceIte,ad5,aid,aic,asr,asq,aso,asn,asl,eG,<-aq,B0,e2,S3];refine Oc.then (dZ (n:=m.length) (λ μ fr g=>∃(k:Nat) (m':List Mg) (vw':V) (s:List Nat) (L:List V),fr.get (b! 0)=some (X pv 0)/\fr.get (b! 2)=some (K all)/\fr.get (b! 7)=some (X h.next 0)/\fr.get (b! 8)=some (.func (.func afk) .nil (.cons (X h.next 0) .nil))/\fr.get (b! 9)=some (X p.next 0)/\fr.get (b! 10)=some (.func (.func CS) .nil (.cons (X p.next 0) .nil))/\fr.get (b! 11)=some (Y U (k:Int))/\
   k+μ=m'.length/\m'.length<=m.length/\h3.next.nat<=g.next.nat/\Upd h J pv box had now h.next p.next h3.next.nat (λj=>h1.next.nat<=j.nat/\j.nat<p.next.nat) r g m' vw' s L/\s++nI now k (m'.drop k)=nI now 0 m/\m'.take k++yw now (m'.drop k)=yw now m/\s.length+14*m'.length<=14*m.length/\(all=false->k=0/\m'=m/\s= []))
  (A:=λfr g=>∃(vw':V) (L:List V),fr.get (b! 0)=some (X pv 0)/\fr.get (b! 7)=some (X h.next 0)/\fr.get (b! 9)=some (X p.next 0)/\fr.get (b! 10)=some (.func (.func CS) .nil (.cons (X p.next 0) .nil))/\h3.next.nat<=g.next.nat/\Upd h J pv box had now h.next p.next h3.next.nat (λj=>h1.next.nat<=j.nat/\j.nat<p.next.nat) r g (yw now m) vw' (nI now 0 m) L) (B:=λ_ _=>False) (by rw[dW];omega) ?_ ?_) ?_ ?_
 ·exact⟨0,m,vw,[],[.bP,.aQ],qK0,qK0,qK0,qK0,qK0,qK0,qK1,by omega,j! _,j! _,u3,by simp,by simp,by simp,λ_=>⟨rfl,rfl,rfl⟩⟩
 ·rintro μ fr g ⟨k,m',vw',s,L,f0,f2,t,f8,M,b,af,hk,a8,ae,u,Z,W,hl,a4⟩;have P1:=u.vk.vw.ld (q:=1) (x:=vw') rfl;have ln:=u.vk.rws.len g;by_cases ha:all=false
  ·obtain⟨rfl,rfl,rfl⟩:=a4 ha;rw[ha]at f2;have g1:=anS (i:=0) (ab ha);simp(disch:=omega)only[vvB,a!,reduceCtorEq,↓reduceIte,Sv,RH,f0,f2];refine⟨rfl,vw',L,qK2 f0,qK2 t,qK2 M,qK2 b,ae,?_⟩;rw[g1,azq (ab ha)];exact u
  have ha:all=true:=by simpa using ha
  rw[ha]at f2;by_cases hz:μ=0
  ·have C:k=m'.length:=by omega
   subst C;rw[List.drop_length]at Z W;simp only[nI,n!]at Z;rw[List.take_length,show yw now []= [] from rfl,n!]at W;subst Z;subst W;simp(disch:=omega)only[vvB,a!,reduceCtorEq,↓reduceIte,Sv,RH,f0,f2,af,P1,ln];exact⟨rfl,vw',L,qK2 f0,qK2 t,qK2 M,qK2 b,ae,u⟩
  ·have C:k<m'.length:=by omega
   obtain⟨x,hx⟩:∃x,m'[k]?=some x:=⟨_,g! C⟩
   have a7:m'.drop k=x::m'.drop (k+1):=by rw[i! C];rw[g! C]at hx;cases hx;rfl
   obtain⟨i,q,cs,ix,ex,-,-,-,-,lN⟩:=u.vk.rws.elt hx;obtain rfl:cs=mgC x:=ex;have E:=lN g rfl;obtain⟨z,cs,f,e4,c4,ac,hf,hy⟩:=acW u.cell u.rows (by omega) x;have w:dK XB (.func (.func CS) .nil (.cons (X p.next 0) .nil)) [.agg (V.ofList (mgC x))] g=D (.tuple (.cons (.agg (V.ofList cs)) (.cons (K f) .nil))) z:=e4;obtain⟨l,P⟩:∃l,l=z.new (O (N tTh true) cs):=⟨_,rfl⟩
   have S5:=aBz ac z;rw[<-P]at S5;have c5:Nw z l:=by rw[P];exact Nw.new _ _
   have ay:=c4.trans c5;have u5:=u.nw ay;have bf:=ay.next;rw[a7]at Z W;rw[ajs]at W;rw[ajw]at Z;rw[<-hf]at Z W;cases ad:f with
   |true=>
    rw[ad]at Z W w;rw[if_pos rfl]at Z W;simp(disch:=omega)only[vvB,a!,reduceCtorEq,↓reduceIte,Sv,RH,aib,adK,aop,f0,f2,b,af,P1,ln,ix,E,w,S5];refine⟨μ - 1,by omega,k+1,m',vw',s,L,qK2 f0,by simp only[vvB,a!,reduceCtorEq,↓reduceIte,f2,ha],qK2 t,qK2 f8,qK2 M,qK2 b,qK1,by omega,a8,by omega,u5,Z,?_,hl,λe=>by rw[ha]at e;cases e⟩;rw[Go.Vm.take_snoc hx,q!];exact W
   |false=>
    rw[ad]at Z W w;rw[if_neg (by simp)]at Z W;obtain⟨g6,ap,c6,-⟩:=mkW l (O (N 9 true) [H iF]);have n6:g6.next.nat=l.next.nat+1:=by rw[ap,bD]
    have u6:=u5.nw c6;have sl:Sl g6.next.nat g6 1 (.slice l.next 0 1 (.kn 1)) [iF].length ([iF].map H):=by
     have:=Sl.aDN (el:=9) (h:=l) [H iF] (n:=1) rfl;rw[n6,ap];exact this
    obtain⟨rr,g7,L7,e7,d7,p7⟩:=aCI u6.bd (n:=k+1) (by omega) sl ajF (by simp) (by simp[iG]) (by simp) (.inl (by simp)) (by omega);have aR:s++oW (k+1) [iF]≠ []:=by simp[oW]
    have u7:=u6.say aa (by omega) d7 p7 aR;have a3:dK XB (.func (.func afk) .nil (.cons (X h.next 0) .nil)) [Y U ((k:Int)+1),.slice l.next 0 1 (.kn 1)] g6=D rr g7:=by
     have hc:((k+1:Nat):Int)=(k:Int)+1:=by omega
     rw[hc]at e7;exact e7
    obtain⟨g8,g9,bc,e8,k8,S9,bb,c9⟩:=aCL u7.vk C (by omega);have u9:=u7.del aa bb c9;have P7:=u7.vk.vw.ld (q:=1) (x:=vw') rfl;have n7:=p7.ch.next;have n9:=c9.next;have B6:=pU 9 iF (h:=l);rw[<-ap]at B6;simp(disch:=omega)only[vvB,a!,reduceCtorEq,↓reduceIte,Sv,RH,aib,adK,aoo,aon,f0,f2,f8,b,af,P1,ln,ix,E,w,S5,B6,a3,P7,e8,S9];have ar:(m'.eraseIdx k).length=m'.length - 1:=u! C;have aL:(m'.eraseIdx k).drop k=m'.drop (k+1):=by
     rw[c!,List.drop_append_of_le_length (by rw[r!];omega),v! (by rw[r!];omega),List.nil_append]
    have a9:(m'.eraseIdx k).take k=m'.take k:=by
     rw[c!,List.take_append_of_le_length (by rw[r!];omega),List.take_take,Nat.min_self]
    refine⟨μ - 1,by omega,k,m'.eraseIdx k,bc,_,L7,qK2 f0,by simp only[vvB,a!,reduceCtorEq,↓reduceIte,f2,ha],qK2 t,qK2 f8,qK2 M,qK2 b,qK2 af,by omega,by omega,by omega,u9,?_,?_,?_,λe=>by rw[ha]at e;cases e⟩
    ·rw[aL,q!];exact Z
    ·rw[aL,a9];exact W
    ·have:=(XW (n:=k+1) (by omega)).1;rw[l!,ar];omega
 ·rintro fr g ⟨S,L1,f0,t,M,b,ae,u⟩;obtain⟨m1,au⟩:∃m1,m1=yw now m:=⟨_,rfl⟩
  have a0:∀x∈m1,x∈m:=λx hx=>by rw[au]at hx;exact(List.mem_filter.1 hx).1
  have be:m1.length<=m.length:=by rw[au];exact List.length_filter_le _ _
  rw[<-au]at u⊢;have P1:=u.vk.vw.ld (q:=1) (x:=S) rfl;have ln:=u.vk.rws.len g;simp only[vvB,a!,reduceCtorEq,↓reduceIte,aom,f0,P1,ln];refine Oc.then (dS (σ:=Unit) (n:=m1.length) (pi:=78) (pn:=77) (pc:=79) [0,7,9,10,76] (λ_=> [X pv 0,X h.next 0,X p.next 0,.func (.func CS) .nil (.cons (X p.next 0) .nil),S]) (λk _ d=>Nw g d)
   (A:=λfr d=>fr.get (b! 0)=some (X pv 0)/\fr.get (b! 7)=some (X h.next 0)/\fr.get (b! 9)=some (X p.next 0)/\Nw g d) (B:=λ_ _=>False) (s:=())
   (λfr h _ k e1 e2=>by simp only[vvB,a!,reduceCtorEq,↓reduceIte,aol,e1,e2]) (λfr h k _ e1=>by simp(disch:=omega)only[vvB,a!,reduceCtorEq,↓reduceIte,aok,e1]) (by decide) (by rw[dW];omega) (qK0) (qK0) (by simp only[Fa,vvB,a!,reduceCtorEq,↓reduceIte,f0,t,M,b,and_self]) (Nw.refl _) ?_ ?_) ?_ ?_
  ·intro k _ fr d hk ah aD fa c;obtain⟨f0,t,M,b,ag,-⟩:=fa;obtain⟨x,hx⟩:∃x,m1[k]?=some x:=⟨_,g! hk⟩
   have u':=u.nw c;obtain⟨i,q,cs,ix,ex,-,-,-,-,lN⟩:=u'.vk.rws.elt hx;obtain rfl:cs=mgC x:=ex;have E:=lN d rfl;obtain⟨z,an⟩:∃z,z=d.new (O (N tVm true) (mgC x)):=⟨_,rfl⟩
   have S2:aT 3 (X d.next 0) (.agg (V.ofList (mgC x))) (d.new (O (N tVm true) zVm))=D V.undef z:=by rw[an];exact iT (V.dO _) rfl rfl
   have al:Nw d z:=by rw[an];exact Nw.new _ _
   have k2:Kn z d.next (O (N tVm true) (mgC x)):=by rw[an];exact Kn.new _ _
   have u2:=u'.nw al;obtain⟨l,cs,f,e4,c4,ac,hf,hy⟩:=acW u2.cell u2.rows (by omega) x;have w:dK XB (.func (.func CS) .nil (.cons (X p.next 0) .nil)) [.agg (V.ofList (mgC x))] z=D (.tuple (.cons (.agg (V.ofList cs)) (.cons (K f) .nil))) l:=e4;obtain⟨g4,ao⟩:∃g4,g4=l.new (O (N tTh true) cs):=⟨_,rfl⟩
   have S5:=aBz ac l;rw[<-ao]at S5;have c5:Nw l g4:=by rw[ao];exact Nw.new _ _
   have k4:Kn g4 l.next (O (N tTh true) cs):=by rw[ao];exact Kn.new _ _
   have N2:=k2.ldN (n:=3) rfl;cases ad:f with
   |false=>
    rw[ad]at w;simp(disch:=omega)only[vvB,a!,reduceCtorEq,↓reduceIte,adJ,adI,adH,ag,ah,b,ix,E,S2,N2,w,S5];exact⟨qK2 ah,qK2 aD,(),by simp only[Fa,vvB,a!,reduceCtorEq,↓reduceIte,f0,t,M,b,ag,and_self],((c.trans al).trans c4).trans c5⟩
   |true=>
    rw[ad]at w hf;obtain⟨y,a1⟩:∃y,nS now x=some y:=Option.isSome_iff_exists.1 hf.symm;obtain⟨av,aw,a6⟩:=hy y a1;rw[a6]at k4;have ar:=hq x (a0 x (o! hx)) y a1;have Q:(y.2.mod>x.told)=False:=eq_false (by omega);have T2:=((k2.nw c4).nw c5).ld (q:=2) (x:=X x.at_ 0) rfl;have a5:=Uw (n:=x.told) (((u2.vk.told x (o! hx)).nw c4).nw c5) (q:=0) rfl;have M7:=k4.ld (q:=7) (x:=iV y.2.mod) rfl;have cM:∀{k:Out},chk (λh=>aF (X l.next 7) h) (iV y.2.mod) k 1 [g4]=k:=wG rfl M7;simp(disch:=omega)only[vvB,a!,reduceCtorEq,↓reduceIte,adJ,adI,adH,ag,ah,b,ix,E,S2,N2,w,S5,T2,a5,Nat.reduceAdd,M7,cM,Q];exact⟨qK2 ah,qK2 aD,(),by simp only[Fa,vvB,a!,reduceCtorEq,↓reduceIte,f0,t,M,b,ag,and_self],((c.trans al).trans c4).trans c5⟩
  ·intro _ fr d fa c;obtain⟨f0,t,M,-⟩:=fa;exact⟨f0,t,M,c⟩
  ·rintro fr z ⟨f0,t,M,c⟩;have u2:=u.nw c;have P2:=u2.vk.vw.ld (q:=1) (x:=S) rfl;have Q2:=u2.vk.vw.ld (q:=2) (x:=iV had) rfl;have ba:=u2.vk.rws.len z;have R9:=u2.cell.ld (q:=0) (x:=r) rfl;have rl:=u2.rows.len z;simp only[vvB,a!,reduceCtorEq,↓reduceIte,aoj,aoi,f0,M,P2,Q2,ba,R9,rl];refine Oc.then (dS (σ:=Unit) (n:=now.length) (pi:=135) (pn:=134) (pc:=136) [0,7,18,19,133] (λ_=> [X pv 0,X h.next 0,iV had,Y U (m1.length:Int),r]) (λk _ d=>Nw z d)
    (A:=λfr d=>fr.get (b! 0)=some (X pv 0)/\fr.get (b! 7)=some (X h.next 0)/\fr.get (b! 19)=some (Y U (m1.length:Int))/\Nw z d) (B:=λ_ _=>False) (s:=())
    (λfr h _ k e1 e2=>by simp only[vvB,a!,reduceCtorEq,↓reduceIte,aoh,e1,e2]) (λfr h k _ e1=>by simp(disch:=omega)only[vvB,a!,reduceCtorEq,↓reduceIte,aoe,e1]) (by decide) (by rw[dW];omega) (qK0) (qK0) (by simp only[Fa,vvB,a!,reduceCtorEq,↓reduceIte,f0,t,and_self]) (Nw.refl _) ?_ ?_) ?_ ?_
   ·intro k _ fr d hk ak az fa c';obtain⟨f0,t,am,G,aj,-⟩:=fa;obtain⟨y,hy⟩:∃y,now[k]?=some y:=⟨_,g! hk⟩
    obtain⟨i,q,cs,ix,ex,ac,-,-,-,lN⟩:=(u2.nw c').rows.elt hy;obtain⟨av,aw,rfl,-,-⟩:=ex;have E:=lN d rfl;obtain⟨l,P⟩:∃l,l=d.new (O (N tTh true) (thC y av aw)):=⟨_,rfl⟩
    have S5:=aBz ac d;rw[<-P]at S5;have c5:Nw d l:=by rw[P];exact Nw.new _ _
    have k3:Kn l d.next (O (N tTh true) (thC y av aw)):=by rw[P];exact Kn.new _ _
    have Y0:=k3.ld (q:=0) (x:=iV y.1) rfl;have ar:=hh y (o! hy);have Q:(y.1>had)=False:=eq_false (by omega);simp(disch:=omega)only[vvB,a!,reduceCtorEq,↓reduceIte,aog,aof,aj,ak,am,ix,E,S5,Y0,Q];exact⟨qK2 ak,qK2 az,(),by simp only[Fa,vvB,a!,reduceCtorEq,↓reduceIte,f0,t,am,G,aj,and_self],c'.trans c5⟩
   ·intro _ fr d fa c';obtain⟨f0,t,am,G,-⟩:=fa;exact⟨f0,t,G,c'⟩
   ·rintro fr g4 ⟨f0,t,G,c'⟩;have u4:=u2.nw c';have P4:=u4.vk.vw.ld (q:=1) (x:=S) rfl;have a2:=u4.vk.rws.len g4;have Q:(((m1.length:Nat):Int)>(m1.length:Int))=False:=eq_false (by omega);by_cases he:nI now 0 m= []
    ·have S0:=axj (L:=L1) ⟨u4.bd.get,u4.bd.hi⟩ (u4.nil he);simp only[vvB,a!,reduceCtorEq,↓reduceIte,adG,adF,f0,t,G,P4,a2,Q,S0];exact aX.ret (qT0) ⟨by rw[he],S,u4.vk,u4.ch⟩
    ·have hg:=ahG now m 0 (by omega);obtain⟨g5,e5,c5,n5⟩:=ace u4.bd he hg.2 (by omega);simp only[vvB,a!,reduceCtorEq,↓reduceIte,adG,adF,f0,t,G,P4,a2,Q,e5];refine aX.ret (qT0) ⟨rfl,S,u4.vk.ch c5 λj q o=>?_,u4.ch.trans c5 λj hj o=>?_⟩
     ·have:=aa j q;have:=(o.1.from u4.bd _).1;omega
     ·have:=(o.1.from u4.bd _).1;omega
   ·intro fr g q;exact q.elim
  ·intro fr g q;exact q.elim
 ·intro fr g q;exact q.elim
end
end Go.Proofs.Im
namespace Go.Im
abbrev okS:List Nat:= [79,75]
abbrev ajA:List Nat:= [100,111,110,101]
abbrev aeC:List Nat:= [79,75,32,100,111,110,101]
def okT(d tx:List Nat):List Nat:=if tx= [] then lineS [d,aeC] else lineS [d,okS,[91]++tx++ [93],ajA]
def I4(A:Acc):Option (Int×Int×List (Int×Int×Int))->Option (Int×Int×List (Int×Int×Int))
 |none=>none
 |some (box,had,l)=>some (box,had,l.filter λx=>((Wn A.aP box).find? λy=>decide (y.1=x.1)&&decide (y.2.id=x.2.1)).isSome)
def yA(now:List (Int×Ml)):Nat->List (Int×Int×Int)->List Nat
 |_,[]=> []
 |i,x::l=>if((now.find? λy=>decide (y.1=x.1)&&decide (y.2.id=x.2.1)).isSome)=true then yA now (i+1) l else oW (i+1) [iF]++yA now i l
def uI(A:Acc):Option (Int×Int×List (Int×Int×Int))->List Nat
 |none=> []
 |some (box,had,l)=>yA (Wn A.aP box) 0 l
def ayt(A:Acc)(ks:Int×Int×List (Int×Int×Int)):Prop:=∀x∈ks.2.2,((Wn A.aP ks.1).find? λy=>decide (y.1=x.1)&&decide (y.2.id=x.2.1)).isSome=true
structure CanUpd (A:Acc) (ks:Int×Int×List (Int×Int×Int)):Prop where
 small:A.Small
 few:ks.2.2.length<50
 sorted:(Wn A.aP ks.1).Pairwise λx y=>x.1<y.1
 few2:(Wn A.aP ks.1).length<50
 old:∀x∈ks.2.2,∀y,(Wn A.aP ks.1).find? (λy=>decide (y.1=x.1)&&decide (y.2.id=x.2.1))=some y->y.2.mod<=x.2.2
 had:∀y∈Wn A.aP ks.1,y.1<=ks.2.1
theorem amc(now:List (Int×Ml)):∀(l:List Mg) (i:Nat),nI now i l=yA now i (l.map mgK)
 | [],i=>rfl
 |x::l,i=>by
  show(if(nS now x).isSome=true then nI now (i+1) l else oW (i+1) [iF]++nI now i l)=_;rw[amc now l (i+1),amc now l i];rfl
theorem aEp(now:List (Int×Ml))(l:List Mg):(yw now l).map mgK=(l.map mgK).filter λx=>(now.find? λy=>decide (y.1=x.1)&&decide (y.2.id=x.2.1)).isSome:=by
 induction l with
 |nil=>rfl
 |cons x l a=>
  rw[ajs,p!,A!];show List.map mgK (if(nS now x).isSome=true then _ else _)=if(nS now x).isSome=true then _ else _;split
  ·rw[p!,a]
  ·exact a
end Go.Im
namespace Go.Proofs.Im
section
variable{bb:Nat}{h h' g h0:Hp}{P F I J Z:Pos->Prop}{ps pl ib pv ir pc im a0:Pos}{cb:Cap}{fb uid only last bare part:Bool}{vm vl vv vw:V}{had:Int}{st:Sn}{L:List V}{s d tx:List Nat}{w:Wds}{ks:Int×Int×List (Int×Int×Int)}{f n:Nat}{b:Bx}{m:List Mg}
def WE(h0:Hp)(Z:Pos->Prop)(h:Hp)(pc im ps:Pos)(st:Sn):Prop:=
 ∃F J pl ib cb fb vm vl vv I,World h pc im ps st F J pl ib cb fb vm vl vv I/\(∀j,Ft F J pc im j->Z j\/h0.next.nat<=j.nat)/\Ch Z h0 h
theorem Rq.we(q:Rq bb h0 Z h pc im ps ir uid w s st L vw P F J pl ib cb fb vm vl vv I):WE h0 Z h pc im ps st:=⟨F,J,pl,ib,cb,fb,vm,vl,vv,I,q.wd,q.foot,q.chz⟩
theorem arD(x y:V)(h:Hp):XJ [.bP,x,y] h=D (H []) h:=by
 rw[aoA];simp only[vvB,a!,reduceCtorEq,↓reduceIte,ad5,aid,aic,ast,afq];simp only[aU,bW,vvB,a!,reduceCtorEq,↓reduceIte,bZ]
theorem Rq.upd{all:Bool}(q:Rq bb h0 Z h pc im ps ir uid w s st L vw P F J pl ib cb fb vm vl vv I)(v:∀ks,st.vw=some ks->CanUpd st.acc ks)(l:all=false->∀ks,st.vw=some ks->ayt st.acc ks):
  ∃h',XJ [vv,X ps 0,K all] h=D (H (uI st.acc st.vw)) h'/\Rq bb h0 Z h' pc im ps ir uid w s {st with vw:=I4 st.acc st.vw} L vw P F J pl ib cb fb vm vl vv I/\Ch J h h':=by
 have a:=q.wd.view;cases i:st.vw with
 |none=>
  rw[i]at a;refine⟨h,by rw[a.1];exact arD _ _ _,?_,Ch.refl _ _⟩;have:({st with vw:=I4 st.acc none}:Sn)=st:=by cases st;simp only[I4]at i⊢;subst i;rfl
  rw[this];exact q
 |some ks=>
  have c:=v ks i;rw[i]at a;obtain⟨pv,vwr,m,rfl,vk,o⟩:=a;have u:m.length=ks.2.2.length:=by have:=congrArg List.length o;simpa using this
  have t:=c.few;obtain⟨h',vw',e1,r,k⟩:=atV q.wd.acc c.small vk (by omega) c.sorted c.few2 (λx p y z=>c.old (mgK x) (by rw[<-o];exact y! p) y z) c.had λe x p=>l e ks i (mgK x) (by rw[<-o];exact y! p);have w':World h' pc im ps {st with vw:=I4 st.acc (some ks)} F J pl ib cb fb vm vl (X pv 0) I:=
   {acc:=q.wd.acc.ch k λj f=>(q.wd.fj j f).1
    con:=q.wd.con.ch k λj=>(q.wd.jn _ j).1 rfl
    map:=q.wd.map.ch k λj=>(q.wd.jn _ j).2 rfl
    view:=⟨pv,vw',yw (Wn st.acc.aP ks.1) m,rfl,r,by rw[aEp,o]⟩
    ne:=q.wd.ne
    fj:=q.wd.fj
    jn:=q.wd.jn}
  refine⟨h',?_,q.turn w' k (λj e=>.inr (.inl e)) λj e=>.inl e,k⟩;rw[e1,amc,o];rfl
def doX:Go.Vm.F->Hp->Out:=aB (aB Zl (aV (.tmp 104) ah3 ah2)) (aB Zk k!)
theorem aCj(b:Bool):eqV (K b) (K b)=true:=by cases b<;>rfl
theorem uX{l:List (List Nat)}(hl:∀t∈l,∀c∈t,c<256):∀c∈lineS l,c<256:=by
 have o:∀c∈dN [32] l,c<256:=by
  cases l with
  |nil=>intro c i;simp[dN]at i
  |cons a r=>
   intro x e;rw[AA,d!]at e;rcases e with e|e
   ·exact hl a (by simp) x e
   ·unfold yx at e;obtain⟨y,p,k⟩:=List.mem_flatten.1 e;obtain⟨t,j,rfl⟩:=E!.1 p;rcases d!.1 k with q|q
    ·simp at q;omega
    ·exact hl t (by simp[j]) x q
 intro c i;unfold lineS at i;rcases d!.1 i with q|q
 ·exact o c q
 ·simp at q;omega
theorem azD(q:Rq bb h0 Z h pc im ps ir uid w s st L vw P F J pl ib cb fb vm vl vv I)(ka:Kn h a0 (O (N tA true) (anL 0 tx last bare part)))(na:¬OfB ir 5 L a0)(hs:s.length<=1000000)(C:∀c∈s,c<256)(v:d.length<=1000000)(k:∀c∈d,c<256)(hx:tx.length<=1000)(G:∀c∈tx,c<256)
  {fr:Go.Vm.F} (a:fr.get (b! 10)=some (X ir 0)) (e:fr.get (b! 11)=some (X a0 0)) (W:fr.get (b! 12)=some (H d)):
  aX h! [.tmp 8,.tmp 9] (λr h'=>r=.tuple (.cons (H (s++okT d tx)) (.cons (K (!last)) .nil))/\WE h0 Z h' pc im ps st) (doX fr h):=by
 have A1:=ka.ld (q:=1) (x:=H tx) rfl;have fin:∀{M:Hp} {S:List V} {t:List Nat} {fr:Go.Vm.F},Rq bb h0 Z M pc im ps ir uid w (s++t) st S vw P F J pl ib cb fb vm vl vv I->Kn M a0 (O (N tA true) (anL 0 tx last bare part))->¬OfB ir 5 S a0->t≠ []->t.length<=3000000->(∀c∈t,c<256)->fr.get (b! 10)=some (X ir 0)->fr.get (b! 11)=some (X a0 0)->
   aX h! [.tmp 8,.tmp 9] (λr h'=>r=.tuple (.cons (H (s++t)) (.cons (K (!last)) .nil))/\WE h0 Z h' pc im ps st) (aB Zk k! fr M):=by
  intro M S t fr u Q n2 aa ab E a e;obtain⟨h3,e3,c3,n3⟩:=ace u.bd (by simp[aa]) (λc i=>by rcases d!.1 i with q|q;exact C c q;exact E c q) (by simp;omega);have k3:=Q.ch c3 λo=>n2 o.1;have B2:=Q.ld (q:=2) (x:=K last) rfl;have B3:=k3.ld (q:=2) (x:=K last) rfl;simp(disch:=omega)only[vvB,a!,reduceCtorEq,↓reduceIte,Zk,a,e,e3,B3,Jo (m:=λh=>aF (X a0 2) h) B2 (aCj last)];refine aX.ret (qT0) ⟨rfl,F,J,pl,ib,cb,fb,vm,vl,vv,I,u.wd.ch c3 λj f o=>u.dis j o.1 f,u.foot,u.chz.trans c3 λj hj o=>(u.ob j o.1).resolve_right (by omega)⟩
 unfold doX;by_cases z:tx= []
 ·have p:(tx= [])=True:=eq_true z;obtain⟨r2,M,S,e2,u,p2⟩:=q.say (el:=9) [d,aeC] (n:=2) rfl (by omega) (by simp[iG];omega) (by
   intro t v;simp at v;rcases v with rfl|rfl
   ·exact k
   ·decide) (.inr (by simp[dN])) (by simp[dN];omega)
  simp only[p!,F!]at e2;obtain⟨Q,n2⟩:=keepA p2 ka na;have ho:okT d tx=dN [32] [d,aeC]++ [13,10]:=by unfold okT;rw[if_pos z];rfl
  rw[ho];simp(disch:=omega)only[vvB,a!,reduceCtorEq,↓reduceIte,Zl,ah2,a,e,W,A1,p,alY,e2];have:=fin (fr:=(T.set (some (K false)) (b! 104) fr)) u Q n2 (by simp) (by simp[dN];omega) (λc i=>uX (l:= [d,aeC]) (by
   intro t v;simp at v;rcases v with rfl|rfl
   ·exact k
   ·decide) c i) (qK2 a) (qK2 e)
  simpa only[vvB,a!,reduceCtorEq,↓reduceIte]using this
 ·have p:(tx= [])=False:=eq_false z;have Sa:∀(x y:List Nat) (g:Hp),x.length+y.length<4000000->aJ .add .none (H x) (H y) g=D (H (x++y)) g:=λx y g hl=>kz (by omega);have S1:=λg=>Sa [91] tx g (by simp;omega);have S2:=λg=>Sa ([91]++tx) [93] g (by simp;omega);have B:∀t∈ [d,okS,[91]++tx++ [93],ajA],∀c∈t,c<256:=by
   intro t v;simp only[List.mem_cons,List.not_mem_nil,or_false]at v;rcases v with rfl|rfl|rfl|rfl
   ·exact k
   ·decide
   ·intro c i;rw[d!,d!]at i;rcases i with(i|i)|i
    ·revert c;decide
    ·exact G c i
    ·revert c;decide
   ·decide
  obtain⟨r2,M,S,e2,u,p2⟩:=q.say (el:=9) [d,okS,[91]++tx++ [93],ajA] (n:=4) rfl (by omega) (by simp[iG];omega) B (.inr (by simp[dN])) (by simp[dN];omega);simp only[p!,F!]at e2;obtain⟨Q,n2⟩:=keepA p2 ka na;have ho:okT d tx=dN [32] [d,okS,[91]++tx++ [93],ajA]++ [13,10]:=by unfold okT;rw[if_neg z];rfl
  rw[ho];simp(disch:=omega)only[vvB,a!,reduceCtorEq,↓reduceIte,Zl,ah3,a,e,W,A1,p,S1,S2,alX,e2];have:=fin (fr:=(T.set (some (K true)) (b! 104) fr)) u Q n2 (by simp) (by simp[dN];omega) (λc i=>uX (l:= [d,okS,[91]++tx++ [93],ajA]) B c i) (qK2 a) (qK2 e);simpa only[vvB,a!,reduceCtorEq,↓reduceIte]using this
end
end Go.Proofs.Im
namespace Go.Im
abbrev noS:List Nat:= [32,78,79,32]
def kU(k:Int)(a tx s2:List Nat)(bare:Bool)(st2:Sn):List Nat:=if k=1 then a++noS++tx++ [13,10] else if bare=true then s2++okT a tx else s2++uI st2.acc st2.vw++okT a tx
def zB(k:Int)(bare:Bool)(st2:Sn):Sn:=if k=1\/bare=true then st2 else{st2 with vw:=I4 st2.acc st2.vw}
theorem ahH(now:List (Int×Ml)):∀(l:List (Int×Int×Int)) (i:Nat),i+l.length<100->(yA now i l).length<=14*l.length/\∀c∈yA now i l,c<256
 | [],i,_=>⟨by simp[yA],λc a=>by simp[yA]at a⟩
 |x::l,i,h=>by
  simp only[z!]at h;unfold yA;split
  ·have:=ahH now l (i+1) (by omega);exact⟨by simp;omega,this.2⟩
  ·have d:=ahH now l i (by omega);have e:=XW (n:=i+1) (by omega);refine⟨by simp;omega,λc a=>?_⟩;rcases d!.1 a with q|q
   ·exact e.2.1 c q
   ·exact d.2 c q
theorem alG{A:Acc}{o:Option (Int×Int×List (Int×Int×Int))}(d:∀ks,o=some ks->CanUpd A ks):(uI A o).length<=1000/\∀c∈uI A o,c<256:=by
 cases o with
 |none=>exact⟨by simp[uI],λc a=>by simp[uI]at a⟩
 |some ks=>
  have h:=(d ks rfl).few;have:=ahH (Wn A.aP ks.1) ks.2.2 0 (by omega);exact⟨by show(yA (Wn A.aP ks.1) 0 ks.2.2).length<=1000;omega,this.2⟩
end Go.Im
namespace Go.Proofs.Im
section
variable{bb:Nat}{h h' g h0:Hp}{P F I J Z S:Pos->Prop}{ps pl ib p ir pc im:Pos}{cb:Cap}{fb only last bare part:Bool}{v vm vl vv vw:V}{st st2:Sn}{L b:List V}{s s2 nm tx:List Nat}{w:Wds}{ks:Int×Int×List (Int×Int×Int)}{f n:Nat}{now:List (Int×Ml)}{m:List Mg}
theorem aze{v c s:V}{n:Int}(e:v.cells= [v]/\ja v=true)(a:c.cells= [c]/\ja c=true)(d:s.cells= [s]/\ja s=true)(h:Hp):
  bQ [.bP,.bP,Y U 0,.aQ,K false,.bP,.aQ] [(0,1,c),(1,1,s),(2,1,Y U n),(3,1,v)] h=D (.agg (.cons c (.cons s (.cons (Y U n) (.cons v (.cons (K false) (.cons .bP (.cons .aQ .nil)))))))) h:=by
 unfold bQ;simp only[TD,e.1,e.2,a.1,a.2,d.1,d.2];rfl
theorem aEn:liesAt h! h!.depth tRq (7 / h!.cellsOf tRq) 5 tBd 1=true:=kR
theorem an3{c:List ResultVar}{Q a:V->Hp->Prop}{o:Out}(t:aX h! c Q o)(d:∀r h,Q r h->a r h):aX h! c a o:=by
 obtain⟨r,h,e,q⟩:=t;exact⟨r,h,e,d r h q⟩
theorem acH(a l:V):(V.cons a l).list=a::l.list:=(rfl)
theorem ahA:V.nil.list= []:=(rfl)
theorem aDm:ayD=(aB PK (aB (bK 0 (aB PI (aV (.tmp 13) (aB amT k!) (aB PG (aV (.tmp 20) (aB amS k!) (aB PE (aV (.tmp 24) (aB amR k!) t!))))))) (aB PD (aB Pz (aB Py (aB JO (aB (bK 1 (aB JM (aV (.tmp 66) (aB Zn k!) (aB RF (aV (.tmp 76) (aB ah4 k!) t!))))) (aB (aB RD (aV (.tmp 88) Zm t!)) doX)))))))):=rfl
theorem ahu(t:TypeId)(h:Hp):fC t [Y U 0,H [],K false,K false,K false] h=D (X h.next 0) (h.new (O (N t true) zAn)):=(rfl)
def rQ(pc im ps:Pos)(w:Wds)(nm:List Nat)(st:Sn)(b:List V)(s2:List Nat)(st2:Sn):Prop:=
 ∀(bb:Nat) (h0:Hp) (Z:Pos->Prop) (h:Hp) (ir:Pos) (L:List V) (vw:V) (P F J:Pos->Prop) (pl ib:Pos) (cb:Cap) (fb:Bool) (vm vl vv:V) (I:Pos->Prop),Rq bb h0 Z h pc im ps ir false w [] st L vw P F J pl ib cb fb vm vl vv I->
  ∃h' vw' P' w' a,SQ [X pc 0,X ir 0,H nm] h=D (.agg (V.ofList b)) h'/\tZ bb h0 Z vw' P' h' pc im ps ir a w' s2 st2
theorem aKG{g:Ln.Got}{x y:Wd}{kk now:Int}(W:World h pc im ps st F J pl ib cb fb vm vl vv I)(tw:WS P h vw g.words)(hP:∀j,P j->¬Ft F J pc im j)(hk:g.kind=1)(am:g.words.get? 0=some x)(a0:x.kind=1)(af:g.words.get? 1=some y)(a1:y.kind=1)
  (M:x.text.length<=1000000/\∀c∈x.text,c<256) (a3:y.text.length<=1000000/\∀c∈y.text,c<256) (bf:0<=st.cnt/\st.cnt<1000000) (aa:rQ pc im ps (g.words.drop 2) (foldM y.text) {st with cnt:=st.cnt+1} (anL kk tx last bare part) s2 st2)
  (aR:kk=0\/kk=1) (G:tx.length<=1000/\∀c∈tx,c<256) (ak:s2.length<=100000/\∀c∈s2,c<256) (hu:kk=0->bare=false->∀ks,st2.vw=some ks->CanUpd st2.acc ks) (hp:part=true->kk=0->bare=false->∀ks,st2.vw=some ks->ayt st2.acc ks):
  ∃h',ae7 [X pc 0,X ps 0,Y U now,.agg (.cons (Y U g.kind) (.cons vw .nil))] h=D (.tuple (.cons (H (kU kk x.text tx s2 bare st2)) (.cons (K (if kk=1 then true else !last)) .nil))) h'/\WE h (Ft F J pc im) h' pc im ps (zB kk bare st2):=by
 obtain⟨k,C,c1,g1⟩:=mkW h (O (N aBv true) [Y U g.kind,vw]);have n1:k.next.nat=h.next.nat+1:=by rw[C,bD]
 have ao:WS P k vw g.words:=tw.ch c1 λj _ q=>⟨q,λq=>q⟩
 have W1:=W.ch c1 λ_ _ q=>q;have G0:aF (X h.next 0) k=D (Y U 1) k:=by rw[<-hk];exact g1.ld rfl
 have G1:=g1.ld (q:=1) (x:=vw) rfl;have aE:OO g.words 0=true:=by unfold OO;rw[am];exact decide_eq_true a0
 have aL:OO g.words 1=true:=by unfold OO;rw[af];exact decide_eq_true a1
 have A0:Dz [vw,Y U 0] k=D (K true) k:=by have:=acL ao 0;rwa[aE]at this
 have A1:Dz [vw,Y U 1] k=D (K true) k:=by have:=acL ao 1;rwa[aL]at this
 have aj:2<=g.words.len:=by have:=Wds.Po af;omega
 obtain⟨st1,d⟩:∃st1,st1=({st with cnt:=st.cnt+1}:Sn):=⟨_,rfl⟩
 rw[<-d]at aa;obtain⟨a,E⟩:∃a,a=k.put pc (some (O (N tCn true) [K st1.inn,vv,K st1.only,iV st1.cnt,.map im])):=⟨_,rfl⟩
 have i:XK [X pc 3,Y U 1] k=D (Y U (st.cnt+1)) a:=by
  have:=atm W1.con (q:=3) (n:=st.cnt) (m:=1) rfl (by omega) (by omega);rw[E,d];exact this
 have W2:World a pc im ps st1 F J pl ib cb fb vm vl vv I:=by
  rw[E];exact W1.acT (by rw[d]) (by rw[d];exact W1.view) λj q=>⟨λf=>(W1.fj j f).1 q,W1.jn j q⟩
 have c2:Ch (λj=>j=pc) k a:=by rw[E];exact Ch.put _ _ rfl
 have n2:a.next.nat=h.next.nat+1:=by rw[E,jQ,n1]
 have ac:Ch (Ft F J pc im) h a:=(c1.ch (S:=Ft F J pc im)).trans (c2.mono λj _ e=>.inr (.inr (.inl e))) λ_ _ q=>q;have hZ:∀j,Ft F J pc im j->j.nat<h.next.nat:=W.lt;have g2:Kn a h.next (O (N aBv true) [Y U g.kind,vw]):=g1.ch c2 λe=>by have:=hZ _ (.inr (.inr (.inl e)));omega
 have ap:WS P a vw g.words:=tw.ch ac λj _ q=>⟨q,hP j q⟩
 have G2:=g2.ld (q:=1) (x:=vw) rfl;obtain⟨v',es,ab⟩:=ap.from aj;have ad:∀h',eY 3 vw (some (Y U 2)) none none h'=D v' h':=es;obtain⟨t,B,c3,-⟩:=mkW a (O (N tRq true) [X pc 0,X ps 0,Y U now,v',K false,.bP,.aQ]);have n3:t.next.nat=a.next.nat+1:=by rw[B,bD]
 have g3:t.get a.next=some (O (N tRq true) [X pc 0,X ps 0,Y U now,v',K false,.bP,.aQ]):=by rw[B];exact dR _ _
 have d3:Bd a.next.nat t a.next 5 tRq [X pc 0,X ps 0,Y U now,v',K false,.bP,.aQ] []:=
  ⟨j! _,by omega,g3,.inl rfl,⟨.aQ,rfl,Ow.nil _ _ _ _,λj hj=>(by cases hj)⟩,aEn⟩
 have a8:WS P t v' (g.words.drop 2):=ab.ch c3 λj _ q=>⟨q,λq=>q⟩
 have ar:WS P t vw g.words:=ap.ch c3 λj _ q=>⟨q,λq=>q⟩
 have G3:=(g2.nw c3).ld (q:=1) (x:=vw) rfl;have B0:=aze (v:=v') (c:=X pc 0) (s:=X ps 0) (n:=now) a8.cell ⟨rfl,rfl⟩ ⟨rfl,rfl⟩ a;obtain⟨P',aD,aq⟩:∃P':Pos->Prop,(∀j,P' j->j.nat<a.next.nat/\¬Ft F J pc im j)/\WS P' t v' (g.words.drop 2):=
  ⟨λj=>P j/\j.nat<a.next.nat,λj q=>⟨q.2,hP j q.1⟩,(ab.ch (P':=λj=>P j/\j.nat<a.next.nat) (Nw.refl a) λj hj q=>⟨⟨q,hj⟩,λq=>q⟩).ch c3 λj _ q=>⟨q,λq=>q⟩⟩
 obtain⟨j,q,vk,i1,i2,i3,i4,-⟩:=WS.at ar af;have ag:∀h',bJ 3 vw (Y U 1) h'=D (X j q) h':=i1;have ah:aF (X j (q+1)) t=D (H y.text) t:=i3;obtain⟨rf,h4,e4,rfl,c4⟩:=ahJ (h:=t) (by omega) a3.2;have ax:Nw t h4:=c4;have q3:Rq a.next.nat a (Ft F J pc im) t pc im ps a.next false (g.words.drop 2) [] st1 [X pc 0,X ps 0,Y U now,v',K false,.bP,.aQ] v' P' F J pl ib cb fb vm vl vv I:=
  {bd:=d3
   hbb:=j! _
   ob:=λj o=>.inr (o.from d3 _).1
   l0:=rfl
   l1:=rfl
   l3:=rfl
   l4:=rfl
   ws:=aq
   wd:=W2.ch c3 λ_ _ q=>q
   dis:=λj o f=>by have:=(o.from d3 _).1;have:=hZ j f;omega
   old:=aD
   foot:=λj f=>.inl f
   chz:=c3.ch}
 obtain⟨h5,be,P5,w5,au,e5,r5⟩:=aa _ _ _ _ _ _ _ _ _ _ _ _ _ _ _ _ _ _ (q3.nw ax);obtain⟨L5,F5,J5,a7,a4,ay,az,bc,ba,av,I5,q5⟩:=r5;obtain⟨h7,aM,c7,k7⟩:=mkW h5 (O (N tA true) (anL kk tx last bare part));have S7:aT 5 (X h5.next 0) (anV kk tx last bare part) (h5.new (O (N tA true) zAn))=D V.undef h7:=by rw[aM];exact iT (V.dO _) rfl rfl
 have q7:=q5.nw c7;have an:¬OfB a.next 5 L5 h5.next:=λo=>by have:=(o.from q5.bd _).2;omega
 have a6:¬Ft F5 J5 pc im h5.next:=λf=>by have:=q5.wd.lt _ f;omega
 have aw:Ch (Ft F J pc im) h h7:=ac.trans q7.chz λ_ _ q=>q;have a9:WS P h7 vw g.words:=tw.ch aw λj _ q=>⟨q,hP j q⟩
 have g7:Kn h7 h.next (O (N aBv true) [Y U g.kind,vw]):=g2.ch q7.chz λf=>by have:=hZ _ f;omega
 have G7:=g7.ld (q:=1) (x:=vw) rfl;obtain⟨jt,qt,vt,t1,t2,t3,t4,-⟩:=WS.at a9 am;have ai:∀h',bJ 3 vw (Y U 0) h'=D (X jt qt) h':=t1;have K0:=k7.ld (q:=0) (x:=Y U kk) rfl;have K1:=k7.ld (q:=1) (x:=H tx) rfl;have K3:=k7.ld (q:=3) (x:=K bare) rfl;have back:∀{h8:Hp} {s8:Sn},WE a (Ft F J pc im) h8 pc im ps s8->WE h (Ft F J pc im) h8 pc im ps s8:=λ⟨F,J,pl,ib,cb,fb,vm,vl,vv,I,w,hf,c⟩=>⟨F,J,pl,ib,cb,fb,vm,vl,vv,I,w,λj f=>(hf j f).imp id λl=>by omega,ac.trans c λ_ _ q=>q⟩
 rw[aDF,aDm]
 suffices T:aX h! [.tmp 8,.tmp 9] (λr h'=>r=.tuple (.cons (H (kU kk x.text tx s2 bare st2)) (.cons (K (if kk=1 then true else !last)) .nil))/\WE h (Ft F J pc im) h' pc im ps (zB kk bare st2))
   (aB PK (aB (bK 0 (aB PI (aV (.tmp 13) (aB amT k!) (aB PG (aV (.tmp 20) (aB amS k!) (aB PE (aV (.tmp 24) (aB amR k!) t!))))))) (aB PD (aB Pz (aB Py (aB JO (aB (bK 1 (aB JM (aV (.tmp 66) (aB Zn k!) (aB RF (aV (.tmp 76) (aB ah4 k!) t!))))) (aB (aB RD (aV (.tmp 88) Zm t!)) doX)))))))
    (T.set (some (.agg (.cons (Y U g.kind) (.cons vw .nil)))) (b! 3) (T.set (some (Y U now)) (b! 2) (T.set (some (X ps 0)) (b! 1) (T.set (some (X pc 0)) (b! 0) T.nil)))) h) by
  obtain⟨r,h',e,rfl,w⟩:=T;exact⟨h',e,w⟩
 rcases aR with rfl|rfl
 ·have ae:(if(0:Int)=1 then true else !last)=!last:=if_neg (by decide);rw[ae];cases bare with
  |true=>
   have z:kU 0 x.text tx s2 true st2=s2++okT x.text tx:=by unfold kU;rw[if_neg (by decide),if_pos rfl]
   have u:zB 0 true st2=st2:=by unfold zB;rw[if_pos (.inr rfl)]
   rw[z,u];simp(disch:=omega)only[vvB,a!,reduceCtorEq,↓reduceIte,PK,PI,PG,PE,PD,Pz,Py,JO,JM,RF,RD,acH,ahA,<-C,eG,G0,G1,A0,A1,i,G2,ad,B0,<-B,G3,ag,ah,e4,e5,ahu,S7,G7,ai,t3,K0,K3,w!,Int.reduceEq];exact an3 (azD q7 k7 an (by omega) ak.2 M.1 M.2 G.1 G.2 (qK0) (qK0) (qK0)) λr h' q=>⟨q.1,back q.2⟩
  |false=>
   have z:kU 0 x.text tx s2 false st2=s2++uI st2.acc st2.vw++okT x.text tx:=by unfold kU;rw[if_neg (by decide),if_neg (by simp)]
   have u:zB 0 false st2={st2 with vw:=I4 st2.acc st2.vw}:=by unfold zB;rw[if_neg (by simp)]
   rw[z,u];have al:=hu rfl rfl;have C1:=q7.wd.con.ld (q:=1) (x:=av) rfl;have K4:=k7.ld (q:=4) (x:=K part) rfl;obtain⟨h8,e8,q8,c8⟩:=q7.upd (all:=!part) al λe=>hp (by simpa using e) rfl rfl;have k8:=k7.ch c8 λjj=>a6 (.inr (.inl jj));have a2:=alG al;obtain⟨r9,h9,L9,e9,d9,p9,Q,l9⟩:=PN q8.bd (uI st2.acc st2.vw) (by omega);have q9:Rq a.next.nat a (Ft F J pc im) h9 pc im ps a.next au w5 (s2++uI st2.acc st2.vw) {st2 with vw:=I4 st2.acc st2.vw} L9 be P5 F5 J5 a7 a4 ay az bc ba av I5:=
    {bd:=d9
     hbb:=q8.hbb
     ob:=λj o=>(p9.sub j o).elim (q8.ob j) λl=>.inr (Nat.le_trans q8.chz.next l)
     l0:=by rw[Q 0 (by omega) (by omega)];exact q8.l0
     l1:=by rw[Q 1 (by omega) (by omega)];exact q8.l1
     l3:=by rw[Q 3 (by omega) (by omega)];exact q8.l3
     l4:=by rw[Q 4 (by omega) (by omega)];exact q8.l4
     ws:=q8.ws.ch p9.ch λj _ p=>⟨p,λo=>by have:=(q8.old j p).1;have:=(o.from q8.bd _).1;omega⟩
     wd:=q8.wd.ch p9.ch λj f o=>q8.dis j o f
     dis:=λj o f=>(p9.sub j o).elim (λo=>q8.dis j o f) λl=>by have:=q8.wd.lt j f;omega
     old:=q8.old
     foot:=q8.foot
     chz:=q8.chz.trans p9.ch λj hj o=>(q8.ob j o).resolve_right (by omega)}
   obtain⟨k9,a5⟩:=keepA p9 k8 an;simp(disch:=omega)only[vvB,a!,reduceCtorEq,↓reduceIte,PK,PI,PG,PE,PD,Pz,Py,JO,JM,RF,RD,Zm,acH,ahA,<-C,eG,G0,G1,A0,A1,i,G2,ad,B0,<-B,G3,ag,ah,e4,e5,ahu,S7,G7,ai,t3,K0,K3,C1,K4,e8,e9,w!,Int.reduceEq];exact an3 (azD q9 k9 a5 (by rw[l!];omega) (λc hc=>by rcases d!.1 hc with q|q;exact ak.2 c q;exact a2.2 c q) M.1 M.2 G.1 G.2 (qK0) (qK0) (qK0)) λr h' q=>⟨q.1,back q.2⟩
 ·have z:kU 1 x.text tx s2 bare st2=x.text++noS++tx++ [13,10]:=by unfold kU;rw[if_pos rfl]
  have u:zB 1 bare st2=st2:=by unfold zB;rw[if_pos (.inl rfl)]
  have ae:(if(1:Int)=1 then true else !last)=true:=if_pos rfl;rw[z,u,ae];have Sa:∀(x y:List Nat) (g:Hp),x.length+y.length<4000000->aJ .add .none (H x) (H y) g=D (H (x++y)) g:=λx y g hl=>kz (by omega);have S1:=λg=>Sa x.text noS g (by simp;omega);have S2:=λg=>Sa (x.text++noS) tx g (by simp;omega);have S3:=λg=>Sa (x.text++noS++tx) [13,10] g (by simp;omega);simp(disch:=omega)only[vvB,a!,reduceCtorEq,↓reduceIte,PK,PI,PG,PE,PD,Pz,Py,JO,JM,Zn,acH,ahA,<-C,eG,G0,G1,A0,A1,i,G2,ad,B0,<-B,G3,ag,ah,e4,e5,ahu,S7,G7,ai,t3,K0,K1,S1,S2,S3,w!,Int.reduceEq];exact aX.ret (qT0) ⟨rfl,back q7.we⟩
end
section
variable{h h' g:Hp}{P F I J:Pos->Prop}{ps pl ib pc im i:Pos}{A B:Acc}{cb:Cap}{fb only u:Bool}{v vm vl vv vw:V}{st st2:Sn}{s:List Nat}{w:Wds}{k f n:Nat}
theorem Told.atN{P:Pos->Prop}{h:Hp}{v:V}{gs:List Ln.Got}(t:Told P h v gs){k:Nat}{g:Ln.Got}(e:gs[k]?=some g):
  ∃j q vw,(∀h',bJ 2 v (Y U (k:Int)) h'=D (X j q) h')/\bT 2 (X j q) h=D (.agg (.cons (Y U g.kind) (.cons vw .nil))) h/\QT P h vw g.words:=by
 obtain⟨cs,o,i,w⟩:=t;have c:k<gs.length:=(e!.1 e).1;obtain⟨a,vw,b,d⟩:=w.get e;obtain⟨j,q,e1,-,-,e2⟩:=o.sl.atN c;refine⟨j,q,vw,e1,?_,d⟩;rw[e2 h rfl];obtain⟨l0,l⟩:=e!.1 a;obtain⟨l1,m⟩:=e!.1 b;rw[i! l0,i! l1,l,m];rfl
def iR(pc im ps:Pos)(g:Ln.Got)(st:Sn)(t:List Nat)(on:Bool)(a:Sn):Prop:=
 t.length<=2000000/\∀(h:Hp) (F J:Pos->Prop) (pl ib:Pos) (cb:Cap) (fb:Bool) (vm vl vv:V) (I:Pos->Prop) (P:Pos->Prop) (vw:V),World h pc im ps st F J pl ib cb fb vm vl vv I->WS P h vw g.words->(∀j,P j->¬Ft F J pc im j)->
  ∃h',ae7 [X pc 0,X ps 0,Y U 0,.agg (.cons (Y U g.kind) (.cons vw .nil))] h=D (.tuple (.cons (H t) (.cons (K on) .nil))) h'/\WE h (Ft F J pc im) h' pc im ps a
inductive Alls (pc im ps:Pos):List Ln.Got->Sn->List Nat->Sn->Prop
 |nil (st:Sn):Alls pc im ps [] st [] st
 |go {g:Ln.Got} {gs:List Ln.Got} {st st1 st2:Sn} {t u:List Nat}:iR pc im ps g st t true st1->Alls pc im ps gs st1 u st2->Alls pc im ps (g::gs) st (t++u) st2
 |stop {g:Ln.Got} {gs:List Ln.Got} {st st1:Sn} {t:List Nat}:iR pc im ps g st t false st1->Alls pc im ps (g::gs) st t st1
theorem XO{s t:List Nat}{gs:List Ln.Got}{st c:Sn}{d m:Pos->Prop}(W:World h pc im ps st d m pl ib cb fb vm vl vv I)(hG:Ik.aH<=h.next.nat)(hF:Fed s gs)(ha:Alls pc im ps gs st t c):
  ∃h',uh [X pc 0,X ps 0,H s] h=D (H t) h'/\WE h (Ft d m pc im) h' pc im ps c:=by
 obtain⟨hl,aq,ag⟩:=hF;obtain⟨v,E,ad,y,axi⟩:=ag h hG;have au:=y.next;have hZ:=W.lt;have af:Eh (H s) (h.new Ik.rdO)=D (.slice h.next.succ 0 s.length (.un 1)) ((h.new Ik.rdO).new (.bytes (bys s))):=aqi (by omega);have ac:aiD [Y U 4000] h=D (X h.next 0) (h.new Ik.rdO):=Ik.aId h;rw[auv]
 suffices T:aX h! [.tmp 6] (λr h'=>r=H t/\WE h (Ft d m pc im) h' pc im ps c) (ZG (T.set (some (H s)) (b! 2) (T.set (some (X ps 0)) (b! 1) (T.set (some (X pc 0)) (b! 0) T.nil))) h) by
  obtain⟨r,h',e,rfl,w⟩:=T;exact⟨h',e,w⟩
 simp(disch:=omega)only[vvB,a!,reduceCtorEq,↓reduceIte,ZG,akQ,akP,akO,akN,ac,af,ad];refine Oc.then (dZ (n:=gs.length) (λ μ fr g=>∃(k:Nat) (acc u:List Nat) (si:Sn),fr.get (b! 0)=some (X pc 0)/\fr.get (b! 1)=some (X ps 0)/\fr.get (b! 7)=some v/\fr.get (b! 8)=some (H acc)/\fr.get (b! 9)=some (Y U (k:Int))/\
   k+μ=gs.length/\Alls pc im ps (gs.drop k) si u c/\acc++u=t/\acc.length<=k*2000000/\Told (λj=>h.next.nat<=j.nat/\j.nat<E.next.nat) g v gs/\E.next.nat<=g.next.nat/\
   ∃F J pl ib cb fb vm vl vv I,World g pc im ps si F J pl ib cb fb vm vl vv I/\(∀j,Ft F J pc im j->j.nat<h.next.nat\/E.next.nat<=j.nat)/\(∀j,Ft F J pc im j->Ft d m pc im j\/h.next.nat<=j.nat)/\Ch (Ft d m pc im) h g)
  (A:=λfr g=>fr.get (b! 8)=some (H t)/\WE h (Ft d m pc im) g pc im ps c) (B:=λ_ _=>False) (by rw[dW];omega) ?_ ?_) ?_ ?_
 ·exact⟨0,[],t,st,qK0,qK0,qK0,qK0,qK1,by omega,ha,rfl,by simp,axi,j! _,d,m,pl,ib,cb,fb,vm,vl,vv,I,W.ch y (λ_ _ q=>q),λj f=>.inl (hZ j f),λj f=>.inl f,y.ch⟩
 ·rintro μ fr g ⟨k,acc,u,si,f0,f1,f7,Q,f9,hk,a,hu,ao,tg,ar,F,J,pl,ib,cb,fb,vm,vl,vv,I,w,b,z,cg⟩;by_cases hz:μ=0
  ·have ah:gs.length<=k:=by omega
   rw[v! ah]at a;cases a;rw[n!]at hu;subst hu;simp(disch:=omega)only[vvB,a!,reduceCtorEq,↓reduceIte,O3,OV,f7,f9,Told.len tg];exact⟨rfl,qK2 Q,F,J,pl,ib,cb,fb,vm,vl,vv,I,w,z,cg⟩
  ·have Z:k<gs.length:=by omega
   have S:gs[k]?=some gs[k]:=g! Z;rw[i! Z]at a;generalize gs[k]=gk at S a;obtain⟨j,q,vw,i1,i2,wr⟩:=tg.atN S;have ap:k*2000000<=1000*2000000:=Nat.mul_le_mul_right _ (by omega);have next:∀{x:List Nat} {on:Bool} {s1:Sn},iR pc im ps gk si x on s1->∃o,ae7 [X pc 0,X ps 0,Y U 0,.agg (.cons (Y U gk.kind) (.cons vw .nil))] g=D (.tuple (.cons (H x) (.cons (K on) .nil))) o/\x.length<=2000000/\Told (λj=>h.next.nat<=j.nat/\j.nat<E.next.nat) o v gs/\E.next.nat<=o.next.nat/\
     ∃F J pl ib cb fb vm vl vv I,World o pc im ps s1 F J pl ib cb fb vm vl vv I/\(∀j,Ft F J pc im j->j.nat<h.next.nat\/E.next.nat<=j.nat)/\(∀j,Ft F J pc im j->Ft d m pc im j\/h.next.nat<=j.nat)/\Ch (Ft d m pc im) h o:=by
    intro x on s1 G;obtain⟨o,M,F',J',ak,aj,ab,ae,am,al,an,I',w3,p,L⟩:=G.2 g F J pl ib cb fb vm vl vv I _ vw w wr.ws λj q f=>by have:=b j f;omega
    have n3:=L.next;refine⟨o,M,G.1,tg.ch L λj _ q=>⟨q,λf=>by have:=b j f;omega⟩,by omega,F',J',ak,aj,ab,ae,am,al,an,I',w3,λj f=>(p j f).elim (b j) λl=>.inr (by omega),λj f=>(p j f).elim (z j) λl=>.inr (by omega),cg.trans L λj hj f=>(z j f).resolve_right (by omega)⟩
   cases a with
   |go G C=>
    rename_i st1 x u1;obtain⟨o,M,ai,aa,n3,w3⟩:=next G
    have S1:∀h,aJ .add .none (H acc) (H x) h=D (H (acc++x)) h:=λh=>kz (by omega);simp(disch:=omega)only[vvB,a!,reduceCtorEq,↓reduceIte,O3,OV,akM,Y4,Y3,Y2,f0,f1,f7,Q,f9,Told.len tg,i1,i2,M,S1];exact⟨μ - 1,by omega,k+1,acc++x,u1,st1,qK2 f0,qK2 f1,qK2 f7,qK0,qK1,by omega,C,by rw[q!];exact hu,by rw[l!];omega,aa,n3,w3⟩
   |stop G=>
    obtain⟨o,M,ai,aa,n3,F,J,pl,ib,cb,fb,vm,vl,vv,I,w3,-,p,L⟩:=next G
    have S1:∀h,aJ .add .none (H acc) (H u) h=D (H (acc++u)) h:=λh=>kz (by omega);simp(disch:=omega)only[vvB,a!,reduceCtorEq,↓reduceIte,O3,OV,Y4,Y3,Y2,f0,f1,f7,Q,f9,Told.len tg,i1,i2,M,S1];exact⟨rfl,qK2 hu,F,J,pl,ib,cb,fb,vm,vl,vv,I,w3,p,L⟩
 ·rintro fr g ⟨Q,w⟩;simp(disch:=omega)only[vvB,a!,reduceCtorEq,↓reduceIte,akL,Q];exact aX.ret (qT0) ⟨rfl,w⟩
 ·intro fr g q;exact q.elim
end
end Go.Proofs.Im
namespace Go.Vm
section
variable{h:Hp}
theorem ldL{i:Pos}{wr:Wr}{l r:List V}{n:Nat}(a:h.get i=some (O wr (l++r)))(b:l.length=n):bT n (X i 0) h=D (.agg (V.ofList l)) h:=by
 show dP h i (λ_ cs=>match gm n (fB 0 cs) with|some l=>R.ok (V.agg (V.ofList l)) h|none=>.bad)=_;rw[dM (wr:=wr) (all:=l++r) (by rw[a];rfl)];rw[vP (cs:=l) (λf c=>by rw[Nat.zero_add,List.getElem?_append_left (by omega)]) b]
theorem anE:∀{l m:List V},l.length=m.length->OI l m=some l
 | [],[],_=>rfl
 | [],_::_,h=>by cases h
 |_::_,[],h=>by cases h
 |a::l,b::m,h=>by
  show Option.casesOn (motive:=λ_=>Option (List V)) (OI l m) none (λr=>some (a::r))=_;rw[anE (by simpa using h)]
theorem stL{i:Pos}{t:TypeId}{f:Bool}{l m:List V}{n:Nat}(c:h.get i=some (O (N t f) m))(e:l.length=m.length)(j:l.length=n):aT n (X i 0) (.agg (V.ofList l)) h=D V.undef (h.put i (some (O (N t f) l))):=by
 have b:V.cells (.agg (V.ofList l))=l:=V.dD l;rw[vX c rfl (by rw[b,j,Nat.beq_refl]),b];show(match OI l m with|some a=>R.ok V.undef (h.put i (some (O (N t f) a)))|none=>.bad)=_;rw[anE e]
end
end Go.Vm
namespace Go.Proofs.Im
theorem ari(x:V)(h:Hp):AV h! I7 x h=bT 9 x h:=kR
theorem azH{h:Hp}{i:Pos}{wr:Wr}{l r:List V}(o:h.get i=some (O wr (l++r)))(hl:l.length=9)(hi:i.nat<h.next.nat):∃h',aps [X i 0] h=D (.agg (V.ofList l)) h'/\Ch (λ_=>False) h h':=by
 obtain⟨b,a⟩:∃b,b=h.new (O (N I7 true) [(H []),(H []),(Y U 0),(Y U 0),(Y U 0),(Y U 0),(Y U 0),(Y U 0),(Y U 0)]):=⟨_,rfl⟩
 have k:Ch (λ_=>False) h b:=by rw[a];exact Ch.new _ _ _
 have m:b.get h.next=some (O (N I7 true) [(H []),(H []),(Y U 0),(Y U 0),(Y U 0),(Y U 0),(Y U 0),(Y U 0),(Y U 0)]):=by rw[a];exact dR _ _
 have e:=ldL ((k.get i hi λq=>q).trans o) hl;have j:=stL (l:=l) m hl hl;have c:bT 9 (X h.next 0) (b.put h.next (some (O (N I7 true) l)))=D (.agg (V.ofList l)) (b.put h.next (some (O (N I7 true) l))):=ldL (r:= []) (by rw[jE,n!]) hl;rw[aDB];simp(disch:=omega)only[vvB,a!,reduceCtorEq,↓reduceIte,ayz,awQ,awP,awO,Pg,<-a,eG,e,j];exact⟨b.put h.next (some (O (N I7 true) l)),by simp only[aU,bW,vvB,a!,reduceCtorEq,↓reduceIte,ari,c,bZ],by rw[a];exact Pq _ _ _⟩
end Go.Proofs.Im
namespace Go.Im
abbrev zF:List V:= [H [117],H [112],iV 1000,iV 100,iV 1048576,iV 1073741824,iV 1073741824,iV 10000,iV 200]
end Go.Im
namespace Go.Proofs.Im
section
variable{bb:Nat}{h h' g h0:Hp}{P F I J Z:Pos->Prop}{ps pl ib ir pc im i:Pos}{cb:Cap}{fb uid only u last bare part:Bool}{v vm vl vv vw:V}{st st2:Sn}{L d:List V}{s s2 nm tx:List Nat}{w:Wds}{ks:Int×Int×List (Int×Int×Int)}{f n:Nat}
theorem ayw(q:Rq bb h0 Z h pc im ps ir uid w s st L vw P F J pl ib cb fb vm vl vv I)(aa:w.len=2)(ak:mO w= [[117],[112]])(aj:DI w=false):
  ∃h',apu [X pc 0,X ir 0] h=D (anV 0 [] false false false) h'/\tZ bb h0 Z vw P h' pc im ps ir uid w s {st with inn:=true}:=by
 obtain⟨h1,ah,c1,k1⟩:=mkW h (O (N tA true) zAn);have q1:=q.nw c1;have am:¬OfB ir 5 L h.next:=λo=>by have:=(o.from q.bd _).2;omega
 have an:¬Ft F J pc im h.next:=λo=>by have:=q.wd.lt _ o;omega
 obtain⟨r2,S,e2,c2,hN⟩:=aqE (n:=2) q1.bd q1.l3 q1.ws (by omega);have ag:aae [X ir 0,Y U 2] h1=D r2 S:=e2;obtain⟨v,rfl,ov,B⟩:∃v,r2=.tuple (.cons v (.cons (K true) .nil))/\Ow 0 S 9 1 v 2 ([[117],[112]].map H)/\∀j,bH v=some j->h1.next.nat<=j.nat:=by
  rcases hN with⟨hL,-⟩|⟨-,v,rfl,ov,B⟩
  ·rw[aj]at hL;cases hL
  ·rw[aa,ak]at ov;exact⟨v,by rw[decide_eq_true aa],ov,B⟩
 obtain⟨G,fv,hv,kv,ao⟩:∃G fv,v=.slice G 0 2 (.un 1)/\Kn S G (O (N 9 fv) [H [117],H [112]])/\h1.next.nat<=G.nat:=by
  rcases ov.is with⟨h0,_⟩|⟨i,e,hb,hi,f,hg⟩
  ·omega
  ·exact⟨i,f,e,⟨hg,hi⟩,B i (by rw[e];rfl)⟩
 have ab:∀g,bJ 1 v (Y U 0) g=D (X G 0) g:=λg=>by rw[hv];rfl
 have ac:∀g,bJ 1 v (Y U 1) g=D (X G 1) g:=λg=>by rw[hv];rfl
 have Q:Nw h1 S:=c2;have q2:=q1.nw Q;have R1:=q2.kr.ld q2.l1;have W:=q2.wd.acc.st;obtain⟨C,e3,c3⟩:=azH (l:=zF) (r:=(stC st.acc ib cb vm pl).drop 9) W.1 rfl W.2;have af:Nw S C:=c3;obtain⟨k,p⟩:∃k,k=C.new (O (N I7 true) zF):=⟨_,rfl⟩
 have S4:aT 9 (X C.next 0) (.agg (V.ofList zF)) (C.new (O (N I7 true) [(H []),(H []),(Y U 0),(Y U 0),(Y U 0),(Y U 0),(Y U 0),(Y U 0),(Y U 0)]))=D V.undef k:=by rw[p];exact iT (V.dO _) rfl rfl
 have c4:Nw C k:=by rw[p];exact Nw.new _ _
 have k4:Kn k C.next (O (N I7 true) zF):=by rw[p];exact Kn.new _ _
 have c:=af.trans c4;have U0:=k4.ld (q:=0) (x:=H [117]) rfl;have U1:=k4.ld (q:=1) (x:=H [112]) rfl;have ad:=(kv.nw c).ld (q:=0) (x:=H [117]) rfl;have ae:=(kv.nw c).ld (q:=1) (x:=H [112]) rfl;have M:=q2.nw c;have al:=(k1.nw Q).nw c;obtain⟨b,a⟩:∃b,b=({st with inn:=true}:Sn):=⟨_,rfl⟩
 obtain⟨m,t⟩:∃m,m=k.put pc (some (O (N tCn true) [K b.inn,vv,K b.only,iV b.cnt,.map im])):=⟨_,rfl⟩
 have S5:aT 1 (X pc 0) (K true) k=D V.undef m:=by rw[t,a];exact M.wd.con.st (q:=0) (y:=K true) ⟨rfl,rfl⟩ (by simp)
 have w5:World m pc im ps b F J pl ib cb fb vm vl vv I:=by
  rw[t];exact M.wd.acT (by rw[a]) (by rw[a];exact M.wd.view) λj q=>⟨λf=>(M.wd.fj j f).1 q,M.wd.jn j q⟩
 have c5:Ch (λj=>j=pc) k m:=by rw[t];exact Ch.put _ _ rfl
 have q5:=M.turn w5 c5 (λj e=>.inr (.inr (.inl e))) λj f=>.inl f;have ai:=q.wd.con.2;have k5:=al.ch c5 λe=>by rw[<-e]at ai;omega
 obtain⟨E,z⟩:∃E,E=m.put h.next (some (O (N tA true) (anL 0 [] false false false))):=⟨_,rfl⟩
 have S6:aT 5 (X h.next 0) (anV 0 [] false false false) m=D V.undef E:=by rw[z];exact k5.stN rfl rfl
 have k6:Kn E h.next (O (N tA true) (anL 0 [] false false false)):=by rw[z];exact k5.put _
 have c6:Ch (λj=>j=h.next) m E:=by rw[z];exact Ch.put _ _ rfl
 have q6:=q5.Tt c6 am an q.chz.next;refine⟨E,?_,by have:=q6.mk';rw[a]at this;exact this⟩;rw[aDG];simp(disch:=omega)only[vvB,a!,reduceCtorEq,↓reduceIte,ayE,aw9,aw8,aw7,aw6,aw5,aw3,aw2,<-ah,ag,R1,e3,S4,ab,ac,ad,ae,U0,U1,S5,aIx,S6,eq_self];simp only[aU,bW,vvB,a!,reduceCtorEq,↓reduceIte,ni,k6.ldN (n:=5) rfl,bZ]
theorem iR.cmd{g:Ln.Got}{x y:Wd}{kk:Int}(B:g.kind=1)(p:g.words.get? 0=some x)(k:x.kind=1)(q:g.words.get? 1=some y)(l:y.kind=1)
  (r:x.text.length<=1000000/\∀c∈x.text,c<256) (t:y.text.length<=1000000/\∀c∈y.text,c<256) (a:0<=st.cnt/\st.cnt<1000000) (b:rQ pc im ps (g.words.drop 2) (foldM y.text) {st with cnt:=st.cnt+1} (anL kk tx last bare part) s2 st2)
  (j:kk=0\/kk=1) (o:tx.length<=1000/\∀c∈tx,c<256) (m:s2.length<=100000/\∀c∈s2,c<256) (G:kk=0->bare=false->∀ks,st2.vw=some ks->CanUpd st2.acc ks) (E:(kU kk x.text tx s2 bare st2).length<=2000000) (C:part=true->kk=0->bare=false->∀ks,st2.vw=some ks->ayt st2.acc ks:=by intro e;cases e):
  iR pc im ps g st (kU kk x.text tx s2 bare st2) (if kk=1 then true else !last) (zB kk bare st2):=
 ⟨E,λh F J pl ib cb fb vm vl vv I P vw W M z=>aKG W M z B p k q l r t a b j o m G C⟩
theorem rQ.of{w:Wds}(a:nm≠ahi)(c:AL nm QN=some (f,n,u))(j:aqL n st)(b:∀(bb:Nat) (ir:Pos) (vw:V) (P:Pos->Prop),Cmd f bb pc im ps ir false w [] st vw P d s2 st2)(hl:d.length=5):rQ pc im ps w nm st d s2 st2:=
 λbb h0 Z h ir L vw P F J pl ib cb fb vm vl vv I q=>by
  obtain⟨h',e,r⟩:=run_go q a c j (b bb ir vw P) hl;exact⟨h',vw,P,w,false,e,r⟩
end
section
variable{h h' g:Hp}{P F I:Pos->Prop}{ps pl ib p cp i:Pos}{A:Acc}{cb:Cap}{fb only:Bool}{v vm vl:V}{id:Int}{k f n d:Nat}{b:Bx}
theorem arV(a:dG h F ps A pl ib cb fb vm vl I)(j:A.Small){w:Wr}(o:Kn h cp (O w [X ps 0]))(m:A.boxes.findIdx? (λb=>decide (b.id=id))=some d):∃h',Ap [iV id,X cp 0] h=D (K false) h'/\Nw h h':=by
 have L:=o.ld (q:=0) (x:=X ps 0) rfl;obtain⟨e,e1,c⟩:=YX a j id;rw[m]at e1;simp only[gK]at e1;have l:((d:Int)<0)=False:=eq_false (by omega);rw[alv];simp only[vvB,a!,reduceCtorEq,↓reduceIte,RX,WO,WN,L,e1,l];exact⟨e,by simp only[aU,bW,vvB,a!,reduceCtorEq,↓reduceIte,bZ],c⟩
theorem aoH(p:Pos)(x:V)(g:Hp):dK oU (.func (.func CU) .nil (.cons (X p 0) .nil)) [x] g=Ap [x,X p 0] g:=(rfl)
theorem atL(p:Pos)(x:V)(g:Hp):dK oU (.func (.func KL) (.cons (X p 0) .nil) .nil) [x] g=Ig [X p 0,x] g:=(rfl)
theorem atW(a:dG h F ps A pl ib cb fb vm vl I)(hA:A.Small)(r:Rws P (flat gV) 1 h v [id])(hf:A.boxes.findIdx? (λb=>decide (b.id=id))=some d):
  ∃w h',KA [X ps 0,v] h=D (.tuple (.cons w (.cons (K true) .nil))) h'/\Rws (λj=>h.next.nat<=j.nat) (flat gV) 1 h' w [id]/\Nw h h':=by
 obtain⟨G,s,l,k1⟩:=mkW h (O (N tPs true) [X ps 0]);have S:fO tPs (X ps 0) h=D (X h.next 0) G:=by rw[s];rfl
 obtain⟨w,h2,e2,r2,u,m⟩:=ahf (r.nw (aK _) l) (by simp);have m:=m.resolve_left (by simp);obtain⟨J,e3,Q,z⟩:=ajZ m (by simp);rw[OL ltI (by simp)]at Q;have n1:=l.next;have n2:=u.next;have n3:=z.next;have c:Nw G J:=u.then z λj hj e=>by have:=(m.eu e).1;omega
 have t:=Q.rows (P':=λj=>h.next.nat<=j.nat) (aK _) (λ_ _ q=>q.elim) λj q _=>by omega
 have e4:=abM t (by simp);obtain⟨L,E,B⟩:=MZ t (aK _) (λ_=>false) (by simp) (f:=.func (.func CU) .nil (.cons (X h.next 0) .nil)) (λx y g M C e=>by
  cases(show [y]= [Y U x] from e);simp at M;subst M;obtain⟨g',e6,Z⟩:=arV ((a.nw (l.trans c)).nw C) hA ((k1.nw c).nw C) hf;exact⟨g',by rw[aoH];exact e6,Z⟩)
 have o:jb [w,.func (.func CU) .nil (.cons (X h.next 0) .nil)] J=D (K false) L:=by
  have:([id].any λ_=>false)=false:=rfl;rw[this]at E;exact E
 have W:∀g,eP (.func CU) [] [X h.next 0] g=D (.func (.func CU) .nil (.cons (X h.next 0) .nil)) g:=λg=>rfl;rw[am6];simp only[vvB,a!,reduceCtorEq,↓reduceIte,U3,aaJ,aaI,aaH,aaG,aaF,S,e2,e3,e4,W,o];exact⟨w,L,by simp only[aU,bW,vvB,a!,reduceCtorEq,↓reduceIte,bZ]<;>rfl,t.nw (aK _) B,(l.trans c).trans B⟩
theorem dG.aCr(a:dG h F ps A pl ib cb fb vm vl I)(e:A.boxes[k]?=some b):∀g,g.get ib=h.get ib->∀f y,(fF b)[f]?=some y->aF (X ib (k*6+f)) g=D y g:=by
 have c:=(e!.1 e).1;obtain⟨i,q,cs,j,ex,-,-,-,ld,-⟩:=a.bxr.elt e;obtain rfl:cs=fF b:=ex;have:=j h;rw[uV c]at this;cases this;exact ld
theorem ayu(a:dG h F ps A pl ib cb fb vm vl I)(u:A.Small)(y:A.boxes.findIdx? (λb=>decide (b.id=id))=some d)(m:A.boxes[d]?=some b)(B:b.next<=1000000):∃h',Ig [X ps 0,iV id] h=D (K false) h'/\Nw h h':=by
 obtain⟨l,e1,j⟩:=YX a u id;rw[y]at e1;simp only[gK]at e1;have e:=(e!.1 m).1;have a1:=a.nw j;have L:=a.st.ld (q:=10) (x:=.slice ib 0 A.boxes.length cb) rfl;have o:=a1.st.ld (q:=10) (x:=.slice ib 0 A.boxes.length cb) rfl;have M:=a.st.ld (q:=5) (x:=iV 1073741824) rfl;have r:=a1.st.ld (q:=5) (x:=iV 1073741824) rfl;have z:=λg=>uV (sz:=6) (i:=ib) (c:=cb) e g;have ld:=a1.aCr m l rfl 4 (iV b.next) rfl;have w:(b.next>1073741824)=False:=eq_false (by omega);have s:∀{k:Out},chk (λh=>aF (X ps 10) h) (.slice ib 0 A.boxes.length cb) k 1 [h]=k:=wG a.bxr.noF L;have t:∀{k:Out},chk (λh=>aF (X ps 5) h) (iV 1073741824) k 1 [h]=k:=wG rfl M;rw[aoX];simp only[vvB,a!,reduceCtorEq,↓reduceIte,Zy,ac3,ac2,e1,o,s,z,ld,r,t,w];exact⟨l,by simp only[aU,bW,vvB,a!,reduceCtorEq,↓reduceIte,bZ],j⟩
theorem aEH(x:V)(h:Hp):AV h! tMb x h=bT 2 x h:=kR
theorem atX(a:dG h F ps A pl ib cb fb vm vl I)(hA:A.Small)(W:A.boxes.findIdx? (λb=>decide (b.id=id))=some d)(u:A.boxes[d]?=some b)(hn:0<=b.next/\b.next<=1000000):
  ∃h',KD [X ps 0,iV id] h=D (.agg (V.ofList (fD (id,b.next)))) h'/\dG h' F ps {A with boxes:=updB id (λb=>{b with next:=b.next+1}) A.boxes} pl ib cb fb vm vl I/\Ch (λj=>j=ib) h h':=by
 obtain⟨h1,C,M,k1⟩:=mkW h (O (N tMb true) [(Y U 0),(Y U 0)]);have a1:=a.nw M;obtain⟨B,e2,z⟩:=YX a1 hA id;rw[W]at e2;simp only[gK]at e2;have a2:=a1.nw z;have t:=(e!.1 u).1;have L1:=a1.st.ld (q:=10) (x:=.slice ib 0 A.boxes.length cb) rfl;have L2:=a2.st.ld (q:=10) (x:=.slice ib 0 A.boxes.length cb) rfl;have cL:∀{k:Out},chk (λh=>aF (X ps 10) h) (.slice ib 0 A.boxes.length cb) k 1 [h1]=k:=wG a.bxr.noF L1;have ix:=λg=>uV (sz:=6) (i:=ib) (c:=cb) t g;have ld:=a2.aCr u B rfl 4 (iV b.next) rfl;obtain⟨b',o⟩:∃b':Bx,b'={b with next:=b.next+1}:=⟨_,rfl⟩
 have L:=a2.aIr u (f:=4) (by omega) (y:=b.next+1) (b':=b') (by rw[o];rfl);obtain⟨l,r⟩:∃l,l=B.put ib (some (O (N tBx fb) ((A.boxes.set d b').map fF).flatten)):=⟨_,rfl⟩
 rw[<-r]at L;have a3:dG l F ps {A with boxes:=A.boxes.set d b'} pl ib cb fb vm vl I:=by rw[r];exact a2.aDQ (by rw[List.length_set])
 have Q:Ch (λj=>j=ib) B l:=by rw[r];exact Ch.put _ _ rfl
 have J:=a3.aCr (k:=d) (b:=b') (by rw[List.getElem?_set_self t]) l rfl 4 (iV (b.next+1)) (by rw[o];rfl);have E:=a.bx.2;have k3:=(k1.nw z).ch Q λe=>by rw[<-e]at E;omega
 obtain⟨m,s⟩:∃m,m=l.put h.next (some (O (N tMb true) (fD (id,b.next)))):=⟨_,rfl⟩
 have S4:aT 2 (X h.next 0) (.agg (V.ofList (fD (id,b.next)))) l=D V.undef m:=by rw[s];exact k3.stN rfl rfl
 have w:aT 2 (X h.next 0) (.agg (.cons (Y U id) (.cons (Y U b.next) .nil))) l=D V.undef m:=S4;have k4:Kn m h.next (O (N tMb true) (fD (id,b.next))):=by rw[s];exact k3.put _
 have S:Ch (λj=>j=h.next) l m:=by rw[s];exact Ch.put _ _ rfl
 have a4:=a3.ch S λj f e=>by have:=a.lt j f;rw[e]at this;omega
 have G:updB id (λb=>{b with next:=b.next+1}) A.boxes=A.boxes.set d b':=by
  obtain⟨x,Z,e⟩:=ahh (f:=λb:Bx=>{b with next:=b.next+1}) W;rw[u]at Z;cases Z;rw[e,o]
 have ad:∀g,aJ .add .none (Y U b.next) (Y U 1) g=D (Y U (b.next+1)) g:=λg=>QC (by omega) (by omega);have sb:∀g,aJ .sub .none (Y U (b.next+1)) (Y U 1) g=D (Y U b.next) g:=λg=>by
  rw[Yv (by omega) (by omega)];congr 2;omega
 have NC:∀g,aN (X ib (d*6)) g=D (X ib (d*6)) g:=λg=>rfl;rw[am9];simp(disch:=omega)only[vvB,a!,reduceCtorEq,↓reduceIte,U6,aa2,aa1,aa0,aaZ,<-C,e2,L2,cL,ix,NC,ld,ad,L,J,sb,w];refine⟨m,by simp only[aU,bW,vvB,a!,reduceCtorEq,↓reduceIte,aEH,k4.ldN (n:=2) rfl,bZ],by rw[G];exact a4,?_⟩;exact((M.trans z).ch.trans Q λ_ _ q=>q).trans S λj hj e=>by rw[e]at hj;omega
theorem arW(x:V)(h:Hp):KC [x,H []] h=D (iV 0) h:=by
 have e1:SG [H [],H [105,110,45,114,101,112,108,121,45,116,111]] h=D (H []) h:=PW (aCE _ _ _) h;have e2:dK ag5 (.func (.func atp) .nil .nil) [H [],H [105,110,45,114,101,112,108,121,45,116,111]] h=D (H []) h:=e1;rw[am8];simp only[vvB,a!,reduceCtorEq,↓reduceIte,U5,aaY,aaX,aaW,aaV,aaU,e2];simp only[aU,bW,vvB,a!,reduceCtorEq,↓reduceIte,bZ]
end
end Go.Proofs.Im
namespace Go.Im
def al1(A:Acc)(b:Bx)(at_:Int):Ml:={id:=A.lastId+1,thread:=A.lastId+1,text:= [],at_:=at_,keys:= [],mem:= [(b.id,b.next)],mod:=A.clock+1,born:=A.clock+1}
def Px(A:Acc)(b:Bx)(at_:Int):Acc:=
 {clock:=A.clock+1
  boxes:=jK (A.clock+1) [b.id] (updB b.id (λb=>{b with next:=b.next+1}) A.boxes)
  aP:=A.aP++ [al1 A b at_]
  ents:=A.ents++([jV (A.clock+1) b.id]++ [({mod:=A.clock+1,kind:=2,id:=A.lastId+1,how:=1}:En),{mod:=A.clock+1,kind:=3,id:=A.lastId+1,how:=1}])
  floor:=A.floor
  lastBox:=A.lastBox
  lastId:=A.lastId+1
  octets:=A.octets}
structure CanApp (A:Acc) (k:Nat) (b:Bx):Prop where
 small:A.Small
 logged:A.Logged
 at_:A.boxes[k]?=some b
 find:A.boxes.findIdx? (λx=>decide (x.id=b.id))=some k
 next:0<=b.next/\b.next<=900000
 clock:A.clock<900000
 lastId:0<=A.lastId/\A.lastId<900000
 ents:A.ents.length<=8000
 aP:A.aP.length<=900
 oct:0<=A.octets/\A.octets<=1000
end Go.Im
namespace Go.Proofs.Im
section
variable{h g h0:Hp}{F I l:Pos->Prop}{ps pl ib p i:Pos}{A:Acc}{cb:Cap}{fb only:Bool}{vm vl:V}{f:Nat}{b:Bx}
theorem dG.aKk(a:dG h F ps A pl ib cb fb vm vl I){B0:Nat}(v:∀j,F j->j.nat<B0){m':Ml}{d:V}(o:dH 0 l jf tMl 8 g d (A.aP++ [m']))(c:Ch (λj=>bH vm=some j) h g)(w:∀j,bH d=some j->h.next.nat<=j.nat)(u:∀j,l j->I j\/(B0<=j.nat/\j.nat<h.next.nat))(L:B0<=h.next.nat):
  dG (g.put ps (some (O (N tSt true) (stC {A with aP:=A.aP++ [m']} ib cb d pl)))) (λj=>F j\/l j\/bH d=some j) ps {A with aP:=A.aP++ [m']} pl ib cb fb d vl l/\
   dH 0 l jf tMl 8 (g.put ps (some (O (N tSt true) (stC {A with aP:=A.aP++ [m']} ib cb d pl)))) d (A.aP++ [m']):=by
 have ks:=a.st.ch c λe=>(a.nm ps e).1 rfl;have z:Ch (λj=>j=ps) g (g.put ps (some (O (N tSt true) (stC {A with aP:=A.aP++ [m']} ib cb d pl)))):=Ch.put _ _ rfl;have ca:Ch (λj=>bH vm=some j\/j=ps) h (g.put ps (some (O (N tSt true) (stC {A with aP:=A.aP++ [m']} ib cb d pl)))):=(c.mono λ_ _ e=>.inl e).trans z λ_ _ e=>.inr e;have J:=v _ a.foot.1;have G:=v _ a.foot.2.1;have E:=v _ a.foot.2.2.1;have m:∀j,l j->j≠ps/\j≠pl/\j≠ib/\bH vl≠some j:=λj q=>by
  rcases u j q with q|q
  ·have:=a.inn j q;exact⟨this.2.1,this.2.2.1,this.2.2.2.1,this.2.2.2.2.2⟩
  ·exact⟨λe=>by rw[e]at q;omega,λe=>by rw[e]at q;omega,λe=>by rw[e]at q;omega,λe=>by have:=v _ (a.foot.2.2.2.2 j e);omega⟩
 have k:∀j,l j->j.nat<h.next.nat:=λj q=>(u j q).elim (λq=>a.lt j (a.inn j q).1) λq=>q.2;have r:∀j,bH d=some j->j≠ps:=λj e n=>by have:=w j e;rw[n]at this;omega
 have o':dH 0 l jf tMl 8 (g.put ps (some (O (N tSt true) (stC {A with aP:=A.aP++ [m']} ib cb d pl)))) d (A.aP++ [m']):=o.ch dw z (λj e n=>r j e n) λj _ q=>⟨q,(m j q).1⟩
 refine⟨⟨ks.put _,a.lg.ch ca λe=>e.elim (λe=>(a.nm pl e).2.1 rfl) λe=>a.ne.1 e.symm,a.bx.ch ca λe=>e.elim (λe=>(a.nm ib e).2.2.1 rfl) λe=>a.ne.2.1 e.symm,a.cap,?_,?_,a.ne,?_,a.nl,?_,?_,?_,a.enil⟩,o'⟩
 ·obtain⟨t,x,y,s⟩:=o';refine⟨t,x,y,?_⟩;rcases s.is with⟨h0,e⟩|⟨i,e,hb,hi,f,C⟩
  ·simp at h0
  ·exact .inr ⟨i,f,[],e,by simpa using C,hi⟩
 ·obtain⟨t,x,y,s⟩:=a.en;exact⟨t,x.mono λ_ _ e=>e,y,s.ch ca λj B e=>e.elim (λe=>(a.nm j e).2.2.2 B) (a.nl j B).1⟩
 ·intro j e;have:=w j e;exact⟨r j e,λn=>by rw[n]at this;omega,λn=>by rw[n]at this;omega,λn=>by have:=a.lt j (a.foot.2.2.2.2 j n);omega⟩
 ·intro j q;have:=m j q;exact⟨.inr (.inl q),this.1,this.2.1,this.2.2.1,λe=>by have:=w j e;have:=k j q;omega,this.2.2.2⟩
 ·exact⟨.inl a.foot.1,.inl a.foot.2.1,.inl a.foot.2.2.1,λj e=>.inr (.inr e),λj e=>.inl (a.foot.2.2.2.2 j e)⟩
 ·intro j q;have M:=ca.next;rcases q with q|q|q
  ·have:=a.lt j q;omega
  ·have:=k j q;omega
  ·exact(o'.eu q).2
theorem bM0{w:V}(j:w.cells= [w]/\ja w=true)(a b:Int)(t:List Nat)(c d e:Int)(h:Hp):bQ zMl [(0,1,Y U a),(1,1,Y U b),(2,1,H t),(3,1,Y U c),(4,1,w),(6,1,Y U d),(7,1,Y U e)] h=D (.agg (V.ofList [Y U a,Y U b,H t,Y U c,w,.aQ,Y U d,Y U e])) h:=by
 unfold bQ;simp only[TD,j.1,j.2];rfl
theorem aLc:YV tMl zMl=some (O (N tMl true) zMl,λp=>X p 0):=(rfl)
theorem aLa(x:Int×Int):eH tMb [(Y U 0),(Y U 0)] 1 [(0,2,.agg (V.ofList (fD x)))]=some (O (N tMb true) (fD x),λp=>.slice p 0 1 (.kn 1)):=(rfl)
theorem aK8(m:Ml)(vk vs:V):eH tMl zMl 1 [(0,8,.agg (V.ofList (dB m vk vs)))]=some (O (N tMl true) (dB m vk vs),λp=>.slice p 0 1 (.kn 1)):=(rfl)
end
end Go.Proofs.Im
