/- Lemmas that the claim's last text uses. No conditions. -/
import Derived.Test.YtpgppmioigacoaaGreatDoorSAW
import Derived.Test.YtpgppmioigacoaaGreatDoorSAU
import Derived.Test.YtpgppmioigacoaaGreatDoorSAT
set_option linter.all false
set_option maxRecDepth 100000
open List renaming take→a!,getElem?_set_ne→b!,mem_append→c!,range→d!,getElem?_eq_some_iff→e!,length_append→h!,length_map→j!,pairwise_map→k!,getElem?_set_self→n!,flatMap_append→o!,mem_map→p!,getElem?_map→q!,range_succ→t!,mem_cons→u!,getElem?_eq_getElem→v!,mem_iff_getElem?→x!,mem_of_getElem?→z!,mem_singleton→A!,findIdx?_cons→B!,not_mem_nil→C!,nil_append→D!,find?_cons→E!,append_nil→F!,replicate→G!,map_set→H!,map_map→I!,length→L!
open Nat renaming reduceEqDiff→g!,le_refl→l!,add_zero→r!,ble_eq_true_of_le→y!,blt→J!,ble→K!
open Go.Vm.Pos renaming of→i!
open Go.Vm.V renaming int→Y,ptr→X,bool→K,str→H
open Go.IntKind renaming i64→U
open Go.Vm.Ob renaming cells→O
open Go.Vm.Wr renaming rw→N
open Go.Vm.R renaming ok→D
noncomputable section
open Go Go.Vm Go.Ln Go.Proofs Go.Im Go.Proofs.Im
namespace Go.Im
def aoz(A:Acc)(b:Bx)(at_:Int):Ml:={id:=A.lastId+1,thread:=A.lastId+1,text:= [],at_:=at_,keys:= [],mem:= [(b.id,b.next)],mod:=A.clock+1,born:=A.clock+1}
def Ro(A:Acc)(b:Bx)(at_:Int):Acc:=
 {clock:=A.clock+1
  boxes:=kF (A.clock+1) [b.id] (updB b.id (λb=>{b with next:=b.next+1}) A.boxes)
  mails:=A.mails++ [aoz A b at_]
  ents:=A.ents++([lJ (A.clock+1) b.id]++ [({mod:=A.clock+1,kind:=2,id:=A.lastId+1,how:=1}:En),{mod:=A.clock+1,kind:=3,id:=A.lastId+1,how:=1}])
  floor:=A.floor
  lastBox:=A.lastBox
  lastId:=A.lastId+1
  octets:=A.octets}
structure CanApp (A:Acc) (k:Nat) (b:Bx):Prop where
 small:A.Small
 logged:A.Logged
 at_:A.boxes[k]?=some b
 find:A.boxes.findIdx? (λx=>decide (x.id=b.id))=some k
 next:0<=b.next/\b.next<=900000
 clock:A.clock<900000
 lastId:0<=A.lastId/\A.lastId<900000
 ents:A.ents.length<=8000
 mails:A.mails.length<=900
 oct:0<=A.octets/\A.octets<=1000
end Go.Im
namespace Go.Proofs.Im
section
variable{h g h0:Hp}{F I l:Pos->Prop}{ps pl ib p i:Pos}{A:Acc}{cb:Cap}{fb only:Bool}{vm vl:V}{f:Nat}{b:Bx}
theorem dJ.aNZ(a:dJ h F ps A pl ib cb fb vm vl I){B0:Nat}(v:∀j,F j->j.nat<B0){m':Ml}{d:V}(o:dA 0 l kH tMl 8 g d (A.mails++ [m']))(c:Ch (λj=>bC vm=some j) h g)(w:∀j,bC d=some j->h.next.nat<=j.nat)(u:∀j,l j->I j\/(B0<=j.nat/\j.nat<h.next.nat))(L:B0<=h.next.nat):
  dJ (g.put ps (some (O (N tSt true) (stC {A with mails:=A.mails++ [m']} ib cb d pl)))) (λj=>F j\/l j\/bC d=some j) ps {A with mails:=A.mails++ [m']} pl ib cb fb d vl l/\
   dA 0 l kH tMl 8 (g.put ps (some (O (N tSt true) (stC {A with mails:=A.mails++ [m']} ib cb d pl)))) d (A.mails++ [m']):=by
 have ks:=a.st.ch c λe=>(a.nm ps e).1 rfl;have z:Ch (λj=>j=ps) g (g.put ps (some (O (N tSt true) (stC {A with mails:=A.mails++ [m']} ib cb d pl)))):=Ch.put _ _ rfl;have ca:Ch (λj=>bC vm=some j\/j=ps) h (g.put ps (some (O (N tSt true) (stC {A with mails:=A.mails++ [m']} ib cb d pl)))):=(c.mono λ_ _ e=>.inl e).trans z λ_ _ e=>.inr e;have J:=v _ a.foot.1;have G:=v _ a.foot.2.1;have E:=v _ a.foot.2.2.1;have m:∀j,l j->j≠ps/\j≠pl/\j≠ib/\bC vl≠some j:=λj q=>by
  rcases u j q with q|q
  ·have:=a.inn j q;exact⟨this.2.1,this.2.2.1,this.2.2.2.1,this.2.2.2.2.2⟩
  ·exact⟨λe=>by rw[e]at q;omega,λe=>by rw[e]at q;omega,λe=>by rw[e]at q;omega,λe=>by have:=v _ (a.foot.2.2.2.2 j e);omega⟩
 have k:∀j,l j->j.nat<h.next.nat:=λj q=>(u j q).elim (λq=>a.lt j (a.inn j q).1) λq=>q.2;have r:∀j,bC d=some j->j≠ps:=λj e n=>by have:=w j e;rw[n]at this;omega
 have o':dA 0 l kH tMl 8 (g.put ps (some (O (N tSt true) (stC {A with mails:=A.mails++ [m']} ib cb d pl)))) d (A.mails++ [m']):=o.ch dB z (λj e n=>r j e n) λj _ q=>⟨q,(m j q).1⟩
 refine⟨⟨ks.put _,a.lg.ch ca λe=>e.elim (λe=>(a.nm pl e).2.1 rfl) λe=>a.ne.1 e.symm,a.bx.ch ca λe=>e.elim (λe=>(a.nm ib e).2.2.1 rfl) λe=>a.ne.2.1 e.symm,a.cap,?_,?_,a.ne,?_,a.nl,?_,?_,?_,a.enil⟩,o'⟩
 ·obtain⟨t,x,y,s⟩:=o';refine⟨t,x,y,?_⟩;rcases s.is with⟨h0,e⟩|⟨i,e,hb,hi,f,C⟩
  ·simp at h0
  ·exact .inr ⟨i,f,[],e,by simpa using C,hi⟩
 ·obtain⟨t,x,y,s⟩:=a.en;exact⟨t,x.mono λ_ _ e=>e,y,s.ch ca λj B e=>e.elim (λe=>(a.nm j e).2.2.2 B) (a.nl j B).1⟩
 ·intro j e;have:=w j e;exact⟨r j e,λn=>by rw[n]at this;omega,λn=>by rw[n]at this;omega,λn=>by have:=a.lt j (a.foot.2.2.2.2 j n);omega⟩
 ·intro j q;have:=m j q;exact⟨.inr (.inl q),this.1,this.2.1,this.2.2.1,λe=>by have:=w j e;have:=k j q;omega,this.2.2.2⟩
 ·exact⟨.inl a.foot.1,.inl a.foot.2.1,.inl a.foot.2.2.1,λj e=>.inr (.inr e),λj e=>.inl (a.foot.2.2.2.2 j e)⟩
 ·intro j q;have M:=ca.next;rcases q with q|q|q
  ·have:=a.lt j q;omega
  ·have:=k j q;omega
  ·exact(o'.eY q).2
theorem bM0{w:V}(j:w.cells= [w]/\gW w=true)(a b:Int)(t:List Nat)(c d e:Int)(h:Hp):bU zMl [(0,1,Y U a),(1,1,Y U b),(2,1,H t),(3,1,Y U c),(4,1,w),(6,1,Y U d),(7,1,Y U e)] h=D (.agg (V.ofList [Y U a,Y U b,H t,Y U c,w,.aO,Y U d,Y U e])) h:=by
 unfold bU;simp only[QF,j.1,j.2];rfl
theorem aO7:OB tMl zMl=some (O (N tMl true) zMl,λp=>X p 0):=(rfl)
theorem aO5(x:Int×Int):eu tMb [(Y U 0),(Y U 0)] 1 [(0,2,.agg (V.ofList (dY x)))]=some (O (N tMb true) (dY x),λp=>.slice p 0 1 (.kn 1)):=(rfl)
theorem aO3(m:Ml)(vk vs:V):eu tMl zMl 1 [(0,8,.agg (V.ofList (dM m vk vs)))]=some (O (N tMl true) (dM m vk vs),λp=>.slice p 0 1 (.kn 1)):=(rfl)
end
section
variable{h h' g:Hp}{P F I d:Pos->Prop}{ps pl ib p pc cp i:Pos}{A B:Acc}{cb:Cap}{fb only:Bool}{v vm vl:V}{id:Int}{k f n o:Nat}{b:Bx}
theorem aw1(a:dJ h F ps A pl ib cb fb vm vl I)(ho:dA 0 I kH tMl 8 h vm A.mails)(hC:CanApp A o b)(r:Rws P (flat fH) 1 h v [b.id]){at_:Int}(d6:0<=at_/\at_<=1000000):
  ∃rr h' F' E bh I',MC [X ps 0,v,.aO,Y U at_,H []] h=D rr h'/\dJ h' F' ps (Ro A b at_) pl ib cb fb E bh I'/\dA 0 I' kH tMl 8 h' E (Ro A b at_).mails/\Ch F h h'/\∀j,F' j->F j\/h.next.nat<=j.nat:=by
 have hA:=hC.small;have d7:=hC.clock;have dE:=hA.clock;have d9:=hC.lastId;have cy:=hC.mails;have d1:=hC.oct;have cW:=hC.ents;obtain⟨w1,h1,e1,r1,c1⟩:=ard (Rws.aO (λ_=>False) (flat fF) 1 h) (λ_ q=>(by cases q)) (by simp);obtain⟨w2,h2,e2,r2,c2⟩:=awZ (a.nw c1) hA (r.nw (aK _) c1) hC.find;have b4:=c1.trans c2;have a2:=a.nw b4;have n1:=c1.next;have n2:=c2.next;have L2:=a2.st.ld (q:=11) (x:=vm) rfl;have M2:=a2.st.ld (q:=2) (x:=iV 1000) rfl;have M4:=a2.st.ld (q:=4) (x:=iV 1048576) rfl;have cB:=a2.st.ld (q:=15) (x:=iV A.octets) rfl;have lm:=a2.ml.rws.len h2;have e3:=aqD a2 hA;obtain⟨h3,e4,c3⟩:=Ou r2 (aK _) (λ_=>false) (by simp) (f:=.func (.func MH) (.cons (X ps 0) .nil) .nil) (λx y g hx cg e=>by
  cases(show [y]= [Y U x] from e);simp at hx;subst hx;obtain⟨g',e6,c6⟩:=aBw (a2.nw cg) hA hC.find hC.at_ (by have:=hC.next;omega);exact⟨g',by rw[awO];exact e6,c6⟩)
 have cR:jD [w2,.func (.func MH) (.cons (X ps 0) .nil) .nil] h2=D (K false) h3:=by
  have:([b.id].any λ_=>false)=false:=rfl;rw[this]at e4;exact e4
 have FF:∀g,fC (.func MH) [X ps 0] [] g=D (.func (.func MH) (.cons (X ps 0) .nil) .nil) g:=λg=>rfl;have a3:=a2.nw c3;have b6:=b4.trans c3;have n3:=c3.next;have e5:=aqC a3 hA;obtain⟨h4,bs⟩:∃h4,h4=h3.put ps (some (O (N tSt true) (stC {A with clock:=A.clock+1} ib cb vm pl))):=⟨_,rfl⟩
 rw[<-bs]at e5;have a4:dJ h4 F ps {A with clock:=A.clock+1} pl ib cb fb vm vl I:=by rw[bs];exact a3.arT rfl rfl rfl rfl
 have c4:Ch (λj=>j=ps) h3 h4:=by rw[bs];exact Ch.put _ _ rfl
 have cz:=a4.st.ld (q:=14) (x:=iV A.lastId) rfl;obtain⟨A5,G⟩:∃A5:Acc,A5={A with clock:=A.clock+1,lastId:=A.lastId+1}:=⟨_,rfl⟩
 obtain⟨M,bu⟩:∃M,M=h4.put ps (some (O (N tSt true) (stC A5 ib cb vm pl))):=⟨_,rfl⟩
 have S5:aQ 1 (X ps 14) (iV (A.lastId+1)) h4=D V.undef M:=by rw[bu,G];exact a4.st.st (q:=14) ⟨rfl,rfl⟩ (show 14<16 by omega)
 have a5:dJ M F ps A5 pl ib cb fb vm vl I:=by rw[bu,G];exact a4.arT (B:={A with clock:=A.clock+1,lastId:=A.lastId+1}) rfl rfl rfl rfl
 have c5:Ch (λj=>j=ps) h4 M:=by rw[bu];exact Ch.put _ _ rfl
 have aq:Ch (λj=>j=ps) h3 M:=c4.trans c5 λ_ _ q=>q;have n5:=aq.next;have b5:=a5.nw (Nw.bump 1 M);have L5:=a5.st.ld (q:=14) (x:=iV (A.lastId+1)) (by rw[G];rfl);have bS:=b5.st.ld (q:=14) (x:=iV (A.lastId+1)) (by rw[G];rfl);have eT:=auZ (X ps 0) (aH 1 M);obtain⟨p,hp⟩:∃p,p=M.next:=⟨_,rfl⟩
 obtain⟨h6,bd⟩:∃h6,h6=M.new (O (N tMl true) [iV (A.lastId+1),iV 0,H [],iV at_,w1,.aO,iV (A.clock+1),iV (A.clock+1)]):=⟨_,rfl⟩
 have S6:aQ 8 (X M.next 0) (.agg (V.ofList [iV (A.lastId+1),iV 0,H [],iV at_,w1,.aO,iV (A.clock+1),iV (A.clock+1)])) (M.new (O (N tMl true) zMl))=D V.undef h6:=by rw[bd];exact ig (V.dG _) rfl rfl
 have dT:(aH 1 M).put M.next (some (O (N tMl true) zMl))=M.new (O (N tMl true) zMl):=rfl;have c6:Nw M h6:=by rw[bd];exact Nw.new _ _
 have k6:Kn h6 p (O (N tMl true) [iV (A.lastId+1),iV 0,H [],iV at_,w1,.aO,iV (A.clock+1),iV (A.clock+1)]):=by rw[bd,hp];exact Kn.new _ _
 have n6:h6.next.nat=M.next.nat+1:=by rw[bd,bI]
 have T6:=k6.ld (q:=1) (x:=iV 0) rfl;have I6:=k6.ld (q:=0) (x:=iV (A.lastId+1)) rfl;obtain⟨h7,bv⟩:∃h7,h7=h6.put p (some (O (N tMl true) [iV (A.lastId+1),iV (A.lastId+1),H [],iV at_,w1,.aO,iV (A.clock+1),iV (A.clock+1)])):=⟨_,rfl⟩
 have S7:aQ 1 (X p 1) (iV (A.lastId+1)) h6=D V.undef h7:=by rw[bv];exact k6.st (q:=1) ⟨rfl,rfl⟩ (by simp)
 have k7:Kn h7 p (O (N tMl true) [iV (A.lastId+1),iV (A.lastId+1),H [],iV at_,w1,.aO,iV (A.clock+1),iV (A.clock+1)]):=by rw[bv];exact k6.put _
 have c7:Ch (λj=>j=p) h6 h7:=by rw[bv];exact Ch.put _ _ rfl
 have n7:=c7.next;have ar:Nw M h7:=c6.then c7 λj hj e=>by rw[e,hp]at hj;omega
 have a7:=a5.nw ar;have r7:=(r2.nw (aK _) c3).ch (P':=λj=>h1.next.nat<=j.nat/\j.nat<h3.next.nat) (aK _) aq λj hj q=>⟨⟨q,hj⟩,λe=>by have:=a.st.2;rw[e]at q;omega⟩
 have r7:=r7.nw (aK _) ar;have af:∀j,F j->j.nat<h.next.nat:=a.lt;have ag:A5.Small:=by rw[G];exact⟨by show 0<=A.clock+1/\A.clock+1<1000000;omega,hA.boxes,hA.mails,hA.ents,hA.each⟩
 have bm:A5.boxes=A.boxes:=by rw[G]
 have cJ:=a7.nw (Nw.bump 1 h7);have ek:(aH 1 h7).next.nat=h7.next.nat+1:=xg _ _;obtain⟨h8,e8,a8,c8⟩:=aw0 (id:=b.id) cJ ag (by rw[bm];exact hC.find) (by rw[bm];exact hC.at_) (by have:=hC.next;omega);have co:=k7.bump 1;have d8:=af _ a.foot.2.2.1;have k8:=co.ch c8 λe=>by rw[e]at hp;have:=congrArg Pos.nat hp;omega
 have M7:=k7.ld (q:=5) (x:=.aO) rfl;have cC:=co.ld (q:=5) (x:=.aO) rfl;have M8:=k8.ld (q:=5) (x:=.aO) rfl;have n8:=c8.next;obtain⟨h9,be⟩:∃h9,h9=h8.put h7.next (some (O (N tMb true) (dY (b.id,b.next)))):=⟨_,rfl⟩
 have c9:Ch (λj=>j=h7.next) h8 h9:=by rw[be];exact Ch.put _ _ rfl
 have n9:h9.next.nat=h8.next.nat:=by rw[be];rfl
 have dg:Kn h9 h7.next (O (N tMb true) ([(b.id,b.next)].map dY).flatten):=by rw[be];exact⟨kL _ _ _,by rw[jI];omega⟩
 have t9:Rws (λj=>j=h7.next) (flat dY) 2 h9 (.slice h7.next 0 1 (.kn 1)) [(b.id,b.next)]:=Kn.rws (c:=dY) (l:= [(b.id,b.next)]) (cp:=.kn 1) (sz:=2) dg (λ_=>rfl) (λ_ _ _ _ e=>by cases e;exact l! _);have k9:=k8.ch c9 λe=>by have:=k7.2;rw[e]at this;omega
 have a9:=a8.ch c9 λj f e=>by have:=af j f;rw[e]at this;omega
 obtain⟨J,ay,cK,bA,a6⟩:=aoZ (el:=tMb) (bt:=16) (Rws.aO (λ_=>False) (flat dY) 2 h9) (.inl ⟨rfl,rfl⟩) t9 (by simp) (by simp);rw[D!]at bA;have cl:=k9.nw a6;have b0:=a9.nw a6;have eb:=a6.next;obtain⟨m,hm⟩:∃m,m=aoz A b at_:=⟨_,rfl⟩
 obtain⟨u,aD⟩:∃u,u=ay.put p (some (O (N tMl true) (dM m w1 J))):=⟨_,rfl⟩
 have cD:aQ 1 (X p 5) J ay=D V.undef u:=by rw[aD,hm];exact cl.st (q:=5) bA.cell (by simp)
 have cm:Kn u p (O (N tMl true) (dM m w1 J)):=by rw[aD];exact cl.put _
 have ba:Ch (λj=>j=p) ay u:=by rw[aD];exact Ch.put _ _ rfl
 have db:p.nat=M.next.nat:=congrArg Pos.nat hp;have ai:=b0.ch ba λj f e=>by have:=af j f;rw[e]at this;omega
 have ec:=ba.next;have aM:∀j:Pos,j.nat<h7.next.nat->j≠ib->j≠p->u.get j=h7.get j:=λj hj hi c0=>by
  have q8:=c8.get j (by omega) hi;have q9:=c9.get j (by omega) λe=>by rw[e]at hj;omega
  have dl:=a6.get j (by omega) λq=>q;have a1:=ba.get j (by omega) c0;rw[a1,dl,q9,q8];rfl
 have au:Ch (λj=>j=ib\/j=p) h7 u:=⟨by omega,λj hj hn=>aM j hj (λe=>hn (.inl e)) λe=>hn (.inr e)⟩
 have hI:∀j,I j->j.nat<h.next.nat/\j≠ps/\j≠ib:=λj q=>⟨af j (a.inn j q).1,(a.inn j q).2.1,(a.inn j q).2.2.2.1⟩
 have al:∀j,bC vm=some j->j.nat<h.next.nat/\j≠ps/\j≠ib:=λj e=>⟨af j (a.foot.2.2.2.1 j e),(a.nm j e).1,(a.nm j e).2.2.1⟩
 have cj:dA 0 I kH tMl 8 u vm A.mails:=by
  have o3:=ho.nw dB b6;have o5:=o3.ch (P':=I) dB aq (λj e L=>(al j e).2.1 L) λj _ q=>⟨q,(hI j q).2.1⟩
  exact(o5.nw dB ar).ch dB au (λj e L=>L.elim (al j e).2.2 λL=>by have:=(al j e).1;rw[L]at this;omega) λj _ q=>⟨q,λL=>L.elim (hI j q).2.2 λL=>by have:=(hI j q).1;rw[L]at this;omega⟩
 obtain⟨d,ae⟩:∃d:Pos->Prop,d=λj=>I j\/(h.next.nat<=j.nat/\j.nat<u.next.nat/\j≠p):=⟨_,rfl⟩
 have xm:kH d u m (dM m w1 J):=by
  refine⟨w1,J,rfl,?_,?_⟩
  ·have rk:Rws (λj=>h.next.nat<=j.nat/\j.nat<h1.next.nat) (flat fF) 1 h1 w1 []:=r1.mono (aK _) λj hj q=>⟨q,hj⟩
   have dv:=rk.nw (aK _) (c2.trans c3);have dx:=dv.ch (P':=λj=>h.next.nat<=j.nat/\j.nat<h1.next.nat) (aK _) aq λj _ q=>⟨q,λe=>by have:=a.st.2;rw[e]at q;omega⟩
   have dy:=dx.nw (aK _) ar;rw[hm];exact dy.ch (aK _) au λj _ q=>⟨by rw[ae];exact .inr ⟨q.1,by omega,λe=>by rw[e]at q;omega⟩,λe=>e.elim (λe=>by rw[e]at q;omega) λe=>by rw[e]at q;omega⟩
  ·rw[hm];have rm:Rws (λj=>h9.next.nat<=j.nat/\j.nat<ay.next.nat) (flat dY) 2 ay J [(b.id,b.next)]:=(bA.rows (P':=λj=>h9.next.nat<=j.nat) (aK _) (λ_ _ q=>q.elim) λ_ q _=>q).mono (aK _) λj hj q=>⟨q,hj⟩
   exact rm.ch (aK _) ba λj _ q=>⟨by rw[ae];exact .inr ⟨by omega,by omega,λe=>by rw[e]at q;omega⟩,λe=>by rw[e]at q;omega⟩
 obtain⟨E,az,cL,di,aj,ed,bj⟩:=cj.app1 (bt:=104) (x:=m) (cs:=dM m w1 J) (P':=d) dB (Nat.zero_le _) rfl (λj _ q=>by rw[ae];exact .inl q) xm (λj _ q e=>by
  rw[ae]at q;rcases q with q|q
  ·exact(a.inn j q).2.2.2.2.1 e
  ·have:=(al j e).1;omega) (by omega)
 have b7:bK tMl 8 104 vm (.slice u.next 0 1 (.kn 1)) (u.new (O (N tMl true) (dM m w1 J)))=D E az:=cL;have bg:(aH 1 u).put u.next (some (O (N tMl true) (dM m w1 J)))=u.new (O (N tMl true) (dM m w1 J)):=rfl;have aR:∀j,bC E=some j->u.next.nat<=j.nat:=λj e=>by rw[bj]at e;cases e;rw[Pos.fG];omega
 obtain⟨A8,S⟩:∃A8:Acc,A8={A5 with boxes:=updB b.id (λb=>{b with next:=b.next+1}) A5.boxes}:=⟨_,rfl⟩
 rw[<-S]at a8 a9 b0 ai;have bw:A8.mails=A.mails:=by rw[S,G]
 have cu:dA 0 d kH tMl 8 az E (A8.mails++ [m]):=by rw[bw];exact di
 obtain⟨ab,bB⟩:=ai.aNZ (B0:=h.next.nat) af (m':=m) cu aj aR (λj q=>by rw[ae]at q;exact q.imp id λq=>⟨q.1,q.2.1⟩) (by omega);obtain⟨t,z⟩:∃t:Acc,t={A8 with mails:=A8.mails++ [m]}:=⟨_,rfl⟩
 rw[<-z]at ab bB;obtain⟨ac,aE⟩:∃ac,ac=az.put ps (some (O (N tSt true) (stC t ib cb E pl))):=⟨_,rfl⟩
 rw[<-aE]at ab bB;have cr:=ai.st.ch aj λe=>(ai.nm ps e).1 rfl;have cE:aQ 1 (X ps 11) E az=D V.undef ac:=by rw[aE,z];exact cr.st (q:=11) (by rw[bj];exact⟨rfl,rfl⟩) (show 11<16 by omega)
 have bb:Ch (λj=>j=ps) az ac:=by rw[aE];exact Ch.put _ _ rfl
 have d2:=aj.next;have ee:=bb.next;have d4:=ai.st.ld (q:=11) (x:=vm) rfl;have bR:=(ai.nw (Nw.bump 1 u)).st.ld (q:=11) (x:=vm) rfl;have bX:=(cm.bump 1).ldN (n:=8) rfl;have bn:p≠ps:=λe=>by have:=a.st.2;rw[<-e]at this;omega
 have dc:=(cm.ch aj λe=>by have:=(al p e).1;omega).ch bb bn;have cA:=ab.st.ld (q:=15) (x:=iV t.octets) rfl;have d0:t.octets=A.octets:=by rw[z,S,G]
 obtain⟨w,aL⟩:∃w,w=ac.put ps (some (O (N tSt true) (stC t ib cb E pl))):=⟨_,rfl⟩
 have cF:aQ 1 (X ps 15) (iV t.octets) ac=D V.undef w:=by rw[aL];exact ab.st.st (q:=15) ⟨rfl,rfl⟩ (show 15<16 by omega)
 have C:=ab.arT (B:=t) rfl rfl rfl rfl;rw[<-aL]at C;have am:Ch (λj=>j=ps) ac w:=by rw[aL];exact Ch.put _ _ rfl
 have dj:dA 0 d kH tMl 8 w E t.mails:=by
  have:t.mails=A8.mails++ [m]:=by rw[z]
  rw[this];exact bB.ch dB am (λj e L=>(ab.nm j e).1 L) λj _ q=>⟨q,(ab.inn j q).2.1⟩
 have ef:=am.next;have cn:=dc.ch am bn;have bi:=C.nw (Nw.bump 1 w);have d3:(aH 1 w).next.nat=w.next.nat+1:=xg _ _;have bq:t.Small:=by
  rw[z];refine⟨by rw[S];exact ag.clock,by rw[S];show 0<(updB _ _ A5.boxes).length/\_;rw[asl];exact ag.boxes,by show(A8.mails++ [m]).length<=1000;rw[bw,h!];show A.mails.length+1<=1000;omega,by rw[S];exact ag.ents,λx hx=>?_⟩;rw[show(({A8 with mails:=A8.mails++ [m]}:Acc).mails)=A8.mails++ [m] from rfl,c!,bw]at hx;rcases hx with hx|hx
  ·exact hA.each x hx
  ·simp at hx;rw[hx,hm];exact⟨by simp[aoz],by simp[aoz]⟩
 have dr:Rws (λj=>h1.next.nat<=j.nat/\j.nat<h3.next.nat) (flat fH) 1 (aH 1 w) w2 [b.id]:=by
  have a1:=r7.ch (P':=λj=>h1.next.nat<=j.nat/\j.nat<h3.next.nat) (aK _) au λj _ q=>⟨q,λe=>e.elim (λe=>by rw[e]at q;omega) λe=>by rw[e]at q;omega⟩
  have bE:=a1.ch (P':=λj=>h1.next.nat<=j.nat/\j.nat<h3.next.nat) (aK _) aj λj _ q=>⟨q,λe=>by have:=(al j e).1;omega⟩
  have bL:=bE.ch (P':=λj=>h1.next.nat<=j.nat/\j.nat<h3.next.nat) (aK _) (bb.trans am λ_ _ q=>q) λj _ q=>⟨q,λe=>by have:=a.st.2;rw[e]at q;omega⟩
  exact bL.nw (aK _) (Nw.bump 1 w)
 have br:t.boxes=updB b.id (λb=>{b with next:=b.next+1}) A.boxes:=by rw[z,S,G]
 obtain⟨dC,bp,cM,b1,ds,cS,bc⟩:=ahP bi bq dr (by simp) (A.clock+1) (Gl ltI (by simp)) (λk x y _ hy=>by simp at hy) (λx hx=>by
  simp at hx;subst hx;exact⟨o,by rw[br,ap0 (f:=λb:Bx=>{b with next:=b.next+1}) (λ_=>rfl)];exact hC.find⟩)
 have eg:=bc.next;have a0:=cn.bump 1;have bz:=a0.ch bc λe=>by rw[e]at db;omega
 obtain⟨Q,W⟩:∃Q:List En,Q= [({mod:=A.clock+1,kind:=2,id:=A.lastId+1,how:=1}:En),{mod:=A.clock+1,kind:=3,id:=A.lastId+1,how:=1}]:=⟨_,rfl⟩
 obtain⟨ad,aa⟩:∃ad,ad=bp.put w.next (some (O (N tEn true) (Q.map iR).flatten)):=⟨_,rfl⟩
 have an:Ch (λj=>j=w.next) bp ad:=by rw[aa];exact Ch.put _ _ rfl
 have eh:ad.next.nat=bp.next.nat:=by rw[aa];rfl
 have dd:Kn ad w.next (O (N tEn true) (Q.map iR).flatten):=by rw[aa];exact⟨kL _ _ _,by rw[jI];omega⟩
 have cH:=b1.ch an λj f e=>by have:=C.lt j f;rw[e]at this;omega
 have dt:=ds.ch (P':=λj=>(aH 1 w).next.nat<=j.nat) (aK _) an λj _ q=>⟨q,λe=>by rw[e]at q;omega⟩
 have bf:Q.length=2:=by rw[W];rfl
 have dz:Rws (λj=>j=w.next) (flat iR) 4 ad (.slice w.next 0 2 (.kn 2)) Q:=by
  have:=Kn.rws (c:=iR) (l:=Q) (cp:=.kn 2) (sz:=4) dd (λ_=>rfl) (λ_ _ _ _ e=>by cases e;exact Nat.le_of_eq bf);rwa[bf]at this
 have cX:aho dC ([b.id].map (lJ (A.clock+1))).length:=by rw[j!];exact cS
 obtain⟨eo,d5,cP,dk,ao⟩:=aoZ (el:=tEn) (bt:=32) dt cX dz (by rw[W];simp) (by rw[bf];simp);have Z:=cH.nw ao;have ei:=ao.next;have du:=dk.rows (P':=λj=>ad.next.nat<=j.nat) (aK _) (λ_ _ q=>q.elim) λ_ q _=>q;have ah:t.ents=A.ents:=by rw[z,S,G]
 have cc:∀e∈ [b.id].map (lJ (A.clock+1))++Q,e.mod=A.clock+1:=λe he=>by
  rcases c!.1 he with q|q
  ·obtain⟨id,_,rfl⟩:=p!.1 q;rfl
  ·rw[W]at q;simp at q;rcases q with q|q<;>rw[q]
 have cf:∀e∈t.ents,e.mod<=A.clock+1:=λe he=>by
  have cV:e∈A.ents:=by rw[<-ah];exact he
  have:=hC.logged.mods e cV;omega
 have ci:t.ents.length+([b.id].map (lJ (A.clock+1))++Q).length<=10000:=by
  rw[ah,h!,j!,bf];simp;omega
 obtain⟨em,b9,bh,cQ,cq,cv,ap,bo⟩:=au0 Z.lg Z.en du (λj e=>(Z.nl j e).2.1) (λj hj pj=>⟨λe=>by have:=C.lt pl C.foot.2.1;rw[e]at pj;omega,λe=>by have:=C.lt j (C.foot.2.2.2.2 j e);omega⟩) cc cf ci;have cI:=Z.aHe cq cv ap bo (by rw[W];simp);have ej:=ap.next;have de:=(bz.ch an λe=>by have:=cn.2;rw[e]at this;omega).nw ao;have da:¬(F p\/d p\/bC E=some p):=λe=>by
  rcases e with e|e|e
  ·have:=af p e;omega
  ·rw[ae]at e;rcases e with e|e
   ·have:=(hI p e).1;omega
   ·exact e.2.2 rfl
  ·have:=aR p e;omega
 have df:=de.ch ap λe=>da (.inl (e.elim (λe=>by rw[e];exact a.foot.2.1) λe=>a.foot.2.2.2.2 p e));have Id:∀{g:Hp},Kn g p (O (N tMl true) (dM m w1 J))->aF (X p 0) g=D (iV (A.lastId+1)) g:=λk=>k.ld (q:=0) (by rw[hm];rfl);have Th:∀{g:Hp},Kn g p (O (N tMl true) (dM m w1 J))->aF (X p 1) g=D (iV (A.lastId+1)) g:=λk=>k.ld (q:=1) (by rw[hm];rfl);have Lp:∀{g:Hp} {F:Pos->Prop} {B:Acc} {vm vl:V} {I:Pos->Prop},dJ g F ps B pl ib cb fb vm vl I->aF (X ps 12) g=D (X pl 0) g:=λa=>a.st.ld (q:=12) rfl;refine⟨.tuple (.cons (iV (A.lastId+1)) (.cons (iV 0) .nil)),b9,λj=>(F j\/d j\/bC E=some j)\/bC bh=some j,E,bh,d,?_,?_,?_,?_,?_⟩
 ·rw[apO]
  suffices T:aW Tryz.prog [.tmp 10,.tmp 11] (λr h'=>r=.tuple (.cons (iV (A.lastId+1)) (.cons (iV 0) .nil))/\h'=b9) (LV (T.set (some (H [])) (i! 4) (T.set (some (Y U at_)) (i! 3) (T.set (some .aO) (i! 2) (T.set (some v) (i! 1) (T.set (some (X ps 0)) (i! 0) T.nil))))) h) by
   obtain⟨r,h',e,rfl,rfl⟩:=T;exact e
  have cw:=r.len h;have cG:aQ 8 (X p 0) (.agg (V.ofList [iV (A.lastId+1),iV 0,H [],iV at_,w1,.aO,iV (A.clock+1),iV (A.clock+1)])) (M.new (O (N tMl true) zMl))=D V.undef h6:=by rw[hp];exact S6
  have bx:(aH 1 M).put p (some (O (N tMl true) zMl))=M.new (O (N tMl true) zMl):=by rw[hp];rfl
  have bM:=λh=>bM0 r1.cell (A.lastId+1) 0 [] at_ (A.clock+1) (A.clock+1) h;have cT:∀{k:Out},chk (λh=>aF (X ps 14) h) (iV (A.lastId+1)) k 1 [aH 1 M]=k:=uS rfl bS;have cx:=r7.len h7;have ea:(((L! ([]:List Nat)):Nat):Int)=0:=rfl;have ce:((0:Int)>1048576 - A.octets)=False:=eq_false (by omega);have cd:((A.mails.length:Int)>=1000)=False:=eq_false (by omega);have sb:∀g,aI .sub .none (Y U 1048576) (Y U A.octets) g=D (Y U (1048576 - A.octets)) g:=λg=>Z5 (by omega) (by omega);have b2:∀g,aI .add .none (Y U A.lastId) (Y U 1) g=D (Y U (A.lastId+1)) g:=λg=>SE (by omega) (by omega);have l1:(([b.id].length:Nat):Int)=1:=rfl;have ck:∀g,aZ 1 (H []) g=D (Y U 0) g:=λg=>rfl;have dh:(at_<0)=False:=eq_false (by omega);have cU:(at_>253402300799)=False:=eq_false (by omega);rw[l1]at cw cx;simp(disch:=omega)only[vvB,g!,reduceCtorEq,↓reduceIte,LV,ac3,ac2,ac1,ac0,acZ,acY,acX,Zf,Ze,Y9,Y8,Y6,Y5,Y4,Y3,Y2,YZ,YX,fD,cw,dh,cU,e1,e2,L2,lm,M2,cd,ck,M4,cB,sb,ce,e3,FF,cR,e5,cz,b2,S5,eT,bS,cT,bM,aO7,<-hp,bx,cG,T6,I6,S7,cx];refine Oc.then (dK (σ:=Unit) (n:=1) (pi:=113) (pn:=112) (pc:=114) [0,4,14,16,17,18,111] (λ_=> [X ps 0,H [],w2,iV (A.clock+1),X p 0,Y U 1,w2]) (λk _ g=>(k=0/\g=h7)\/(k=1/\g=u))
   (A:=λfr g=>Fa fr [0,4,14,16,17,18] [X ps 0,H [],w2,iV (A.clock+1),X p 0,Y U 1]/\g=u) (B:=λ_ _=>False) (s:=())
   (λfr h _ k e1 e2=>by simp only[vvB,YW,e1,e2]) (λfr h k _ e1=>by simp(disch:=omega)only[vvB,YT,e1]) (by decide) (by rw[dO];omega) (qK0) (qK1) (by simp only[Fa,vvB,g!,reduceCtorEq,↓reduceIte,and_self]) (.inl ⟨rfl,rfl⟩) ?_ ?_) ?_ ?_
  ·intro k _ fr g hk bl b8 fa hI;obtain⟨f0,f4,av,aw,ak,ax,bk,-⟩:=fa;rcases hI with⟨rfl,rfl⟩|⟨h1,-⟩
   ·obtain⟨i,q,cs,ix,ex,-,-,-,ld,-⟩:=r7.elt (k:=0) (x:=b.id) rfl;obtain rfl:cs=fH b.id:=ex;have ct:=ld g rfl 0 (iV b.id) rfl;rw[r!]at ct;have cN:∀{k:Out},chk (λh=>aF (X p 5) h) .aO k 1 [aH 1 g]=k:=uS rfl cC;simp(disch:=omega)only[vvB,g!,reduceCtorEq,↓reduceIte,YV,YU,f0,ak,bk,bl,ix,ct,e8,M8,cN,aO5,<-be,cK,cD];exact⟨qK2 bl,qK2 b8,(),by simp only[Fa,vvB,g!,reduceCtorEq,↓reduceIte,f0,f4,av,aw,ak,ax,bk,and_self],.inr (by first|exact⟨trivial,rfl⟩|exact⟨rfl,rfl⟩)⟩
   ·omega
  ·intro _ fr g fa hI;obtain⟨f0,f4,av,aw,ak,ax,-⟩:=fa;rcases hI with⟨h1,-⟩|⟨-,rfl⟩
   ·omega
   ·exact⟨by simp only[Fa,f0,f4,av,aw,ak,ax,and_self],rfl⟩
  ·rintro fr g ⟨⟨f0,f4,av,aw,ak,ax,-⟩,rfl⟩;rw[W]at aa;have b3:∀g,aI .add .none (Y U t.octets) (Y U 0) g=D (Y U t.octets) g:=λg=>by rw[SE (by omega) (by omega)];congr 2;omega
   simp(disch:=omega)only[vvB,YS,YQ,YP,YO,f0,f4,av,aw,ak,ax,bR,bX,aO3,bg,b7,cE,cA,ck,b3,cF,cM,Id bz,uS (v:=iV (A.lastId+1)) rfl (Id a0),aAD,Th bz,uS (v:=iV (A.lastId+1)) rfl (Th a0),aOa,<-aa,cP,Lp Z,auo (v:=X pl 0) rfl (Lp b1) (Lp bi),cQ,Id df];exact aW.ret (qT0) ⟨rfl,rfl⟩
  ·intro fr g q;exact q.elim
 ·have ca:({({t with boxes:=kF (A.clock+1) [b.id] t.boxes}:Acc) with ents:=t.ents++([b.id].map (lJ (A.clock+1))++Q)}:Acc)=Ro A b at_:=by
   rw[z,S,G,hm,W];rfl
  rw[<-ca];exact cI
 ·have cY:(Ro A b at_).mails=t.mails:=by rw[z,S,G,hm];rfl
  rw[cY];have bN:=(dj.nw dB (Nw.bump 1 w)).ch (P':=d) dB bc (λj e L=>(C.nm j e).2.2.1 L) λj _ q=>⟨q,λL=>(C.inn j q).2.2.2.1 L⟩
  have bO:=bN.ch (P':=d) dB an (λj e L=>by have:=C.lt j (C.foot.2.2.2.1 j e);rw[L]at this;omega) λj _ q=>⟨q,λL=>by have:=C.lt j (C.inn j q).1;rw[L]at this;omega⟩
  exact(bO.nw dB ao).ch (P':=d) dB ap (λj e L=>L.elim (Z.nm j e).2.1 (Z.nm j e).2.2.2) λj _ q=>⟨q,λL=>L.elim (Z.inn j q).2.2.1 (Z.inn j q).2.2.2.2.2⟩
 ·refine⟨by omega,λj hj hn=>?_⟩;have q3:=b6.get j hj λq=>q
  have q5:=aq.get j (by omega) λe=>hn (by rw[e];exact a.foot.1);have q7:=ar.get j (by omega) λq=>q;have a1:=aM j (by omega) (λe=>hn (by rw[e];exact a.foot.2.2.1)) λe=>by rw[e]at hj;omega
  have bE:=aj.get j (by omega) λe=>hn (a.foot.2.2.2.1 j e);have dm:=bb.get j (by omega) λe=>hn (by rw[e];exact a.foot.1);have bL:=am.get j (by omega) λe=>hn (by rw[e];exact a.foot.1);have bN:=bc.get j (by omega) λe=>hn (by rw[e];exact a.foot.2.2.1);have bO:=an.get j (by omega) λe=>by rw[e]at hj;omega
  have dp:=ao.get j (by omega) λq=>q;have dq:=ap.get j (by omega) λe=>hn (e.elim (λe=>by rw[e];exact a.foot.2.1) λe=>a.foot.2.2.2.2 j e);rw[dq,dp,bO,bN];show w.get j=_;rw[bL,dm,bE,a1,q7,q5,q3]
 ·intro j q;rcases q with(q|q|q)|q
  ·exact .inl q
  ·rw[ae]at q;exact q.imp (λq=>(a.inn j q).1) λq=>q.1
  ·have:=aR j q;exact .inr (by omega)
  ·rcases bo j q with e|e
   ·exact .inl (a.foot.2.2.2.2 j e)
   ·exact .inr (by omega)
end
end Go.Proofs.Im
namespace Go.Im
def aAN:Acc:={clock:=1,boxes:= [{id:=1,name:=jA,par:=0,valid:=1,next:=1,mod:=1}],mails:= [],ents:= [],floor:=0,lastBox:=1,lastId:=0,octets:=0}
end Go.Im
namespace Go.Proofs.Im
section
variable{h h' g:Hp}{F:Pos->Prop}{ps pl ib pc cp i:Pos}{A B:Acc}{cb:Cap}{fb only:Bool}{id:Int}{k n:Nat}
theorem aD4(h:Hp):∃h',V5 [] h=D (.agg (V.ofList zQ)) h'/\Nw h h':=by
 obtain⟨b,a⟩:∃b,b=h.new (O (N JW true) zQ):=⟨_,rfl⟩
 have d:aQ 9 (X h.next 0) (.agg (V.ofList zQ)) (h.new (O (N JW true) [(H []),(H []),(Y U 0),(Y U 0),(Y U 0),(Y U 0),(Y U 0),(Y U 0),(Y U 0)]))=D V.undef b:=by rw[a];exact ig (V.dG _) rfl rfl
 have e:Kn b h.next (O (N JW true) zQ):=by rw[a];exact Kn.new _ _
 have c:∀g,bU [(H []),(H []),(Y U 0),(Y U 0),(Y U 0),(Y U 0),(Y U 0),(Y U 0),(Y U 0)] [(0,1,(H [117])),(1,1,(H [112])),(2,1,(Y U 1000)),(3,1,(Y U 100)),(4,1,(Y U 1048576)),(5,1,(Y U 1073741824)),(6,1,(Y U 1073741824)),(7,1,(Y U 10000)),(8,1,(Y U 200))] g=D (.agg (V.ofList zQ)) g:=λg=>rfl;rw[av6];simp only[vvB,seval,agf,ai4,ai3,c,d];exact⟨b,by simp only[aU,cO,vvB,seval,auh,e.ldN (n:=9) rfl,dn],by rw[a];exact Nw.new _ _⟩
theorem aGD(h:Hp):abQ [Y U 10000] h=D (.tuple (.cons (X h.next 0) (.cons (Y U 0) .nil))) (h.new (O (N tLg true) [iV 10000,.aO,iV 0])):=by
 have B:∀g,bU [(Y U 0),.aO,(Y U 0)] [(0,1,Y U 10000)] g=D (.agg (V.ofList [iV 10000,.aO,iV 0])) g:=λg=>rfl;rw[axE];simp(disch:=omega)only[vvB,seval,akU,anw,anv,anu,B,V.bW];simp only[aU,cO,vvB,seval,dn]<;>rfl
abbrev aoC:List Int:= [1000,100,1048576,1073741824,1073741824,10000,200]
theorem aGy(h:Hp):∃ps h' F pl ib cb fb,abL [.agg (V.ofList zQ)] h=D (.tuple (.cons (X ps 0) (.cons (iV 0) .nil))) h'/\dJ h' F ps aAN pl ib cb fb .aO .aO (λ_=>False)/\Nw h h'/\∀j,F j->h.next.nat<=j.nat:=by
 obtain⟨f,I,c1,m⟩:=mkW h (O (N JW true) zQ);have n1:f.next.nat=h.next.nat+1:=by rw[I,bI]
 have L0:=m.ld (q:=0) (x:=H [117]) rfl;have L1:=m.ld (q:=1) (x:=H [112]) rfl;have L2:=m.ld (q:=2) (x:=iV 1000) rfl;have L3:=m.ld (q:=3) (x:=iV 100) rfl;have L4:=m.ld (q:=4) (x:=iV 1048576) rfl;have L5:=m.ld (q:=5) (x:=iV 1073741824) rfl;have L6:=m.ld (q:=6) (x:=iV 1073741824) rfl;have L7:=m.ld (q:=7) (x:=iV 10000) rfl;have L8:=m.ld (q:=8) (x:=iV 200) rfl;have T1:wG [H [117]] f=D (K true) f:=by rw[aeQ (by decide) (by decide)];rfl
 have T2:wG [H [112]] f=D (K true) f:=by rw[aeQ (by decide) (by decide)];rfl
 obtain⟨a,J,S,k2⟩:=mkW f (O (N fZ true) (aoC.map fH).flatten);have n2:a.next.nat=f.next.nat+1:=by rw[J,bI]
 have B2:bJ fZ [(Y U 0),(Y U 0),(Y U 0),(Y U 0),(Y U 0),(Y U 0),(Y U 0)] 7 [(0,1,iV 1000),(1,1,iV 100),(2,1,iV 1048576),(3,1,iV 1073741824),(4,1,iV 1073741824),(5,1,iV 10000),(6,1,iV 200)] f=D (.slice f.next 0 7 (.kn 7)) a:=by rw[J];rfl
 have r2:Rws (λj=>j=f.next) (flat fH) 1 a (.slice f.next 0 7 (.kn 7)) aoC:=Kn.rws (c:=fH) (l:=aoC) (cp:=.kn 7) (sz:=1) k2 (λ_=>rfl) (λ_ _ _ _ e=>by cases e;exact l! _);obtain⟨b,t⟩:∃b,b=a.new (O (N tLg true) [iV 10000,.aO,iV 0]):=⟨_,rfl⟩
 have eL:=aGD a;rw[<-t]at eL;have c3:Nw a b:=by rw[t];exact Nw.new _ _
 have k3:Kn b a.next (O (N tLg true) [iV 10000,.aO,iV 0]):=by rw[t];exact Kn.new _ _
 have n3:b.next.nat=a.next.nat+1:=by rw[t,bI]
 have Q:=(m.nw S).ld (q:=7) (x:=iV 10000) rfl;have N3:=((m.nw S).nw c3).ldN (n:=9) rfl;obtain⟨bx,y⟩:∃bx:Bx,bx={id:=1,name:=jA,par:=0,valid:=1,next:=1,mod:=1}:=⟨_,rfl⟩
 have BB:∀g,bU [(Y U 0),(H []),(Y U 0),(Y U 0),(Y U 0),(Y U 0)] [(0,1,(Y U 1)),(1,1,(H [73,78,66,79,88])),(3,1,(Y U 1)),(4,1,(Y U 1)),(5,1,(Y U 1))] g=D (.agg (V.ofList (gB bx))) g:=λg=>by rw[y];rfl
 obtain⟨d,u⟩:∃d,d=b.new (O (N tBx true) (gB bx)):=⟨_,rfl⟩
 have B4:bJ tBx [(Y U 0),(H []),(Y U 0),(Y U 0),(Y U 0),(Y U 0)] 1 [(0,6,.agg (V.ofList (gB bx)))] b=D (.slice b.next 0 1 (.kn 1)) d:=by rw[u,y];rfl
 have c4:Nw b d:=by rw[u];exact Nw.new _ _
 have k4:Kn d b.next (O (N tBx true) (gB bx)):=by rw[u];exact Kn.new _ _
 have n4:d.next.nat=b.next.nat+1:=by rw[u,bI]
 obtain⟨p,v⟩:∃p,p=d.new (O (N tSt true) (zQ++ [iV 0,.slice b.next 0 1 (.kn 1),.aO,X a.next 0,iV 1,iV 0,iV 0])):=⟨_,rfl⟩
 have B5:∀g,bU zSt [(0,9,.agg (V.ofList zQ)),(10,1,.slice b.next 0 1 (.kn 1)),(12,1,X a.next 0),(13,1,(Y U 1))] g=D (.agg (V.ofList (zQ++ [iV 0,.slice b.next 0 1 (.kn 1),.aO,X a.next 0,iV 1,iV 0,iV 0]))) g:=λg=>rfl;have X5:fO tSt (.agg (V.ofList (zQ++ [iV 0,.slice b.next 0 1 (.kn 1),.aO,X a.next 0,iV 1,iV 0,iV 0]))) d=D (X d.next 0) p:=by rw[v];rfl
 have k5:Kn p d.next (O (N tSt true) (zQ++ [iV 0,.slice b.next 0 1 (.kn 1),.aO,X a.next 0,iV 1,iV 0,iV 0])):=by rw[v];exact Kn.new _ _
 have W:Nw d p:=by rw[v];exact Nw.new _ _
 have n5:p.next.nat=d.next.nat+1:=by rw[v,bI]
 obtain⟨u6,e6⟩:=Jo (n:=1) k5 (q:=9) (by simp);obtain⟨w,z⟩:∃w,w=p.put d.next (some (O (N tSt true) (stC aAN b.next (.kn 1) .aO a.next))):=⟨_,rfl⟩
 have Z:mQ [X d.next 9,Y U 1] p=D u6 w:=by rw[z];exact e6
 have k6:Kn w d.next (O (N tSt true) (stC aAN b.next (.kn 1) .aO a.next)):=by rw[z];exact k5.put _
 have P:Ch (λj=>j=d.next) p w:=by rw[z];exact Ch.put _ _ rfl
 have C:Nw h w:=((((c1.trans S).trans c3).trans c4).trans W).then P λj hj e=>by rw[e]at hj;omega
 have M:∀(i j:Pos),i.nat≠j.nat->i≠j:=λi j hn e=>hn (congrArg Pos.nat e);refine⟨d.next,w,(λj=>j=d.next\/j=a.next\/j=b.next),a.next,b.next,.kn 1,true,?_,?_,C,?_⟩
 ·rw[axx]
  suffices T:aW Tryz.prog [.tmp 2,.tmp 3] (λr h'=>r=.tuple (.cons (X d.next 0) (.cons (iV 0) .nil))/\h'=w) (abf (T.set (some (.agg (V.ofList zQ))) (i! 0) T.nil) h) by
   obtain⟨r,h',e,rfl,rfl⟩:=T;exact e
  have rl:aZ 2 (.slice f.next 0 7 (.kn 7)) a=D (Y U 7) a:=r2.len a;simp(disch:=omega)only[vvB,seval,abf,ana,am9,am8,V.bW,<-I,L0,L1,L2,L3,L4,L5,L6,L7,L8,T1,T2,B2,rl];refine Oc.then (dK (σ:=Unit) (n:=7) (pi:=35) (pn:=34) (pc:=36) [1,33] (λ_=> [X h.next 0,.slice f.next 0 7 (.kn 7)]) (λk _ g=>g=a)
   (A:=λfr g=>fr.get (i! 1)=some (X h.next 0)/\g=a) (B:=λ_ _=>False) (s:=())
   (λfr h _ k e1 e2=>by simp only[vvB,seval,am7,e1,e2]) (λfr h k _ e1=>by simp(disch:=omega)only[vvB,seval,am4,e1]) (by decide) (by rw[dO];omega) (qK1) (qK1) (by simp only[Fa,vvB,seval,and_self]) rfl ?_ ?_) ?_ ?_
  ·intro k _ fr g hk G aa fa hI;obtain⟨f1,E,-⟩:=fa;subst hI;obtain⟨x,hx⟩:∃x,aoC[k]?=some x:=⟨_,v! (show k<aoC.length from hk)⟩
   obtain⟨i,q,cs,ix,ex,-,-,-,ld,-⟩:=r2.elt hx;obtain rfl:cs=fH x:=ex;have L:=ld g rfl 0 (iV x) rfl;rw[r!]at L;have hb:1<=x/\x<=2147483647:=by
    have:∀x∈aoC,1<=x/\x<=2147483647:=by decide
    exact this x (z! hx)
   have ab:(x<1)=False:=eq_false (by omega);have ac:(x>2147483647)=False:=eq_false (by omega);simp(disch:=omega)only[vvB,seval,am6,am5,E,G,ix,L,ab,ac];exact⟨qK2 G,qK2 aa,(),by simp only[Fa,vvB,seval,f1,E,and_self],rfl⟩
  ·intro _ fr g fa hI;exact⟨fa.1,hI⟩
  ·rintro fr g ⟨f1,rfl⟩;simp(disch:=omega)only[vvB,seval,am3,aiA,aiz,aiy,f1,Q,eL,N3,BB,B4,B5,X5,Z];exact aW.ret (qT0) ⟨rfl,rfl⟩
  ·intro fr g q;exact q.elim
 ·have hb:aAN.boxes= [bx]:=by rw[y];rfl
  refine⟨k6,(((k3.nw c4).nw W).ch P (M _ _ (by omega))),?_,?_,⟨[],.nil,λ_ q=>(by cases q),.inl ⟨rfl,rfl⟩⟩,dA.nil _ _ _ _ _ _,⟨M _ _ (by omega),M _ _ (by omega),M _ _ (by omega)⟩,λj e=>(by cases e),λj e=>(by cases e),λj e=>e.elim,⟨.inl rfl,.inr (.inl rfl),.inr (.inr rfl),λj e=>(by cases e),λj e=>(by cases e)⟩,?_,λ_=>rfl⟩
  ·rw[hb];have:=(k4.nw W).ch P (M _ _ (by omega));simpa using this
  ·intro i o n c e;cases e;exact l! _
  ·intro j q;have n6:=P.next;rcases q with rfl|rfl|rfl<;>omega
 ·intro j q;rcases q with rfl|rfl|rfl<;>omega
end
end Go.Proofs.Im
namespace Go.Im
def bxF(k:Nat):Bx:={id:=1,name:=jA,par:=0,valid:=1,next:=(k:Int)+1,mod:=(k:Int)+1}
def mlF(i:Nat):Ml:={id:=(i:Int)+1,thread:=(i:Int)+1,text:= [],at_:=(i:Int),keys:= [],mem:= [(1,(i:Int)+1)],mod:=(i:Int)+2,born:=(i:Int)+2}
def Kv(i:Nat):List En:= [lJ ((i:Int)+2) 1,{mod:=(i:Int)+2,kind:=2,id:=(i:Int)+1,how:=1},{mod:=(i:Int)+2,kind:=3,id:=(i:Int)+1,how:=1}]
def fB(k:Nat):Acc:={clock:=(k:Int)+1,boxes:= [bxF k],mails:=(d! k).map mlF,ents:=(d! k).flatMap Kv,floor:=0,lastBox:=1,lastId:=(k:Int),octets:=0}
theorem aA3(k:Nat):Ro (fB k) (bxF k) (k:Int)=fB (k+1):=by
 have a:((k:Int)+1+1)=((k+1:Nat):Int)+1:=by omega
 have d:((k:Int)+1+1)=(k:Int)+2:=by omega
 unfold Ro fB;simp only[t!,List.map_append,o!,List.map_cons,List.map_nil,List.flatMap_cons,List.flatMap_nil,F!];have hb:kF ((k:Int)+1+1) [(bxF k).id] (updB (bxF k).id (λb=>{b with next:=b.next+1}) [bxF k])= [bxF (k+1)]:=by
  simp only[kF,updB,bxF,↓reduceIte];congr 1
 have c:aoz {clock:=(k:Int)+1,boxes:= [bxF k],mails:=(d! k).map mlF,ents:=(d! k).flatMap Kv,floor:=0,lastBox:=1,lastId:=(k:Int),octets:=0} (bxF k) (k:Int)=mlF k:=by
  simp only[aoz,mlF,bxF,Ml.mk.injEq,true_and];omega
 rw[hb,c,a];simp only[Acc.mk.injEq,true_and,and_true];refine⟨?_,by omega⟩;congr 1;all_goals simp only[Kv,lJ,bxF,List.cons_append,D!,List.cons.injEq,En.mk.injEq,and_true,true_and]
 try omega
theorem awH{k:Nat}(c:k<=100):(fB k).Small:=by
 refine⟨?_,?_,?_,?_,?_⟩
 ·show 0<=(k:Int)+1/\(k:Int)+1<1000000;omega
 ·show 0< [bxF k].length/\ [bxF k].length<=1000;simp
 ·show((d! k).map mlF).length<=1000;simp;omega
 ·show((d! k).flatMap Kv).length<=9000;have:∀n,((d! n).flatMap Kv).length=3*n:=λn=>by
   induction n with
   |zero=>rfl
   |succ n b=>rw[t!,o!,h!,b];simp[Kv];omega
  rw[this];omega
 ·intro m a;obtain⟨i,_,rfl⟩:=p!.1 a;exact⟨by simp[mlF],by simp[mlF]⟩
theorem aaw(n:Nat):((d! n).flatMap Kv).length=3*n:=by
 induction n with
 |zero=>rfl
 |succ n a=>rw[t!,o!,h!,a];simp[Kv];omega
theorem SV(k:Nat):(fB k).Logged:=⟨λe a=>by
 obtain⟨i,hi,a⟩:=List.mem_flatMap.1 a;have:=List.mem_range.1 hi;show e.mod<=(k:Int)+1;simp only[Kv,lJ,u!,C!,or_false]at a;rcases a with rfl|rfl|rfl<;>simp only[]<;>omega⟩
theorem aCL{k:Nat}(a:k<=100):CanApp (fB k) 0 (bxF k) where
 small:=awH a
 logged:=SV k
 at_:=rfl
 find:=by
  show [bxF k].findIdx? (λx=>decide (x.id=(bxF k).id))=some 0;simp[bxF]
 next:=by show 0<=(k:Int)+1/\(k:Int)+1<=900000;omega
 clock:=by show(k:Int)+1<900000;omega
 lastId:=by show 0<=(k:Int)/\(k:Int)<900000;omega
 ents:=by show((d! k).flatMap Kv).length<=8000;rw[aaw];omega
 mails:=by show((d! k).map mlF).length<=900;simp;omega
 oct:=by show(0:Int)<=0/\(0:Int)<=1000;omega
end Go.Im
namespace Go.Proofs.Im
section
variable{h h' g:Hp}{P F I:Pos->Prop}{ps pl ib cp i:Pos}{A B:Acc}{cb:Cap}{fb only:Bool}{v vm vl:V}{id:Int}{k n:Nat}
theorem aGC(x:V)(h:Hp):abP [x] h=D x h:=by
 rw[axD];simp only[vvB,seval,akT,ant,anr];simp only[aU,cO,vvB,seval,dn]
theorem aEI(r:Rws P (flat fF) 1 h v (G! n []))(hn:n<=100):
  ∃ps h' F pl ib cb fb vm vl I,MF [v] h=D (X ps 0) h'/\dJ h' F ps (fB n) pl ib cb fb vm vl I/\Nw h h'/\∀j,F j->h.next.nat<=j.nat:=by
 obtain⟨h1,e1,G⟩:=aD4 h;obtain⟨ps,h2,F,pl,ib,cb,fb,e2,a2,J,f2⟩:=aGy h1;have u:=G.trans J;have n1:=G.next;have n2:=J.next;have y:=r.len;rw[List.length_replicate]at y;have e3:=aGC (iV 0) h2;rw[apP]
 suffices T:aW Tryz.prog [.tmp 2] (λz h'=>z=X ps 0/\∃F pl ib cb fb vm vl I,dJ h' F ps (fB n) pl ib cb fb vm vl I/\Nw h h'/\∀j,F j->h.next.nat<=j.nat) (LW (T.set (some v) (i! 0) T.nil) h) by
  obtain⟨z,h',e,rfl,F,pl,ib,cb,fb,vm,vl,I,q⟩:=T;exact⟨ps,h',F,pl,ib,cb,fb,vm,vl,I,e,q⟩
 simp(disch:=omega)only[vvB,seval,LW,adb,ada,ac9,ac8,e1,e2,e3,fD];refine Oc.then (dW (n:=n) (λt fr g=>∃(k:Nat) (F:Pos->Prop) (pl ib:Pos) (cb:Cap) (fb:Bool) (vm vl:V) (I:Pos->Prop),fr.get (i! 0)=some v/\fr.get (i! 3)=some (X ps 0)/\fr.get (i! 5)=some (Y U (k:Int))/\k+t=n/\dJ g F ps (fB k) pl ib cb fb vm vl I/\dA 0 I kH tMl 8 g vm (fB k).mails/\Nw h g/\∀j,F j->h.next.nat<=j.nat)
  (A:=λfr g=>fr.get (i! 3)=some (X ps 0)/\∃(F:Pos->Prop) (pl ib:Pos) (cb:Cap) (fb:Bool) (vm vl:V) (I:Pos->Prop),dJ g F ps (fB n) pl ib cb fb vm vl I/\Nw h g/\∀j,F j->h.next.nat<=j.nat) (B:=λ_ _=>False) (by rw[dO];omega) ?_ ?_) ?_ ?_
 ·exact⟨0,F,pl,ib,cb,fb,.aO,.aO,_,qK0,qK0,qK1,by omega,a2,dA.nil _ _ _ _ _ _,u,λj q=>by have:=f2 j q;omega⟩
 ·rintro t fr g ⟨k,F,pl,ib,cb,fb,vm,vl,I,f0,f3,L,hk,a,o,c,p⟩;by_cases hz:t=0
  ·have m:k=n:=by omega
   subst m;simp(disch:=omega)only[vvB,seval,Po,OE,f0,L,y];exact⟨rfl,qK2 f3,F,pl,ib,cb,fb,vm,vl,I,a,c,p⟩
  ·have m:k<n:=by omega
   obtain⟨d,f⟩:∃d,d=g.new (O (N fZ true) [iV 1]):=⟨_,rfl⟩
   have b:Nw g d:=by rw[f];exact Nw.new _ _
   have k2:Kn d g.next (O (N fZ true) ([(1:Int)].map fH).flatten):=by rw[f];exact Kn.new _ _
   have r2:Rws (λj=>j=g.next) (flat fH) 1 d (.slice g.next 0 1 (.kn 1)) [(bxF k).id]:=Kn.rws (c:=fH) (l:= [(1:Int)]) (cp:=.kn 1) (sz:=1) k2 (λ_=>rfl) (λ_ _ _ _ e=>by cases e;exact l! _);have Q:bJ fZ [(Y U 0)] 1 [(0,1,Y U 1)] g=D (.slice g.next 0 1 (.kn 1)) d:=by rw[f];rfl
   obtain⟨i,q,cs,ix,ex,-,-,-,ld,-⟩:=(r.nw (aK _) (c.trans b)).elt (k:=k) (x:= []) (by rw[List.getElem?_replicate,if_pos m]);obtain rfl:cs=fF []:=ex;have s:=ld d rfl 0 (H []) rfl;rw[r!]at s;obtain⟨z,g3,S,E,C,W,e4,a3,M,Z,w⟩:=aw1 (a.nw b) (o.nw dB b) (aCL (by omega)) r2 (at_:=(k:Int)) (by omega);rw[aA3]at a3 M;have n3:=(c.trans b).next;simp(disch:=omega)only[vvB,seval,Po,OE,ac7,ac6,f0,f3,L,y,Q,ix,s,e4];exact⟨t - 1,by omega,k+1,S,pl,ib,cb,fb,E,C,W,qK2 f0,qK2 f3,qK1,by omega,a3,M,(c.trans b).then Z λj hj q=>by have:=p j q;omega,λj q=>(w j q).elim (p j) λl=>by omega⟩
 ·rintro fr g ⟨f3,F,pl,ib,cb,fb,vm,vl,I,a,c,p⟩;simp only[vvB,seval,ac5,f3];exact aW.ret (qT0) ⟨rfl,F,pl,ib,cb,fb,vm,vl,I,a,c,p⟩
 ·intro fr g q;exact q.elim
end
end Go.Proofs.Im
namespace Go.Im
theorem jk{h:Hp}{p:Pos}{s:List Nat}{v:V}{es a:List (V×V)}(c:p=h.next)(b:ajY (H s) v es=some a):gU .string (.map p) (H s) v (h.new (.map es))=D V.undef (h.new (.map a)):=by
 subst c;show wQ (.map h.next) (H s) v (h.new (.map es))=_;simp only[wQ,dX,b,aoy]
theorem aLA(n:Nat)(x:V)(h:Hp):fC (.func n) [x] [] h=D (.func (.func n) (.cons x .nil) .nil) h:=(rfl)
theorem aN7(g:Nat)(x:V)(n:Int)(u:Bool)(h:Hp):bU [.iH,(Y U 0),(K false)] [(0,1,.func (.func g) (.cons x .nil) .nil),(1,1,(Y U n)),(2,1,(K u))] h=D (.agg (.cons (.func (.func g) (.cons x .nil) .nil) (.cons (Y U n) (.cons (K u) .nil)))) h:=(rfl)
end Go.Im
namespace Go.Proofs.Im
section
variable{h h':Hp}{F I:Pos->Prop}{ps pl ib p pc im:Pos}{A:Acc}{cb:Cap}{fb only:Bool}{vm vl vw:V}{f:Nat}{st:Sn}
theorem aGW(h:Hp):∃pc im h',aB1 [] h=D (X pc 0) h'/\Kn h' pc (O (N tCn true) [K false,.bY,K false,iV 0,.map im])/\Kn h' im (.map (iw pc))/\pc≠im/\Nw h h'/\h.next.nat<=pc.nat/\h.next.nat<=im.nat:=by
 obtain⟨pc,c⟩:∃pc,pc=h.next:=⟨_,rfl⟩
 obtain⟨a,g,Q,-⟩:=mkW h (O (N tCn true) [K false,.bY,K false,iV 0,.jW]);have W:Kn a pc (O (N tCn true) [K false,.bY,K false,iV 0,.jW]):=by rw[g,c];exact Kn.new _ _
 have n1:a.next.nat=h.next.nat+1:=by rw[g,bI]
 have J:bU [(K false),.bY,(K false),(Y U 0),.jW] [] h=D (.agg (V.ofList [K false,.bY,K false,iV 0,.jW])) h:=rfl;have P:fO tCn (.agg (V.ofList [K false,.bY,K false,iV 0,.jW])) h=D (X pc 0) a:=by rw[g,c];rfl
 obtain⟨p,b⟩:∃p,p=a.next:=⟨_,rfl⟩
 have L:ZY a=D (.map p) (a.new (.map [])):=by rw[b];rfl
 have m0:gU .string (.map p) (H [99,97,112,97,98,105,108,105,116,121]) (.agg (.cons (.func (.func aLk) (.cons (X pc 0) .nil) .nil) (.cons (Y U 0) (.cons (K false) .nil)))) (a.new (.map []))=D V.undef (a.new (.map (a! 1 (iw pc)))):=jk b rfl;have m1:gU .string (.map p) (H [110,111,111,112]) (.agg (.cons (.func (.func aAg) (.cons (X pc 0) .nil) .nil) (.cons (Y U 0) (.cons (K false) .nil)))) (a.new (.map (a! 1 (iw pc))))=D V.undef (a.new (.map (a! 2 (iw pc)))):=jk b rfl;have m2:gU .string (.map p) (H [108,111,103,111,117,116]) (.agg (.cons (.func (.func aLj) (.cons (X pc 0) .nil) .nil) (.cons (Y U 0) (.cons (K false) .nil)))) (a.new (.map (a! 2 (iw pc))))=D V.undef (a.new (.map (a! 3 (iw pc)))):=jk b rfl;have m3:gU .string (.map p) (H [108,111,103,105,110]) (.agg (.cons (.func (.func aEU) (.cons (X pc 0) .nil) .nil) (.cons (Y U 1) (.cons (K false) .nil)))) (a.new (.map (a! 3 (iw pc))))=D V.undef (a.new (.map (a! 4 (iw pc)))):=jk b rfl;have m4:gU .string (.map p) (H [115,101,108,101,99,116]) (.agg (.cons (.func (.func ajS) (.cons (X pc 0) .nil) .nil) (.cons (Y U 2) (.cons (K false) .nil)))) (a.new (.map (a! 4 (iw pc))))=D V.undef (a.new (.map (a! 5 (iw pc)))):=jk b rfl;have m5:gU .string (.map p) (H [101,120,97,109,105,110,101]) (.agg (.cons (.func (.func ahF) (.cons (X pc 0) .nil) .nil) (.cons (Y U 2) (.cons (K false) .nil)))) (a.new (.map (a! 5 (iw pc))))=D V.undef (a.new (.map (a! 6 (iw pc)))):=jk b rfl;have m6:gU .string (.map p) (H [99,114,101,97,116,101]) (.agg (.cons (.func (.func alk) (.cons (X pc 0) .nil) .nil) (.cons (Y U 2) (.cons (K false) .nil)))) (a.new (.map (a! 6 (iw pc))))=D V.undef (a.new (.map (a! 7 (iw pc)))):=jk b rfl;have m7:gU .string (.map p) (H [100,101,108,101,116,101]) (.agg (.cons (.func (.func asw) (.cons (X pc 0) .nil) .nil) (.cons (Y U 2) (.cons (K false) .nil)))) (a.new (.map (a! 7 (iw pc))))=D V.undef (a.new (.map (a! 8 (iw pc)))):=jk b rfl;have m8:gU .string (.map p) (H [114,101,110,97,109,101]) (.agg (.cons (.func (.func ali) (.cons (X pc 0) .nil) .nil) (.cons (Y U 2) (.cons (K false) .nil)))) (a.new (.map (a! 8 (iw pc))))=D V.undef (a.new (.map (a! 9 (iw pc)))):=jk b rfl;have m9:gU .string (.map p) (H [108,105,115,116]) (.agg (.cons (.func (.func asv) (.cons (X pc 0) .nil) .nil) (.cons (Y U 2) (.cons (K false) .nil)))) (a.new (.map (a! 9 (iw pc))))=D V.undef (a.new (.map (a! 10 (iw pc)))):=jk b rfl;have s:gU .string (.map p) (H [115,116,97,116,117,115]) (.agg (.cons (.func (.func alg) (.cons (X pc 0) .nil) .nil) (.cons (Y U 2) (.cons (K false) .nil)))) (a.new (.map (a! 10 (iw pc))))=D V.undef (a.new (.map (a! 11 (iw pc)))):=jk b rfl;have t:gU .string (.map p) (H [97,112,112,101,110,100]) (.agg (.cons (.func (.func alm) (.cons (X pc 0) .nil) .nil) (.cons (Y U 2) (.cons (K false) .nil)))) (a.new (.map (a! 11 (iw pc))))=D V.undef (a.new (.map (a! 12 (iw pc)))):=jk b rfl;have u:gU .string (.map p) (H [99,104,101,99,107]) (.agg (.cons (.func (.func aAg) (.cons (X pc 0) .nil) .nil) (.cons (Y U 3) (.cons (K false) .nil)))) (a.new (.map (a! 12 (iw pc))))=D V.undef (a.new (.map (a! 13 (iw pc)))):=jk b rfl;have v:gU .string (.map p) (H [99,108,111,115,101]) (.agg (.cons (.func (.func ap6) (.cons (X pc 0) .nil) .nil) (.cons (Y U 3) (.cons (K false) .nil)))) (a.new (.map (a! 13 (iw pc))))=D V.undef (a.new (.map (a! 14 (iw pc)))):=jk b rfl;have w:gU .string (.map p) (H [101,120,112,117,110,103,101]) (.agg (.cons (.func (.func ahE) (.cons (X pc 0) .nil) .nil) (.cons (Y U 3) (.cons (K true) .nil)))) (a.new (.map (a! 14 (iw pc))))=D V.undef (a.new (.map (a! 15 (iw pc)))):=jk b rfl;have x:gU .string (.map p) (H [115,101,97,114,99,104]) (.agg (.cons (.func (.func alh) (.cons (X pc 0) .nil) .nil) (.cons (Y U 3) (.cons (K true) .nil)))) (a.new (.map (a! 15 (iw pc))))=D V.undef (a.new (.map (a! 16 (iw pc)))):=jk b rfl;have y:gU .string (.map p) (H [102,101,116,99,104]) (.agg (.cons (.func (.func ap5) (.cons (X pc 0) .nil) .nil) (.cons (Y U 3) (.cons (K true) .nil)))) (a.new (.map (a! 16 (iw pc))))=D V.undef (a.new (.map (a! 17 (iw pc)))):=jk b rfl;have z:gU .string (.map p) (H [115,116,111,114,101]) (.agg (.cons (.func (.func UR) (.cons (X pc 0) .nil) .nil) (.cons (Y U 3) (.cons (K true) .nil)))) (a.new (.map (a! 17 (iw pc))))=D V.undef (a.new (.map (a! 18 (iw pc)))):=jk b rfl;have B:gU .string (.map p) (H [99,111,112,121]) (.agg (.cons (.func (.func asx) (.cons (X pc 0) .nil) .nil) (.cons (Y U 3) (.cons (K true) .nil)))) (a.new (.map (a! 18 (iw pc))))=D V.undef (a.new (.map (a! 19 (iw pc)))):=jk b rfl;have C:gU .string (.map p) (H [109,111,118,101]) (.agg (.cons (.func (.func asu) (.cons (X pc 0) .nil) .nil) (.cons (Y U 3) (.cons (K true) .nil)))) (a.new (.map (a! 19 (iw pc))))=D V.undef (a.new (.map (a! 20 (iw pc)))):=jk b rfl;have o:a! 20 (iw pc)=iw pc:=rfl;obtain⟨d,i⟩:∃d,d=a.new (.map (a! 20 (iw pc))):=⟨_,rfl⟩
 have Z:Kn d p (.map (iw pc)):=by rw[i,b,o];exact Kn.new _ _
 have E:Nw a d:=by rw[i];exact Nw.new _ _
 have n:=W.nw E;obtain⟨l,k⟩:∃l,l=d.put pc (some (O (N tCn true) [K false,.bY,K false,iV 0,.map p])):=⟨_,rfl⟩
 have M:aQ 1 (X pc 4) (.map p) d=D V.undef l:=by rw[k];exact n.st (q:=4) ⟨rfl,rfl⟩ (by simp)
 have r:aQ 1 (X pc 4) (.map p) (a.new (.map (a! 20 (iw pc))))=D V.undef l:=by rw[<-i];exact M
 have m:pc≠p:=λe=>by rw[c,b]at e;have:=congrArg Pos.nat e;omega
 have G:Ch (λj=>j=pc) d l:=by rw[k];exact Ch.put _ _ rfl
 refine⟨pc,p,l,?_,by rw[k];exact n.put _,Z.ch G λe=>m e.symm,m,(Q.trans E).then G λj S e=>by rw[e,c]at S;omega,by rw[c];omega,by rw[b];omega⟩;rw[aLd];simp only[vvB,seval,aGG,aEc,aEb,aEa,aD9,J,P,L,aLA,aN7,m0,m1,m2,m3,m4,m5,m6,m7,m8,m9,s,t,u,v,w,x,y,z,B,C,r];simp only[aU,cO,vvB,seval,dn]
theorem dJ.world(a:dJ h F ps A pl ib cb fb vm vl I)(d:Kn h pc (O (N tCn true) [K false,.bY,K false,iV 0,.map im]))(e:Kn h im (.map (iw pc)))(b:pc≠im)(c:∀j,F j->j≠pc/\j≠im):
  World h pc im ps {acc:=A,inn:=false,only:=false,cnt:=0,vw:=none} F (λ_=>False) pl ib cb fb vm vl .bY I:=
 ⟨a,d,e,⟨rfl,λ_ q=>q⟩,b,λj f=>⟨λq=>q,c j f⟩,λ_ q=>q.elim⟩
end
end Go.Proofs.Im
namespace Go.Im
def atX:Ln.Got:=⟨1,(.cons 1 [97] .nil (.cons 1 [76,79,71,73,78] .nil (.cons 1 [117] .nil (.cons 1 [112] .nil .nil))))⟩
def aoM:Ln.Got:=⟨1,(.cons 1 [98] .nil (.cons 1 [83,69,76,69,67,84] .nil (.cons 1 [73,78,66,79,88] .nil .nil)))⟩
end Go.Im
namespace Go.Proofs.Im
theorem aFE:(aan Ik.flA)= [atX,aoM]:=kR
section
variable{bb:Nat}{h h' g h0:Hp}{P F I J Z:Pos->Prop}{ps pl ib p ir pc im:Pos}{A:Acc}{cb:Cap}{fb only u last bare:Bool}{vm vl vv vw:V}{id:Int}{k f n:Nat}{b:Bx}{st:Sn}
theorem alT{l:List Nat}(h:(l.all λy=>J! y 256)=true):∀y∈l,y<256:=λy a=>by
 have:=List.all_eq_true.1 h y a;simpa[Nat.blt_eq]using this
theorem aBi{n:Nat}{a b c:Int}(w:n<100)(z:0<=a/\a<100)(hb:0<=b/\b<100)(i:0<=c/\c<100):(qp n a b c).length<=1000/\∀x∈qp n a b c,x<256:=by
 have o:=je w;have r:=je (n:=a.toNat) (by omega);have s:=je (n:=b.toNat) (by omega);have v:=je (n:=c.toNat) (by omega);have one:∀(p d:List Nat),(p.all λy=>J! y 256)=true->(∀c∈d,c<256)->∀t∈ [p++d++ [93]],∀c∈t,c<256:=λp d m hd t j c i=>by
  simp only[A!]at j;subst j;rcases c!.1 i with q|q
  ·rcases c!.1 q with q|q
   ·exact alT m c q
   ·exact hd c q
  ·simp at q;omega
 have lit:∀(p:List Nat),(p.all λy=>J! y 256)=true->∀t∈ [p],∀c∈t,c<256:=λp m t j c i=>by
  simp only[A!]at j;subst j;exact alT m c i
 refine⟨by simp[qp,lineS,dV];omega,λx e=>?_⟩;unfold qp at e;rcases c!.1 e with q|e
 ·exact vU (lit _ (by decide)) x q
 rcases c!.1 e with q|e
 ·refine vU (λt j c i=>?_) x q;simp only[u!,C!,or_false]at j;rcases j with rfl|rfl|rfl
  ·exact alT (l:= [42]) (by decide) c i
  ·exact o.2.1 c i
  ·exact alT (l:=ag1) (by decide) c i
 rcases c!.1 e with q|e
 ·exact vU (lit _ (by decide)) x q
 rcases c!.1 e with q|e
 ·exact vU (one _ _ (by decide) r.2.1) x q
 rcases c!.1 e with q|e
 ·exact vU (one _ _ (by decide) s.2.1) x q
 ·exact vU (one _ _ (by decide) v.2.1) x e
theorem aAl(hi:st.inn=false)(a:st.vw=none)(d:0<=st.cnt/\st.cnt<1000):yj pc im ps atX st (okT [97] []) true {st with cnt:=st.cnt+1,inn:=true}:=by
 have:=yj.cmd (pc:=pc) (im:=im) (ps:=ps) (st:=st) (g:=atX) (x:=⟨1,[97],.nil⟩) (y:=⟨1,[76,79,71,73,78],.nil⟩) (kk:=0) (tx:= []) (last:=false) (bare:=false) (s2:= []) (st2:={st with cnt:=st.cnt+1,inn:=true}) rfl rfl rfl rfl rfl ⟨by decide,by decide⟩ ⟨by decide,by decide⟩ ⟨d.1,by omega⟩
  (Gz.of (n:=1) (f:=aEU) (u:=false) (by decide) rfl (.inr (.inl ⟨rfl,hi⟩)) (λbb ir vw P h0 Z h L F J pl ib cb fb vm vl vv I q=>by
   obtain⟨c,e,r⟩:=aBB q rfl rfl rfl;exact⟨c,e,r⟩) rfl) (.inl rfl) ⟨by simp,by simp⟩ ⟨by simp,by simp⟩ (λ_ _ ks e=>by rw[show({st with cnt:=st.cnt+1,inn:=true}:Sn).vw=st.vw from rfl,a]at e;cases e) (by simp[yE,okT,lineS,dV,Ox,a])
 have e1:yE 0 [97] [] [] false {st with cnt:=st.cnt+1,inn:=true}=okT [97] []:=by
  unfold yE;rw[if_neg (by decide),if_neg (by simp),show({st with cnt:=st.cnt+1,inn:=true}:Sn).vw=st.vw from rfl,a];rfl
 have e2:Kw 0 false {st with cnt:=st.cnt+1,inn:=true}={st with cnt:=st.cnt+1,inn:=true}:=by
  unfold Kw;rw[if_neg (by simp)];simp only[Sn.mk.injEq,true_and];rw[a];rfl
 rw[e1,e2]at this;exact this
theorem awr(hi:st.inn=true)(i:0<=st.cnt/\st.cnt<1000)(a:CanBox st.acc k b):yj pc im ps aoM st (qp (Wn st.acc.mails b.id).length b.valid b.next st.acc.clock++okT [98] rwS) true {st with cnt:=st.cnt+1,only:=false,vw:=some (dR st.acc b.id)}:=by
 have c:=aBi (n:=(Wn st.acc.mails b.id).length) (by have:=a.few;omega) a.valid a.next ⟨a.small.clock.1,a.clock⟩;have:=yj.cmd (pc:=pc) (im:=im) (ps:=ps) (st:=st) (g:=aoM) (x:=⟨1,[98],.nil⟩) (y:=⟨1,[83,69,76,69,67,84],.nil⟩) (kk:=0) (tx:=rwS) (last:=false) (bare:=true) (s2:=qp (Wn st.acc.mails b.id).length b.valid b.next st.acc.clock) (st2:={st with cnt:=st.cnt+1,only:=false,vw:=some (dR st.acc b.id)}) rfl rfl rfl rfl rfl ⟨by decide,by decide⟩ ⟨by decide,by decide⟩ ⟨i.1,by omega⟩
  (Gz.of (n:=2) (f:=ajS) (u:=false) (by decide) rfl (.inr (.inr (.inl ⟨rfl,hi⟩))) (λbb ir vw P h0 Z h L F J pl ib cb fb vm vl vv I q=>by
   obtain⟨d,e,r⟩:=aD5 q rfl rfl rfl a (by simp);exact⟨d,e,r⟩) rfl) (.inl rfl) ⟨by decide,by decide⟩ ⟨by omega,c.2⟩ (λ_ e=>by cases e) (by simp[yE,okT,lineS,dV];omega)
 have e1:yE 0 [98] rwS (qp (Wn st.acc.mails b.id).length b.valid b.next st.acc.clock) true {st with cnt:=st.cnt+1,only:=false,vw:=some (dR st.acc b.id)}=qp (Wn st.acc.mails b.id).length b.valid b.next st.acc.clock++okT [98] rwS:=by
  unfold yE;rw[if_neg (by decide),if_pos rfl]
 have e2:Kw 0 true ({st with cnt:=st.cnt+1,only:=false,vw:=some (dR st.acc b.id)}:Sn)={st with cnt:=st.cnt+1,only:=false,vw:=some (dR st.acc b.id)}:=by
  unfold Kw;rw[if_pos (.inr rfl)]
 rw[e1,e2]at this;exact this
theorem aOf(a:dJ h F ps A pl ib cb fb vm vl I)(C:CanBox A k b)(hG:Ik.aJ<=h.next.nat):
  ∃pc im h',ahm [X ps 0] h=D (X pc 0) h'/\WE h F h' pc im ps {acc:=A,inn:=true,only:=false,cnt:=2,vw:=some (dR A b.id)}/\h.next.nat<=pc.nat:=by
 obtain⟨pc,im,W,e1,G,L,l,c,l1,M⟩:=aGW h;have a1:=a.nw c;have Q:=a1.world G L l λj f=>⟨λe=>by have:=a.lt j f;rw[e]at this;omega,λe=>by have:=a.lt j f;rw[e]at this;omega⟩
 obtain⟨t,E⟩:∃t,Alls pc im ps (aan Ik.flA) {acc:=A,inn:=false,only:=false,cnt:=0,vw:=none} t {acc:=A,inn:=true,only:=false,cnt:=2,vw:=some (dR A b.id)}:=by
  rw[aFE];exact⟨_,.go (aAl rfl rfl ⟨by simp,by simp⟩) (.go (awr (st:={acc:=A,inn:=true,only:=false,cnt:=1,vw:=none}) rfl ⟨by simp,by simp⟩ C) (.nil _))⟩
 obtain⟨B,e2,w,y,o,m,d,i,s,r,v,x,S,f2,z⟩:=aEM Q (by have:=c.next;omega) aN2 E;refine⟨pc,im,B,?_,⟨w,y,o,m,d,i,s,r,v,x,S,λj f=>?_,?_⟩,l1⟩
 ·rw[aB0];simp only[vvB,seval,apz,aqL,aqK,aqJ,aqI,e1,e2];simp only[aU,cO,vvB,seval,dn]
 ·have n1:=c.next;rcases f2 j f with(q|q|rfl|rfl)|q
  ·exact .inl q
  ·exact q.elim
  ·exact .inr l1
  ·exact .inr M
  ·exact .inr (by omega)
 ·exact c.ch.trans z λj hj f=>by
   rcases f with q|q|rfl|rfl
   ·exact q
   ·exact q.elim
   ·omega
   ·omega
end
end Go.Proofs.Im
namespace Go.Im
structure Em where
 i:Nat
 mark:Bool
 mod:Int
def mkE(e:Em):Ml:={mlF e.i with keys:=if e.mark=true then [wY] else [],mod:=e.mod}
structure DAcc (A:Acc) (l:List Em):Prop where
 clock:0<=A.clock/\A.clock<90
 ents:(A.ents.length:Int)<=3*A.clock
 mods:∀e∈A.ents,e.mod<=A.clock
 boxes:∃nx md:Int,0<=nx/\nx<90/\A.boxes= [{id:=1,name:=jA,par:=0,valid:=1,next:=nx,mod:=md}]
 mails:A.mails=l.map mkE
 ord:l.Pairwise λa b=>a.i<b.i
 few:l.length<=20
 oct:A.octets=0
theorem yA(e:Em):(mkE e).mem= [(1,(e.i:Int)+1)]:=rfl
theorem aLZ(l:List Em):Wn (l.map mkE) 1=l.map λe=>((e.i:Int)+1,mkE e):=by
 induction l with
 |nil=>rfl
 |cons e l a=>
  have:Wn ((e::l).map mkE) 1=((mkE e).mem.filter λx=>decide (x.1=1)).map (λx=>(x.2,mkE e))++Wn (l.map mkE) 1:=rfl;rw[this,a];rfl
theorem aao{α:Type}{f:α->Nat}{l:List α}(k:l.Pairwise λa b=>f a<f b){t:Nat}{x:α}(d:l[t]?=some x):∀{p:α->Bool},(∀y,p y=decide (f y=f x))->l.findIdx? p=some t/\l.find? p=some x:=by
 intro p g;have h:=(e!.1 d).1;have c:=(e!.1 d).2;have e:l.findIdx? p=some t:=by
  rw[List.findIdx?_eq_some_iff_getElem];refine⟨h,by rw[g,c];simp,λj i=>?_⟩;rw[g];have:=List.pairwise_iff_getElem.1 k j t (by omega) h i
  rw[c]at this;simp;omega
 exact⟨e,by rw[Kt,e];exact d⟩
theorem List.MQ{α:Type}{p q:α->Bool}:∀{l:List α},(∀x∈l,p x=q x)->l.findIdx? p=l.findIdx? q
 | [],_=>rfl
 |a::l,h=>by
  rw[B!,B!,h a (by simp),List.MQ λx b=>h x (by simp[b])]
theorem List.Gp{α:Type}{p q:α->Bool}:∀{l:List α},(∀x∈l,p x=q x)->l.find? p=l.find? q
 | [],_=>rfl
 |a::l,h=>by
  rw[E!,E!,h a (by simp),List.Gp λx b=>h x (by simp[b])]
end Go.Im
namespace Go.Im.DAcc
section
variable{A:Acc}{l:List Em}
theorem len(d:DAcc A l):A.mails.length=l.length:=by rw[d.mails,j!]
theorem small(d:DAcc A l):A.Small:=by
 obtain⟨nx,md,-,-,hb⟩:=d.boxes;refine⟨by have:=d.clock;omega,by rw[hb];simp,by rw[d.len];have:=d.few;omega,by have:=d.ents;have:=d.clock;omega,λm a=>?_⟩;rw[d.mails]at a;obtain⟨e,_,rfl⟩:=p!.1 a;refine⟨?_,by rw[yA];simp⟩;unfold mkE;simp only[];split<;>simp
theorem logged(d:DAcc A l):A.Logged:=⟨d.mods⟩
theorem inn(d:DAcc A l)(e:Em):(mkE e).In A:=by
 obtain⟨nx,md,-,-,hb⟩:=d.boxes;refine⟨by rw[yA];exact Gl ltI (by simp),λk x y _ b=>?_,λid a=>?_,by rw[yA];simp⟩
 ·rw[yA]at b;simp at b
 ·rw[yA]at a;simp at a;subst a;exact⟨0,by rw[hb];simp⟩
theorem find(d:DAcc A l){t:Nat}{e:Em}(k:l[t]?=some e):A.mails[t]?=some (mkE e)/\A.mails.findIdx? (λx=>decide (x.id=(mkE e).id))=some t/\A.mails.find? (λx=>decide (x.id=(mkE e).id))=some (mkE e):=by
 have m:A.mails.Pairwise λa b=>a.id.toNat<b.id.toNat:=by
  rw[d.mails,k!];exact d.ord.imp λ{a b} h=>by show((a.i:Int)+1).toNat<((b.i:Int)+1).toNat;omega
 have j:A.mails[t]?=some (mkE e):=by rw[d.mails,q!,k];rfl
 have c:∀x∈A.mails,0<x.id:=λx g=>by
  rw[d.mails]at g;obtain⟨y,_,rfl⟩:=p!.1 g;show 0<(y.i:Int)+1;omega
 have key:∀x∈A.mails,decide (x.id=(mkE e).id)=decide (x.id.toNat=(mkE e).id.toNat):=λx g=>by
  have n:=c x g;have o:=c _ (z! j);exact decide_eq_decide.2 ⟨λh=>by rw[h],λh=>by omega⟩
 have h:=aao (f:=λx:Ml=>x.id.toNat) m j (p:=λx=>decide (x.id.toNat=(mkE e).id.toNat)) (λy=>rfl);refine⟨j,?_,?_⟩
 ·rw[<-h.1];exact List.MQ key
 ·rw[<-h.2];exact List.Gp key
end
end Go.Im.DAcc
namespace Go.Im
def emF(i:Nat):Em:={i:=i,mark:=false,mod:=(i:Int)+2}
theorem aE3:DL [wY]=false:=by decide
end Go.Im
namespace Go.Im.DAcc
section
variable{A:Acc}{l:List Em}{t:Nat}{e:Em}
theorem fill{n:Nat}(a:n<=20):DAcc (fB n) ((d! n).map emF) where
 clock:=by show 0<=(n:Int)+1/\(n:Int)+1<90;omega
 ents:=by show(((d! n).flatMap Kv).length:Int)<=3*((n:Int)+1);rw[aaw];omega
 mods:=(SV n).mods
 boxes:=⟨(n:Int)+1,(n:Int)+1,by omega,by omega,rfl⟩
 mails:=by
  show(d! n).map mlF=((d! n).map emF).map mkE;rw[I!];rfl
 ord:=by rw[k!];exact List.pairwise_lt_range
 few:=by simpa using a
 oct:=rfl
theorem keys(d:DAcc A l)(m:l[t]?=some e)(p:e.mark=false)(q:A.clock<80):DAcc (UZ A t (mkE e) [wY]) (l.set t {e with mark:=true,mod:=A.clock+1}):=by
 have g:jH (mkE e) [wY]= []:=by
  unfold jH;have:DL (mkE e).keys=false:=by unfold mkE;rw[p];rfl
  rw[this,aE3,if_pos rfl]
 have j:(UZ A t (mkE e) [wY]).ents=A.ents++ [(⟨A.clock+1,2,(mkE e).id,2⟩:En)]:=by
  show A.ents++((jH (mkE e) [wY]).map (lJ (A.clock+1))++_)=_;rw[g];rfl
 have h:=(e!.1 m).1;refine⟨?_,?_,?_,?_,?_,?_,?_,d.oct⟩
 ·have:=d.clock;show 0<=A.clock+1/\A.clock+1<90;omega
 ·rw[j,h!];have:=d.ents;show((A.ents.length+1:Nat):Int)<=3*(A.clock+1);omega
 ·intro x c;rw[j,c!]at c;show x.mod<=A.clock+1;rcases c with c|c
  ·have:=d.mods x c;omega
  ·simp at c;rw[c];exact Int.le_refl _
 ·obtain⟨nx,md,n,o,hb⟩:=d.boxes;refine⟨nx,md,n,o,?_⟩;show kF (A.clock+1) (jH (mkE e) [wY]) A.boxes=_;rw[g];exact hb
 ·show A.mails.set t {mkE e with keys:= [wY],mod:=A.clock+1}=(l.set t {e with mark:=true,mod:=A.clock+1}).map mkE;rw[d.mails,H!];rfl
 ·have hi:(l.set t {e with mark:=true,mod:=A.clock+1}).map (·.i)=l.map (·.i):=by
   rw[H!];apply List.ext_getElem?;intro k;by_cases g:t=k
   ·subst g;rw[n! (by simpa using h),q!,m];rfl
   ·rw[b! g]
  have:=d.ord;rw[<-k! (f:=λx:Em=>x.i) (R:=λa b:Nat=>a<b)]at this⊢;rw[hi];exact this
 ·rw[List.length_set];exact d.few
theorem wn(d:DAcc A l):Wn A.mails 1=l.map λe=>((e.i:Int)+1,mkE e):=by rw[d.mails,aLZ]
theorem sorted(d:DAcc A l):(Wn A.mails 1).Pairwise λx y=>x.1<y.1:=by
 rw[d.wn,k!];exact d.ord.imp λ{a b} h=>by show((a.i:Int)+1)<((b.i:Int)+1);omega
theorem same(d:DAcc A l){a b:Em}(j:a∈l)(hb:b∈l)(h:a.i=b.i):a=b:=by
 obtain⟨t,k⟩:=x!.1 j;obtain⟨u,m⟩:=x!.1 hb;have g:=(aao (f:=λe:Em=>e.i) d.ord k (p:=λy=>decide (y.i=a.i)) (λ_=>rfl)).2;have c:=(aao (f:=λe:Em=>e.i) d.ord m (p:=λy=>decide (y.i=a.i)) (λy=>by rw[h])).2;rw[g]at c;exact Option.some.inj c
theorem aLQ(d:DAcc A l):∃b,CanBox A 0 b/\b.id=1:=by
 obtain⟨nx,md,f,g,hb⟩:=d.boxes;refine⟨{id:=1,name:=jA,par:=0,valid:=1,next:=nx,mod:=md},⟨d.small,?_,by rw[hb];rfl,?_,d.sorted,?_,by simp,⟨f,by show nx<100;omega⟩,by have:=d.clock;omega⟩,rfl⟩
 ·rw[hb];refine⟨by simp,λb hb=>by simp at hb;rw[hb],λb hb=>by simp at hb;rw[hb];exact⟨by simp,by show ∀c∈jA,c<256;decide⟩,λk b a=>?_⟩;cases k with
  |zero=>simp at a;subst a;simp
  |succ k=>simp at a
 ·rw[hb];unfold uT;have:aac jA=jA:=by unfold aac;rw[if_pos rfl]
  rw[this];simp
 ·show(Wn A.mails 1).length<50;rw[d.wn,j!];have:=d.few;omega
theorem foldl_max:∀(l:List (Int×Ml)) (a:Int),a<=l.foldl (λa x=>max a x.1) a/\∀y∈l,y.1<=l.foldl (λa x=>max a x.1) a
 | [],a=>⟨Int.le_refl _,λ_ h=>by cases h⟩
 |x::l,a=>by
  have h:=foldl_max l (max a x.1);rw[List.foldl_cons];refine⟨Int.le_trans (Int.le_max_left _ _) h.1,λy b=>?_⟩;rcases u!.1 b with rfl|b
  ·exact Int.le_trans (Int.le_max_right _ _) h.1
  ·exact h.2 y b
end
end Go.Im.DAcc
namespace Go.Im
def nH(uid:Bool)(x:Int×Int×Ml):Int:=if uid=true then x.2.1 else x.1
def inM(l:List (Int×Int))(n:Int):Bool:=l.any λr=>decide (n>=r.1)&&decide (n<=r.2)
def ajU(s:List Nat)(a:Int):Option (List (Int×Int)):=
 if 1<=a/\a<=20 then(if s= [49] then some [(1,1)] else if s= [49,58,42] then some [(1,a)] else if a<=9/\s= [48+a.toNat] then some [(a,a)] else none) else none
end Go.Im
namespace Go.Proofs.Im
section
variable{h h' g:Hp}{P:Pos->Prop}{p ir:Pos}{uid only:Bool}{v vk vs:V}{L:List V}{s:List Nat}{n:Int}
theorem ahS{wr:Wr}{x:Int×Int×Ml}(k:Kn g ir (O wr L))(d:L[4]?=some (K uid)):
  DC [X ir 0,.agg (V.ofList (msC x vk vs))] g=D (iV (nH uid x)) (g.new (O (N tMs true) (msC x vk vs))):=by
 have a:=Kn.new g (O (N tMs true) (msC x vk vs));have c:=a.ld (q:=0) (x:=iV x.1) rfl;have e1:=a.ld (q:=1) (x:=iV x.2.1) rfl;have b:=(k.add (O (N tMs true) (msC x vk vs))).ld d;rw[apT];cases uid
 ·simp only[vvB,seval,LX,O4,O3,adw,V.bW,c,b];simp only[aU,cO,vvB,seval,dn];rfl
 ·simp only[vvB,seval,LX,O4,O3,adx,V.bW,e1,b];simp only[aU,cO,vvB,seval,dn];rfl
theorem aGz{x:Int×Int}{wr:Wr}(k:Kn g p (O wr [iV n])):UD [.agg (V.ofList (dY x)),X p 0] g=D (K (decide (n>=x.1)&&decide (n<=x.2))) (g.new (O (N oC true) (dY x))):=by
 have a:=Kn.new g (O (N oC true) (dY x));have b:=a.ld (q:=0) (x:=iV x.1) rfl;have e1:=a.ld (q:=1) (x:=iV x.2) rfl;have e2:=(k.add (O (N oC true) (dY x))).ld (q:=0) (x:=iV n) rfl;rw[axz];by_cases c:n>=x.1
 ·simp only[vvB,seval,abl,aaH,aaG,V.bW,b,e1,e2,c,Bool.true_and];simp only[aU,cO,vvB,seval,dn]
 ·simp only[vvB,seval,abl,aaH,aaG,V.bW,b,e1,e2,c,Bool.false_and];simp only[aU,cO,vvB,seval,dn]
theorem aC0(p:Pos)(x:V)(g:Hp):dI qU (.func (.func axQ) .nil (.cons (X p 0) .nil)) [x] g=UD [x,X p 0] g:=(rfl)
theorem aK9{r:List (Int×Int)}(R:Rws P (flat dY) 2 h v r)(m:r.length<=1000):∃h',ahl [v,iV n] h=D (K (inM r n)) h'/\Nw h h':=by
 obtain⟨l,a,c,k⟩:=mkW h (O (N fZ true) [iV n]);obtain⟨j,e2,d⟩:=abX (R.nw (aK _) c) (aK _) (λx=>decide (n>=x.1)&&decide (n<=x.2)) (by omega) (f:=.func (.func axQ) .nil (.cons (X h.next 0) .nil)) (λb cs g _ i e _=>by
  obtain rfl:cs=dY b:=e;rw[aC0,aGz (k.nw i)];exact⟨_,rfl,Nw.new _ _⟩)
 rw[aBZ];refine⟨j,?_,c.trans d⟩;simp only[vvB,seval,apy,aqH,aqG,<-a,e2];simp only[aU,cO,vvB,seval,dn];rfl
theorem aqF{J M Q:Wr}{r:List (Int×Int)}{l e:Pos}{x:Int×Int×Ml}(R:Rws P (flat dY) 2 g v r)(G:r.length<=1000)(j:Kn g e (O J [v]))(kp:Kn g l (O M [X ir 0]))(k:Kn g ir (O Q L))(E:L[4]?=some (K uid)):
  ∃g',AL [.agg (V.ofList (msC x vk vs)),X e 0,X l 0] g=D (K (!inM r (nH uid x))) g'/\Nw g g':=by
 obtain⟨i,c,b,I⟩:=mkW g (O (N tMs true) (msC x vk vs));have m:=I.ldN (n:=10) rfl;have o:=(kp.nw b).ld (q:=0) (x:=X ir 0) rfl;have f:=ahS (vk:=vk) (vs:=vs) (x:=x) (k.nw b) E;obtain⟨S,d,w,-⟩:=mkW i (O (N tMs true) (msC x vk vs));rw[<-d]at f;have a:=b.trans w;have u:=(j.nw a).ld (q:=0) (x:=v) rfl;have t:=(j.nw b).ld (q:=0) (x:=v) rfl;obtain⟨C,B,y⟩:=aK9 (n:=nH uid x) (R.nw (aK _) a) G;have z:∀{k:Out},chk (λh=>aF (X e 0) h) v k 1 [i]=k:=uS R.noF t;refine⟨C,?_,a.trans y⟩;rw[av7];simp only[vvB,seval,agh,ai6,ai5,V.bW,<-c,m,o,f,u,z,B];simp only[aU,cO,vvB,seval,dn]
theorem aC2(p q:Pos)(x:V)(g:Hp):dI iM (.func (.func ajR) .nil (.cons (X p 0) (.cons (X q 0) .nil))) [x] g=AL [x,X p 0,X q 0] g:=(rfl)
theorem aC1(p q:Pos)(x:V)(g:Hp):dI kY (.func (.func ajR) .nil (.cons (X p 0) (.cons (X q 0) .nil))) [x] g=AL [x,X p 0,X q 0] g:=(rfl)
theorem aDZ{a:Int}{r:List (Int×Int)}(e:ajU s a=some r):∃x,r= [x]/\agy [H s,iV a] h=D (.tuple (.cons (.slice h.next 0 1 (.kn 1)) (.cons (iV 0) .nil))) (h.new (O (N oC false) (dY x))):=by
 unfold ajU at e;split at e
 ·rename_i f;split at e
  ·rename_i c;cases e;refine⟨(1,1),rfl,?_⟩;have b:Ik.QH [H s,iV a]=some (Ik.rdV aJ 1 1):=by
    show(if 1<=a/\a<=20 then _ else _)=_;rw[if_pos f,if_pos c];rfl
   show(match Ik.QH [H s,iV a] with|some r=>QD aJ [] r.2 r.1 [] h|none=>_)=_;rw[b];rfl
  ·split at e
   ·rename_i c d;cases e;refine⟨(1,a),rfl,?_⟩;have b:Ik.QH [H s,iV a]=some (Ik.rdV aJ 1 a):=by
     show(if 1<=a/\a<=20 then _ else _)=_;rw[if_pos f,if_neg c,if_pos d];rfl
    show(match Ik.QH [H s,iV a] with|some r=>QD aJ [] r.2 r.1 [] h|none=>_)=_;rw[b];rfl
   ·split at e
    ·rename_i c d i;cases e;refine⟨(a,a),rfl,?_⟩;have b:Ik.QH [H s,iV a]=some (Ik.rdV aJ a a):=by
      show(if 1<=a/\a<=20 then _ else _)=_;rw[if_pos f,if_neg c,if_neg d,if_pos i];rfl
     show(match Ik.QH [H s,iV a] with|some r=>QD aJ [] r.2 r.1 [] h|none=>_)=_;rw[b];rfl
    ·cases e
 ·cases e
theorem aLa(h:Hp)(x:Int×Int):Rws (λj=>j=h.next) (flat dY) 2 (h.new (O (N oC false) (dY x))) (.slice h.next 0 1 (.kn 1)) [x]:=by
 have k:=Kn.new h (O (N oC false) (dY x));refine⟨[dY x],.cons rfl .nil,λc a=>?_,⟨rfl,.inr ⟨h.next,0,.kn 1,N oC false,dY x,rfl,k.2,by rw[k.1];rfl,λq d=>?_⟩⟩,λ_ _ _ _ e=>?_,λj b=>?_⟩
 ·simp at a;subst a;rfl
 ·simp at d⊢
 ·cases e;exact l! _
 ·cases b;rfl
end
end Go.Proofs.Im
namespace Go.Im
def yJ(uid:Bool)(l:List (Int×Int×Int)):Int:=if uid=true then(match l.getLast? with|some x=>x.1|none=>0) else(l.length:Int)
end Go.Im
namespace Go.Proofs.Im
section
variable{h h' g h0:Hp}{P F I J Z:Pos->Prop}{ps pl ib pv ir pc im:Pos}{cb:Cap}{fb uid only:Bool}{vm vl vv vw vk:V}{m:List Mg}{st:Sn}{L:List V}{s tx:List Nat}{w:Wds}{ks:Int×Int×List (Int×Int×Int)}{bb:Nat}{kk:Int}{r:List (Int×Int)}
theorem Rq.set(q:Rq bb h0 Z h pc im ps ir uid w s st L vw P F J pl ib cb fb vm vl vv I)(hv:st.vw=some ks)(hA:st.acc.Small)(hk:ks.2.2.length<=1000)(an:kk≠3)(d:ajU tx (yJ uid ks.2.2)=some r):
  ∃C h',abS [X ir 0,.agg (.cons (Y U kk) (.cons (H tx) (.cons vk .nil)))] h=D (.tuple (.cons C (.cons (K true) .nil))) h'/\
   vO tMs 10 (λj=>h.next.nat<=j.nat/\bC C≠some j) msE h' C ((fQ st.acc.mails ks.1 0 ks.2.2).filter λx=>inM r (nH uid x))/\Nw h h'/\∀j,bC C=some j->h.next.nat<=j.nat/\j.nat<h'.next.nat:=by
 have ac:=q.wd.view;rw[hv]at ac;obtain⟨pv,vwr,m,rfl,aw,hm⟩:=ac;have ao:m.length=ks.2.2.length:=by have:=congrArg L! hm;simpa using this
 have ap:m.map (·.uid)=ks.2.2.map (·.1):=by rw[<-hm,I!];rfl
 obtain⟨h1,ak,c1,k1⟩:=mkW h (O (N tPr true) [X ir 0]);have B1:fO tPr (X ir 0) h=D (X h.next 0) h1:=by rw[ak];rfl
 obtain⟨h2,al,S,k2⟩:=mkW h1 (O (N Bq true) [Y U kk,H tx,vk]);have B2:fO Bq (.agg (.cons (Y U kk) (.cons (H tx) (.cons vk .nil)))) h1=D (X h1.next 0) h2:=by rw[al];rfl
 have n:=c1.trans S;have q2:=q.nw n;have W0:=k2.ld (q:=0) (x:=Y U kk) rfl;have eK:(kk=3)=False:=eq_false an;have K0:=(k1.nw S).ld (q:=0) (x:=X ir 0) rfl;have R0:=q2.kr.ld q2.l0;have C1:=q2.wd.con.ld (q:=1) (x:=X pv 0) rfl;obtain⟨ru,k,e3,o3,c3⟩:=aeP (aw.ch n λ_ _ q=>q) (by omega);have o:=n.trans c3;have q3:=q.nw o;have Ru:=o3.rws (aK _);have lu:=Ru.len k;rw[j!,ao]at lu;have K3:=(k1.nw (S.trans c3)).ld (q:=0) (x:=X ir 0) rfl;have W3:=(k2.nw c3).ld (q:=1) (x:=H tx) rfl;have R4:=q3.kr.ld q3.l4;have aa:1<=yJ uid ks.2.2:=by
  unfold ajU at d;split at d
  ·rename_i hs;exact hs.1
  ·cases d
 obtain⟨x,rfl,e4⟩:=aDZ (h:=k) d;obtain⟨B,v,c4,-⟩:=mkW k (O (N oC false) (dY x));rw[<-v]at e4;have RG:Rws (λj=>j=k.next) (flat dY) 2 B (.slice k.next 0 1 (.kn 1)) [x]:=by rw[v];exact aLa _ _
 obtain⟨h5,am,c5,k5⟩:=mkW B (O (N tRs true) [.slice k.next 0 1 (.kn 1)]);have S5:aQ 1 (X B.next 0) (.slice k.next 0 1 (.kn 1)) (B.new (O (N tRs true) [.aO]))=D V.undef h5:=by rw[am];exact XG ⟨rfl,rfl⟩ (by decide)
 have u:=c4.trans c5;have p:=o.trans u;have q5:=q.nw p;have ad:=k1.nw ((S.trans c3).trans u);have K5:=ad.ld (q:=0) (x:=X ir 0) rfl;have E:=q5.kr.ld q5.l0;have G:=q5.kr.ld q5.l1;obtain⟨rm,h6,e6,o6,W⟩:=q5.messages hv hA hk;have n1:=c1.next;have aL:=o.next;have n2:=S.next;have aR:=u.next;have n4:=c4.next;have n5:=c5.next;have n6:=W.next;have aM:=p.next;have M:=p.trans W;have q6:=q.nw M;have af:=k5.nw W;have ae:=ad.nw W;have ay:k.next.nat<B.next.nat:=by rw[v];exact(Kn.new _ _).2
 have c:∀j,bC rm=some j->h5.next.nat<=j.nat:=λj e=>(o6.eY e).1;have hR:∀g,Ch (λj=>bC rm=some j) h6 g->Rws (λj=>j=k.next) (flat dY) 2 g (.slice k.next 0 1 (.kn 1)) [x]:=λg i=>
  (RG.nw (aK _) (c5.trans W)).ch (aK _) i λj hj e=>⟨e,λq=>by have:=c _ q;subst e;omega⟩
 have aE:=k5.2;have aD:=k1.2;have az:=q.kr.2;obtain⟨C,h7,e7,o7,c7,i7⟩:=aoc (f:=.func (.func ajR) .nil (.cons (X B.next 0) (.cons (X h.next 0) .nil))) o6.aLq (λj pj=>pj.2) (λx'=>!inM [x] (nH uid x')) (Nat.le_trans (MP _ _ _ _) hk)
  (λa cs g ha i ⟨Q,e⟩=>by
   obtain⟨av,ax,rfl,-,-⟩:=e;rw[aC2];exact aqF (hR g i) (by simp) (af.ch i λe=>by have:=c _ e;omega) (ae.ch i λe=>by have:=c _ e;omega) (q6.kr.ch i λe=>by have:=c _ e;omega) q.l4)
  (λa cs g ha i ⟨Q,e⟩=>by
   obtain⟨av,ax,rfl,-,-⟩:=e;rw[aC1];exact aqF (hR g i) (by simp) (af.ch i λe=>by have:=c _ e;omega) (ae.ch i λe=>by have:=c _ e;omega) (q6.kr.ch i λe=>by have:=c _ e;omega) q.l4)
 have ai:(λa:Int×Int×Ml=>!!inM [x] (nH uid a))=λa=>inM [x] (nH uid a):=by funext a;simp
 rw[ai]at o7;have n7:=c7.next;refine⟨C,h7,?_,?_,M.own c7 λj e=>by have:=c j e;omega,λj e=>?_⟩;rotate_left
 ·refine o7.ch dD (Nw.refl _) (λ_ _ q=>q) λj hj pj=>⟨⟨by have:=pj.1;omega,λe=>pj.2 (i7 j e)⟩,λq=>q⟩
 ·exact⟨by have:=c j (i7 j e);omega,by have:=(o6.eY (i7 j e)).2;omega⟩
 ·rw[axG];cases uid with
  |false=>
   have z:yJ false ks.2.2=(ks.2.2.length:Int):=rfl;rw[z]at e4;simp(disch:=omega)only[vvB,seval,abr,aaW,aaV,aaU,aaT,aaS,aaR,aaQ,Xb,B1,B2,W0,eK,K0,R0,C1,e3,lu,K3,R4,W3,e4,S5,K5,E,G,e6,e7];simp only[aU,cO,vvB,seval,dn];rfl
  |true=>
   obtain⟨t,ht⟩:∃t,ks.2.2.length=t+1:=by
    cases hq:ks.2.2 with
    |nil=>rw[hq]at aa;simp[yJ]at aa
    |cons a b=>exact⟨b.length,rfl⟩
   obtain⟨y,hy⟩:∃y,ks.2.2[t]?=some y:=⟨_,v! (by omega)⟩
   have z:yJ true ks.2.2=y.1:=by
    unfold yJ;rw[if_pos rfl,List.getLast?_eq_getElem?,ht,Nat.add_sub_cancel,hy]
   rw[z]at e4;have aq:(m.map (·.uid))[t]?=some y.1:=by rw[ap,q!,hy];rfl
   obtain⟨iu,qu,ag,ar,ah,-,-,-,au,-⟩:=Ru.elt aq;obtain rfl:ag=fH y.1:=ah;have l:=au k rfl 0 (iV y.1) rfl;rw[r!]at l;rw[ht]at lu;have ab:(((t+1:Nat):Int) - 1)=(t:Int):=by omega
   have aj:(((t+1:Nat):Int)>0)=True:=eq_true (by omega);simp(disch:=omega)only[vvB,seval,abr,aaW,aaV,aaU,aaT,aaS,anE,aaR,aaQ,Xb,B1,B2,W0,eK,K0,R0,C1,e3,lu,aj,ab,ar,l,K3,R4,W3,e4,S5,K5,E,G,e6,e7];simp only[aU,cO,vvB,seval,dn];rfl
end
section
variable{bb:Nat}{h h' h0:Hp}{P F I J Z S:Pos->Prop}{ps pl ib p ir pc im i:Pos}{cb:Cap}{fb only:Bool}{v vm vl vv vw:V}{k f n:Nat}{b:Bx}{st st2:Sn}{L a:List V}{s s2:List Nat}{w:Wds}{x:Wd}{r:List (Int×Int)}
theorem Bd.aLl{b:Nat}{h:Hp}{i:Pos}{q:Nat}{t:TypeId}{l:List V}{s:List Nat}(d:Bd b h i q t l s){k:Nat}(v:V)(z:k≠q)(g:k≠q+1):
  Bd b (h.put i (some (O (N t true) (l.set k v)))) i q t (l.set k v) s/\Stp (OfB i q l) h (OfB i q (l.set k v)) (h.put i (some (O (N t true) (l.set k v)))):=by
 obtain⟨vb,b1,b2,m⟩:=d.buf;have c:Ch (λj=>j=i) h (h.put i (some (O (N t true) (l.set k v)))):=Ch.put _ _ rfl;have hb:(l.set k v)[q+1]?=some vb:=by rw[b! g];exact b1
 refine⟨⟨d.hb,by rw[jI];exact d.hi,kL _ _ _,by rw[b! z];exact d.addr,⟨vb,hb,b2.ch c m,m⟩,by rw[Rj];exact d.lies⟩,⟨c.mono λj _ e=>.inl e,λj o=>?_⟩⟩;rcases o with o|⟨v2,u,y⟩
 ·exact .inl (.inl o)
 ·rw[hb]at u;cases u;exact .inl (.inr ⟨vb,b1,y⟩)
theorem aHt(q:Rq bb h0 Z h pc im ps ir false w s st L vw P F J pl ib cb fb vm vl vv I)(z:w.get? 0=some x)(ag:x.kind=1)(ah:x.text.length<=1000000/\∀c∈x.text,c<256)(hf:Gn (foldM x.text) aaz=some (f,n,true))(hm:atE n st)
  (hc:∀vw',Cmd f bb pc im ps ir true (w.drop 1) s st vw' P a s2 st2) (hl:a.length=5):
  ∃h' vw',ZC [X pc 0,X ir 0,H asq] h=D (.agg (V.ofList a)) h'/\Ep bb h0 Z vw' P h' pc im ps ir true (w.drop 1) s2 st2:=by
 obtain⟨B,af,c1,k1⟩:=mkW h (O (N tA true) zAn);have W:=q.nw c1;have hz:=q.chz.next;have n1:=c1.next;have ae:=q.bd.hi;have ha:QG w 0=true:=by unfold QG;rw[z];exact decide_eq_true ag
 have A0:DJ [vw,Y U 0] B=D (K true) B:=by have:=aeF W.ws 0;rwa[ha]at this
 obtain⟨j,jq,vk,i1,i2,i3,i4,-⟩:=WS.at W.ws z;have ai:∀h',aX 3 vw (Y U 0) h'=D (X j jq) h':=i1;have aj:aF (X j (jq+1)) B=D (H x.text) B:=i3;obtain⟨rf,C,e2,rfl,c2⟩:=SS (h:=B) (by omega) ah.2;have E:Nw B C:=c2;have t:=W.nw E;have k2:=k1.nw E;have n2:=c2.next;obtain⟨d,es,aa⟩:=t.ws.from (k:=1) (by have:=Wds.Kq z;omega)
 have ad:∀h',eU 3 vw (some (Y U 1)) none none h'=D d h':=es;have R3:=W.kr.ld W.l3;have ab:=t.kr.ld t.l3;have M:3<L.length:=(e!.1 q.l3).1;have Q:4<L.length:=(e!.1 q.l4).1;have S3:=RU t.bd.get (q:=3) (y:=d) aa.cell M;obtain⟨d3,p3⟩:=t.bd.aLl (k:=3) d (by omega) (by omega);have S4:=RU d3.get (q:=4) (y:=K true) ⟨rfl,rfl⟩ (by rw[Rj];exact Q);obtain⟨d4,p4⟩:=d3.aLl (k:=4) (K true) (by omega) (by omega);have m:Ch (λj=>j=ir) C ((C.put ir (some (O (N tRq true) (L.set 3 d)))).put ir (some (O (N tRq true) ((L.set 3 d).set 4 (K true))))):=(Ch.put (S:=λj=>j=ir) _ _ rfl).trans (Ch.put (S:=λj=>j=ir) _ _ rfl) λ_ _ q=>q;have u:OfB ir 5 L ir:=.inl rfl;have G:h.next≠ir:=λe=>by rw[<-e]at ae;omega
 have g:∀j,OfB ir 5 ((L.set 3 d).set 4 (K true)) j->OfB ir 5 L j\/C.next.nat<=j.nat:=λj o=>by
  rcases p4.sub _ o with o|o
  ·exact p3.sub _ o
  ·rw[jI]at o;exact .inr o
 have gen:∀(k y:Nat),True:=λ_ _=>trivial;have e1:((L.set 3 d).set 4 (K true))[1]?=L[1]?:=by rw[b! (by omega),b! (by omega)]
 have e0:((L.set 3 d).set 4 (K true))[0]?=L[0]?:=by rw[b! (by omega),b! (by omega)]
 have q4:Rq bb h0 Z ((C.put ir (some (O (N tRq true) (L.set 3 d)))).put ir (some (O (N tRq true) ((L.set 3 d).set 4 (K true))))) pc im ps ir true (w.drop 1) s st ((L.set 3 d).set 4 (K true)) d P F J pl ib cb fb vm vl vv I:=
  {bd:=d4
   hbb:=q.hbb
   ob:=λj o=>(g j o).elim (q.ob j) λl=>.inr (by omega)
   l1:=e1.trans q.l1
   l3:=by rw[b! (by omega),n! M]
   l4:=by rw[n! (by rw[Rj];exact Q)]
   l0:=e0.trans q.l0
   ws:=aa.ch m λj _ p=>⟨p,λe=>by have:=(q.old j p).1;have:=(u.from q.bd _).1;rw[e] at*;omega⟩
   wd:=t.wd.ch m λj f e=>q.dis j (e▸u) f
   dis:=λj o f=>(g j o).elim (λo=>q.dis j o f) λl=>by have:=t.wd.lt j f;omega
   old:=q.old
   foot:=q.foot
   chz:=t.chz.trans m λj hj e=>(q.ob j (e▸u)).resolve_right (by omega)}
 have k4:=k2.ch m G;have ac:¬(Ft F J pc im h.next\/OfB ir 5 ((L.set 3 d).set 4 (K true)) h.next):=λe=>by
  rcases e with e|e
  ·have:=q.wd.lt _ e;omega
  ·rcases g _ e with e|e
   ·have:=(OfB.from q.bd _ e).2;omega
   ·have:=k1.2;omega
 rw[arb,aq0]
 suffices hT:aW Tryz.prog [.cell 6 tA] (RunT bb h0 Z d P pc im ps ir true (w.drop 1) a s2 st2)
   (aB KW (aB (aB KU (aT (.tmp 11) (aB (aB Um (aT (.tmp 17) (aB abb Out.ret) Out.nor)) (aB Ul Uk)) Out.nor)) asM) (T.set (some (H asq)) (i! 2) (T.set (some (X ir 0)) (i! 1) (T.set (some (X pc 0)) (i! 0) T.nil))) h) by
  obtain⟨r,h',e,rfl,q⟩:=hT;exact⟨h',d,e,q⟩
 generalize ((C.put ir (some (O (N tRq true) (L.set 3 d)))).put ir (some (O (N tRq true) ((L.set 3 d).set 4 (K true)))))=ak at*;simp(disch:=omega)only[vvB,seval,KW,KU,Um,Ul,Uk,<-af,R3,ab,A0,ai,aj,e2,ad,S3,S4];exact axV q4 k4 ac hz hf (λ_=>rfl) hm (hc d) hl (qK0) (qK0) (qK0) (qK0)
theorem Gz.behind(d:w.get? 0=some x)(g:x.kind=1)(j:x.text.length<=1000000/\∀c∈x.text,c<256)(m:Gn (foldM x.text) aaz=some (f,n,true))(o:atE n st)
  (l:∀(bb:Nat) (ir:Pos) (vw:V) (P:Pos->Prop),Cmd f bb pc im ps ir true (w.drop 1) [] st vw P a s2 st2) (hl:a.length=5):Gz pc im ps w asq st a s2 st2:=
 λbb h0 Z h ir L vw P F J pl ib cb fb vm vl vv I q=>by
  obtain⟨h',vw',e,r⟩:=aHt q d g j m o (λvw'=>l bb ir vw' P) hl;exact⟨h',vw',P,_,true,e,r⟩
end
end Go.Proofs.Im
namespace Go.Vm
section
variable{h:Hp}
theorem atf{z:V}{n bt:Nat}{el:TypeId}(a:n*bt<=140737488355328):wR el bt [z] (Y U (n:Int)) (Y U (n:Int)) h=D (.slice h.next 0 n (.kn n)) (h.new (O (N el true) (times n [z]))):=by
 show(match K! n n,K! (Nat.mul n bt) 140737488355328 with
  |true,true=>R.ok (V.slice h.next 0 n (.kn n)) (h.new (O (N el true) (times n [z])))
  |_,_=>.bad)=_
 rw[y! (l! n),show K! (Nat.mul n bt) 140737488355328=true from y! a]
theorem ap2(z:V):∀n:Nat,times n [z]=((G! n ([]:List Nat)).map λ_=> [z]).flatten
 |0=>rfl
 |n+1=>by
  show z::times n [z]=_;rw[ap2 z n];rfl
end
end Go.Vm
namespace Go.Im
def aN5(b:Bool):List V:= [K b]
end Go.Im
namespace Go.Proofs.Im
section
variable{h g:Hp}{P F I:Pos->Prop}{ps pl ib:Pos}{A:Acc}{cb:Cap}{fb:Bool}{v vm vl:V}{marks:List Bool}{l:List Em}
theorem auw(h:Hp):QZ [] h=D (K true) h:=zI rfl h
structure Dst (g:Hp) (F:Pos->Prop) (ps:Pos) (A:Acc) (l:List Em) (marks:List Bool) (pl ib:Pos) (cb:Cap) (fb:Bool) (vm vl:V) (I:Pos->Prop) (P:Pos->Prop) (v:V):Prop where
 acc:dJ g F ps A pl ib cb fb vm vl I
 d:DAcc A l
 is:l.map (·.i)=d! marks.length
 ms:l.map (·.mark)=marks
 clock:A.clock<60
 row:Rws P (flat aN5) 1 g v marks
 apart:∀j,P j->¬F j
 hG:Ik.aJ<=g.next.nat
end
section
variable{ps pc im:Pos}{A:Acc}
abbrev stA(A:Acc)(cnt:Int):Sn:={acc:=A,inn:=true,only:=false,cnt:=cnt,vw:=some (dR A 1)}
theorem Alls.one{gs:List Ln.Got}{a:Ln.Got}{st st1:Sn}{t:List Nat}(d:yj pc im ps a st t true st1)(e:gs= [a]):Alls pc im ps gs st t st1:=by
 subst e;have:=Alls.go d (.nil st1);rwa[F!]at this
end
abbrev okX:List Nat:= [120,32,79,75,32,100,111,110,101,13,10]
theorem aNW:okT [120] []=okX:=by decide
end Go.Proofs.Im
