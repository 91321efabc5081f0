/- Lemmas. No conditions. -/
import Derived.Test.YtpgppmioigacoaaGreatDoorSAV
import Derived.Test.YtpgppmioigacoaaGreatDoorSAU
import Derived.Test.YtpgppmioigacoaaGreatDoorSAS
import Derived.Test.YtpgppmioigacoaaGreatDoorSAT
set_option linter.all false
set_option maxRecDepth 100000
open List renaming take→a!,getElem?_set_ne→d!,mem_append→e!,getElem?_eq_some_iff→i!,getElem?_set_self→l!,mem_singleton→o!,length_append→p!,length_map→q!
open Go.Vm.Pos renaming of→b!
open Nat renaming le_trans→c!,reduceEqDiff→g!,lt_of_lt_of_le→h!,le_refl→j!,add_zero→n!,blt→r!
open Go.Vm.V renaming int→Y,ptr→X,bool→K,str→H
open Go.IntKind renaming i64→U
open Go.Vm.Ob renaming cells→O
open Go.Vm.Wr renaming rw→N
open Go.Vm.R renaming ok→D
noncomputable section
open Go Go.Proofs Go.Vm Go.Ln Go.Im Go.Proofs.Im
namespace Go.Proofs.Im
section
variable{h h' g:Hp}{P F I S d:Pos->Prop}{ps pl ib p pc cp i:Pos}{A B:Acc}{cb:Cap}{fb only:Bool}{v vm vl:V}{id:Int}{k f n o:Nat}{b:Bx}
theorem awo{ks:List (List Nat)}{t:List Nat}{vk:V}{Pk:Pos->Prop}(a:dV h F ps A pl ib cb fb vm vl I)(ho:dD 0 I jo 40 8 h vm A.mails)(hC:CanApp A o b)(r:Rws P (flat eu) 1 h v [b.id]){at_:Int}(ee:0<=at_/\at_<=1000000)
  (rk:Rws Pk (flat jT) 1 h vk ks) (di:∀k∈ks,aez k=true) (dh:ks.length<=1) (ei:t.length<=100000) (ht:∀h,wP [H t,H [105,110,45,114,101,112,108,121,45,116,111]] h=D (H []) h):
  ∃i rr h' F' L bl I',vO [X ps 0,v,vk,Y U at_,H t] h=D rr h'/\dV h' F' ps (Yz A b at_ t ks i) pl ib cb fb L bl I'/\dD 0 I' jo 40 8 h' L (Yz A b at_ t ks i).mails/\Ch F h h'/\∀j,F' j->F j\/h.next.nat<=j.nat:=by
 have hA:=hC.small;have ef:=hC.clock;have d7:=hA.clock;have eh:=hC.lastId;have cH:=hC.mails;have d9:=hC.oct;have df:=hC.ents;obtain⟨w1,h1,e1,r1,c1⟩:=aFN rk di dh;obtain⟨w2,h2,e2,r2,c2⟩:=aym (a.nw c1) hA (r.nw (aN _) c1) hC.find;have cf:=c1.trans c2;have a2:=a.nw cf;have n1:=c1.next;have n2:=c2.next;have L2:=a2.st.ld (q:=11) (x:=vm) rfl;have M2:=a2.st.ld (q:=2) (x:=iV 1000) rfl;have M4:=a2.st.ld (q:=4) (x:=iV 1048576) rfl;have b9:=a2.st.ld (q:=15) (x:=iV A.octets) rfl;have lm:=a2.ml.rws.len h2;have e3:=arL a2 hA;obtain⟨h3,e4,c3⟩:=PO r2 (aN _) (λ_=>false) (by simp) (f:=.func (.func 47) (.cons (X ps 0) .nil) .nil) (λx y g hx cg e=>by
  cases(show [y]= [Y U x] from e);simp at hx;subst hx;obtain⟨g',e6,c6⟩:=aC9 (a2.nw cg) hA hC.find hC.at_ (by have:=hC.next;omega);exact⟨g',by rw[ayc];exact e6,c6⟩)
 have ck:jb [w2,.func (.func 47) (.cons (X ps 0) .nil) .nil] h2=D (K false) h3:=by
  have:([b.id].any λ_=>false)=false:=rfl;rw[this]at e4;exact e4
 have FF:∀g,dZ (.func 47) [X ps 0] [] g=D (.func (.func 47) (.cons (X ps 0) .nil) .nil) g:=λg=>rfl;have a3:=a2.nw c3;have ci:=cf.trans c3;have n3:=c3.next;have e5:=arK a3 hA;obtain⟨h4,bL⟩:∃h4,h4=h3.put ps (some (O (N 78 true) (stC {A with clock:=A.clock+1} ib cb vm pl))):=⟨_,rfl⟩
 rw[<-bL]at e5;have a4:dV h4 F ps {A with clock:=A.clock+1} pl ib cb fb vm vl I:=by rw[bL];exact a3.al1 rfl rfl rfl rfl
 have c4:Ch (λj=>j=ps) h3 h4:=by rw[bL];exact Ch.put _ _ rfl
 have b7:=a4.st.ld (q:=14) (x:=iV A.lastId) rfl;obtain⟨A5,J⟩:∃A5:Acc,A5={A with clock:=A.clock+1,lastId:=A.lastId+1}:=⟨_,rfl⟩
 obtain⟨h5,bN⟩:∃h5,h5=h4.put ps (some (O (N 78 true) (stC A5 ib cb vm pl))):=⟨_,rfl⟩
 have S5:aV 1 (X ps 14) (iV (A.lastId+1)) h4=D V.undef h5:=by rw[bN,J];exact a4.st.st (q:=14) ⟨rfl,rfl⟩ (show 14<16 by omega)
 have a5:dV h5 F ps A5 pl ib cb fb vm vl I:=by rw[bN,J];exact a4.al1 (B:={A with clock:=A.clock+1,lastId:=A.lastId+1}) rfl rfl rfl rfl
 have c5:Ch (λj=>j=ps) h4 h5:=by rw[bN];exact Ch.put _ _ rfl
 have aw:Ch (λj=>j=ps) h3 h5:=c4.trans c5 λ_ _ q=>q;have n5:=aw.next;have b5:=a5.nw (Nw.bump 1 h5);have L5:=a5.st.ld (q:=14) (x:=iV (A.lastId+1)) (by rw[J];rfl);have cJ:=b5.st.ld (q:=14) (x:=iV (A.lastId+1)) (by rw[J];rfl);have ak:A5.Small:=by rw[J];exact⟨by show 0<=A.clock+1/\A.clock+1<1000000;omega,hA.boxes,hA.mails,hA.ents,hA.each⟩
 obtain⟨i,hT,eT,cT⟩:∃i hT,EO [X ps 0,H t] (aK 1 h5)=D (iV i) hT/\Nw (aK 1 h5) hT:=⟨0,_,ayn ht _ _,Nw.refl _⟩
 have b8:=(b5.nw cT).st.ld (q:=14) (x:=iV (A.lastId+1)) (by rw[J];rfl);have nT:=cT.next;have ew:(aK 1 h5).next.nat=h5.next.nat+1:=Dk _ _;obtain⟨p,hp⟩:∃p,p=h5.next:=⟨_,rfl⟩
 have dm:p.nat=h5.next.nat:=congrArg Pos.nat hp;have kz:Kn (hT.put p (some (O (N 40 true) zMl))) p (O (N 40 true) zMl):=⟨jZ _ _ _,by rw[jJ];omega⟩
 obtain⟨h6,bh⟩:∃h6,h6=hT.put p (some (O (N 40 true) [iV (A.lastId+1),iV i,H t,iV at_,w1,.aQ,iV (A.clock+1),iV (A.clock+1)])):=⟨_,rfl⟩
 have S6:aV 8 (X p 0) (.agg (V.ofList [iV (A.lastId+1),iV i,H t,iV at_,w1,.aQ,iV (A.clock+1),iV (A.clock+1)])) (hT.put p (some (O (N 40 true) zMl)))=D V.undef h6:=by
  rw[bh,kz.stN (n:=8) rfl rfl,ao2]
 have c6:Nw h5 h6:=((Nw.bump 1 h5).trans cT).then (by rw[bh];exact Ch.put (S:=λj=>j=p) _ _ rfl) λj hj e=>by rw[e]at hj;omega
 have k6:Kn h6 p (O (N 40 true) [iV (A.lastId+1),iV i,H t,iV at_,w1,.aQ,iV (A.clock+1),iV (A.clock+1)]):=by rw[bh];exact⟨jZ _ _ _,by rw[jJ];omega⟩
 have n6:h5.next.nat+1<=h6.next.nat:=by rw[bh,jJ];omega
 have T6:=k6.ld (q:=1) (x:=iV i) rfl;have I6:=k6.ld (q:=0) (x:=iV (A.lastId+1)) rfl;have s7:∃h7,(i=0->aV 1 (X p 1) (iV (A.lastId+1)) h6=D V.undef h7)/\(¬i=0->h7=h6)/\Kn h7 p (O (N 40 true) [iV (A.lastId+1),iV (CS A i),H t,iV at_,w1,.aQ,iV (A.clock+1),iV (A.clock+1)])/\Ch (λj=>j=p) h6 h7:=by
  by_cases hi:i=0
  ·refine⟨h6.put p (some (O (N 40 true) [iV (A.lastId+1),iV (A.lastId+1),H t,iV at_,w1,.aQ,iV (A.clock+1),iV (A.clock+1)])),λ_=>k6.st (q:=1) ⟨rfl,rfl⟩ (by simp),λh=>absurd hi h,?_,Ch.put _ _ rfl⟩;unfold CS;rw[if_pos hi];exact k6.put _
  ·refine⟨h6,λh=>absurd h hi,λ_=>rfl,?_,Ch.refl _ _⟩;unfold CS;rw[if_neg hi];exact k6
 obtain⟨h7,S7,E7,k7,c7⟩:=s7;have n7:=c7.next;have ax:Nw h5 h7:=c6.then c7 λj hj e=>by rw[e,hp]at hj;omega
 have a7:=a5.nw ax;have r7:=(r2.nw (aN _) c3).ch (P':=λj=>h1.next.nat<=j.nat/\j.nat<h3.next.nat) (aN _) aw λj hj q=>⟨⟨q,hj⟩,λe=>by have:=a.st.2;rw[e]at q;omega⟩
 have r7:=r7.nw (aN _) ax;have aj:∀j,F j->j.nat<h.next.nat:=a.lt;have bs:A5.boxes=A.boxes:=by rw[J]
 have cS:=a7.nw (Nw.bump 1 h7);have ey:(aK 1 h7).next.nat=h7.next.nat+1:=Dk _ _;obtain⟨h8,e8,a8,c8⟩:=ayo (id:=b.id) cS ak (by rw[bs];exact hC.find) (by rw[bs];exact hC.at_) (by have:=hC.next;omega);have cA:=k7.bump 1;have eg:=aj _ a.foot.2.2.1;have k8:=cA.ch c8 λe=>by rw[e]at hp;have:=congrArg Pos.nat hp;omega
 have M7:=k7.ld (q:=5) (x:=.aQ) rfl;have cK:=cA.ld (q:=5) (x:=.aQ) rfl;have M8:=k8.ld (q:=5) (x:=.aQ) rfl;have n8:=c8.next;obtain⟨h9,bi⟩:∃h9,h9=h8.put h7.next (some (O (N 106 true) (dK (b.id,b.next)))):=⟨_,rfl⟩
 have c9:Ch (λj=>j=h7.next) h8 h9:=by rw[bi];exact Ch.put _ _ rfl
 have n9:h9.next.nat=h8.next.nat:=by rw[bi];rfl
 have dt:Kn h9 h7.next (O (N 106 true) ([(b.id,b.next)].map dK).flatten):=by rw[bi];exact⟨jZ _ _ _,by rw[jJ];omega⟩
 have t9:Rws (λj=>j=h7.next) (flat dK) 2 h9 (.slice h7.next 0 1 (.kn 1)) [(b.id,b.next)]:=Kn.rws (c:=dK) (l:= [(b.id,b.next)]) (cp:=.kn 1) (sz:=2) dt (λ_=>rfl) (λ_ _ _ _ e=>by cases e;exact j! _);have k9:=k8.ch c9 λe=>by have:=k7.2;rw[e]at this;omega
 have a9:=a8.ch c9 λj f e=>by have:=aj j f;rw[e]at this;omega
 obtain⟨Q,aE,cU,bS,bd⟩:=apO (el:=106) (bt:=16) (Rws.aQ (λ_=>False) (flat dK) 2 h9) (.inl ⟨rfl,rfl⟩) t9 (by simp) (by simp);rw[List.nil_append]at bS;have cx:=k9.nw bd;have cc:=a9.nw bd;have ej:=bd.next;obtain⟨m,hm⟩:∃m,m=apj A b at_ t ks i:=⟨_,rfl⟩
 obtain⟨u,aR⟩:∃u,u=aE.put p (some (O (N 40 true) (dL m w1 Q))):=⟨_,rfl⟩
 have cL:aV 1 (X p 5) Q aE=D V.undef u:=by rw[aR,hm];exact cx.st (q:=5) bS.cell (by simp)
 have cy:Kn u p (O (N 40 true) (dL m w1 Q)):=by rw[aR];exact cx.put _
 have be:Ch (λj=>j=p) aE u:=by rw[aR];exact Ch.put _ _ rfl
 have am:=cc.ch be λj f e=>by have:=aj j f;rw[e]at this;omega
 have ek:=be.next;have a6:∀j:Pos,j.nat<h7.next.nat->j≠ib->j≠p->u.get j=h7.get j:=λj hj hi dk=>by
  have q8:=c8.get j (by omega) hi;have q9:=c9.get j (by omega) λe=>by rw[e]at hj;omega
  have dy:=bd.get j (by omega) λq=>q;have bc:=be.get j (by omega) dk;rw[bc,dy,q9,q8];rfl
 have ay:Ch (λj=>j=ib\/j=p) h7 u:=⟨by omega,λj hj hn=>a6 j hj (λe=>hn (.inl e)) λe=>hn (.inr e)⟩
 have hI:∀j,I j->j.nat<h.next.nat/\j≠ps/\j≠ib:=λj q=>⟨aj j (a.inn j q).1,(a.inn j q).2.1,(a.inn j q).2.2.2.1⟩
 have ap:∀j,bV vm=some j->j.nat<h.next.nat/\j≠ps/\j≠ib:=λj e=>⟨aj j (a.foot.2.2.2.1 j e),(a.nm j e).1,(a.nm j e).2.2.1⟩
 have cw:dD 0 I jo 40 8 u vm A.mails:=by
  have o3:=ho.nw dG ci;have o5:=o3.ch (P':=I) dG aw (λj e W=>(ap j e).2.1 W) λj _ q=>⟨q,(hI j q).2.1⟩
  exact(o5.nw dG ax).ch dG ay (λj e W=>W.elim (ap j e).2.2 λW=>by have:=(ap j e).1;rw[W]at this;omega) λj _ q=>⟨q,λW=>W.elim (hI j q).2.2 λW=>by have:=(hI j q).1;rw[W]at this;omega⟩
 obtain⟨d,ai⟩:∃d:Pos->Prop,d=λj=>I j\/(h.next.nat<=j.nat/\j.nat<u.next.nat/\j≠p):=⟨_,rfl⟩
 have xm:jo d u m (dL m w1 Q):=by
  refine⟨w1,Q,rfl,?_,?_⟩
  ·have rk:Rws (λj=>h.next.nat<=j.nat/\j.nat<h1.next.nat) (flat jT) 1 h1 w1 ks:=r1.mono (aN _) λj hj q=>⟨q,hj⟩
   have d2:=rk.nw (aN _) (c2.trans c3);have d3:=d2.ch (P':=λj=>h.next.nat<=j.nat/\j.nat<h1.next.nat) (aN _) aw λj _ q=>⟨q,λe=>by have:=a.st.2;rw[e]at q;omega⟩
   have d4:=d3.nw (aN _) ax;rw[hm];exact d4.ch (aN _) ay λj _ q=>⟨by rw[ai];exact .inr ⟨q.1,by omega,λe=>by rw[e]at q;omega⟩,λe=>e.elim (λe=>by rw[e]at q;omega) λe=>by rw[e]at q;omega⟩
  ·rw[hm];have rm:Rws (λj=>h9.next.nat<=j.nat/\j.nat<aE.next.nat) (flat dK) 2 aE Q [(b.id,b.next)]:=(bS.rows (P':=λj=>h9.next.nat<=j.nat) (aN _) (λ_ _ q=>q.elim) λ_ q _=>q).mono (aN _) λj hj q=>⟨q,hj⟩
   exact rm.ch (aN _) be λj _ q=>⟨by rw[ai];exact .inr ⟨by omega,by omega,λe=>by rw[e]at q;omega⟩,λe=>by rw[e]at q;omega⟩
 obtain⟨L,aL,cV,du,an,em,bp⟩:=cw.app1 (bt:=104) (x:=m) (cs:=dL m w1 Q) (P':=d) dG (Nat.zero_le _) rfl (λj _ q=>by rw[ai];exact .inl q) xm (λj _ q e=>by
  rw[ai]at q;rcases q with q|q
  ·exact(a.inn j q).2.2.2.2.1 e
  ·have:=(ap j e).1;omega) (by omega)
 have cj:bZ 40 8 104 vm (.slice u.next 0 1 (.kn 1)) (u.new (O (N 40 true) (dL m w1 Q)))=D L aL:=cV;have bk:(aK 1 u).put u.next (some (O (N 40 true) (dL m w1 Q)))=u.new (O (N 40 true) (dL m w1 Q)):=rfl;have ba:∀j,bV L=some j->u.next.nat<=j.nat:=λj e=>by rw[bp]at e;cases e;rw[Pos.fA];omega
 obtain⟨A8,ab⟩:∃A8:Acc,A8={A5 with boxes:=updB b.id (λb=>{b with next:=b.next+1}) A5.boxes}:=⟨_,rfl⟩
 rw[<-ab]at a8 a9 cc am;have bO:A8.mails=A.mails:=by rw[ab,J]
 have cF:dD 0 d jo 40 8 aL L (A8.mails++ [m]):=by rw[bO];exact du
 obtain⟨af,bX⟩:=am.aPQ (B0:=h.next.nat) aj (m':=m) cF an ba (λj q=>by rw[ai]at q;exact q.imp id λq=>⟨q.1,q.2.1⟩) (by omega);obtain⟨G,E⟩:∃G:Acc,G={A8 with mails:=A8.mails++ [m]}:=⟨_,rfl⟩
 rw[<-E]at af bX;obtain⟨ag,a0⟩:∃ag,ag=aL.put ps (some (O (N 78 true) (stC G ib cb L pl))):=⟨_,rfl⟩
 rw[<-a0]at af bX;have cC:=am.st.ch an λe=>(am.nm ps e).1 rfl;have cM:aV 1 (X ps 11) L aL=D V.undef ag:=by rw[a0,E];exact cC.st (q:=11) (by rw[bp];exact⟨rfl,rfl⟩) (show 11<16 by omega)
 have bf:Ch (λj=>j=ps) aL ag:=by rw[a0];exact Ch.put _ _ rfl
 have ea:=an.next;have eo:=bf.next;have ec:=am.st.ld (q:=11) (x:=vm) rfl;have b6:=(am.nw (Nw.bump 1 u)).st.ld (q:=11) (x:=vm) rfl;have ca:=(cy.bump 1).ldN (n:=8) rfl;have bw:p≠ps:=λe=>by have:=a.st.2;rw[<-e]at this;omega
 have dp:=(cy.ch an λe=>by have:=(ap p e).1;omega).ch bf bw;have cI:=af.st.ld (q:=15) (x:=iV G.octets) rfl;have d8:G.octets=A.octets:=by rw[E,ab,J]
 obtain⟨z,M⟩:∃z:Acc,z={G with octets:=G.octets+(t.length:Int)}:=⟨_,rfl⟩
 obtain⟨w,a1⟩:∃w,w=ag.put ps (some (O (N 78 true) (stC z ib cb L pl))):=⟨_,rfl⟩
 have cP:aV 1 (X ps 15) (iV (G.octets+(t.length:Int))) ag=D V.undef w:=by rw[a1,M];exact af.st.st (q:=15) ⟨rfl,rfl⟩ (show 15<16 by omega)
 have C:=af.al1 (B:={G with octets:=G.octets+(t.length:Int)}) rfl rfl rfl rfl;rw[<-M]at C;rw[<-a1]at C;have aq:Ch (λj=>j=ps) ag w:=by rw[a1];exact Ch.put _ _ rfl
 have dv:dD 0 d jo 40 8 w L z.mails:=by
  have:z.mails=A8.mails++ [m]:=by rw[M,E]
  rw[this];exact bX.ch dG aq (λj e W=>(af.nm j e).1 W) λj _ q=>⟨q,(af.inn j q).2.1⟩
 have ep:=aq.next;have cz:=dp.ch aq bw;have bn:=C.nw (Nw.bump 1 w);have eb:(aK 1 w).next.nat=w.next.nat+1:=Dk _ _;have Z:G.Small:=by
  rw[E];refine⟨by rw[ab];exact ak.clock,by rw[ab];show 0<(updB _ _ A5.boxes).length/\_;rw[atO];exact ak.boxes,by show(A8.mails++ [m]).length<=1000;rw[bO,p!];show A.mails.length+1<=1000;omega,by rw[ab];exact ak.ents,λx hx=>?_⟩;rw[show(({A8 with mails:=A8.mails++ [m]}:Acc).mails)=A8.mails++ [m] from rfl,e!,bO]at hx;rcases hx with hx|hx
  ·exact hA.each x hx
  ·simp at hx;rw[hx,hm];exact⟨by simp[apj];try omega,by simp[apj];try omega⟩
 have bB:z.Small:=by rw[M];exact⟨Z.clock,Z.boxes,Z.mails,Z.ents,Z.each⟩
 have dH:Rws (λj=>h1.next.nat<=j.nat/\j.nat<h3.next.nat) (flat eu) 1 (aK 1 w) w2 [b.id]:=by
  have bc:=r7.ch (P':=λj=>h1.next.nat<=j.nat/\j.nat<h3.next.nat) (aN _) ay λj _ q=>⟨q,λe=>e.elim (λe=>by rw[e]at q;omega) λe=>by rw[e]at q;omega⟩
  have b0:=bc.ch (P':=λj=>h1.next.nat<=j.nat/\j.nat<h3.next.nat) (aN _) an λj _ q=>⟨q,λe=>by have:=(ap j e).1;omega⟩
  have b1:=b0.ch (P':=λj=>h1.next.nat<=j.nat/\j.nat<h3.next.nat) (aN _) (bf.trans aq λ_ _ q=>q) λj _ q=>⟨q,λe=>by have:=a.st.2;rw[e]at q;omega⟩
  exact b1.nw (aN _) (Nw.bump 1 w)
 have bE:z.boxes=updB b.id (λb=>{b with next:=b.next+1}) A.boxes:=by rw[M,E,ab,J]
 obtain⟨d6,bz,cW,cd,dT,c0,bg⟩:=ail bn bB dH (by simp) (A.clock+1) (SC ltI (by simp)) (λk x y _ hy=>by simp at hy) (λx hx=>by
  simp at hx;subst hx;exact⟨o,by rw[bE,aqV (f:=λb:Bx=>{b with next:=b.next+1}) (λ_=>rfl)];exact hC.find⟩)
 have er:=bg.next;have bb:=cz.bump 1;have bR:=bb.ch bg λe=>by rw[e]at dm;omega
 obtain⟨aa,ac⟩:∃aa:List En,aa= [({mod:=A.clock+1,kind:=2,id:=A.lastId+1,how:=1}:En),{mod:=A.clock+1,kind:=3,id:=CS A i,how:=aeZ i}]:=⟨_,rfl⟩
 obtain⟨ah,ae⟩:∃ah,ah=bz.put w.next (some (O (N 85 true) (aa.map ja).flatten)):=⟨_,rfl⟩
 have ar:Ch (λj=>j=w.next) bz ah:=by rw[ae];exact Ch.put _ _ rfl
 have es:ah.next.nat=bz.next.nat:=by rw[ae];rfl
 have dq:Kn ah w.next (O (N 85 true) (aa.map ja).flatten):=by rw[ae];exact⟨jZ _ _ _,by rw[jJ];omega⟩
 have cQ:=cd.ch ar λj f e=>by have:=C.lt j f;rw[e]at this;omega
 have d0:=dT.ch (P':=λj=>(aK 1 w).next.nat<=j.nat) (aN _) ar λj _ q=>⟨q,λe=>by rw[e]at q;omega⟩
 have bj:aa.length=2:=by rw[ac];rfl
 have d5:Rws (λj=>j=w.next) (flat ja) 4 ah (.slice w.next 0 2 (.kn 2)) aa:=by
  have:=Kn.rws (c:=ja) (l:=aa) (cp:=.kn 2) (sz:=4) dq (λ_=>rfl) (λ_ _ _ _ e=>by cases e;exact Nat.le_of_eq bj);rwa[bj]at this
 have dg:ahP d6 ([b.id].map (qp (A.clock+1))).length:=by rw[q!];exact c0
 obtain⟨eA,ed,cX,dx,au⟩:=apO (el:=85) (bt:=32) d0 dg d5 (by rw[ac];simp) (by rw[bj];simp);have ad:=cQ.nw au;have et:=au.next;have d1:=dx.rows (P':=λj=>ah.next.nat<=j.nat) (aN _) (λ_ _ q=>q.elim) λ_ q _=>q;have al:z.ents=A.ents:=by rw[M,E,ab,J]
 have ct:∀e∈ [b.id].map (qp (A.clock+1))++aa,e.mod=A.clock+1:=λe he=>by
  rcases e!.1 he with q|q
  ·obtain⟨id,_,rfl⟩:=List.mem_map.1 q;rfl
  ·rw[ac]at q;simp at q;rcases q with q|q<;>rw[q]
 have cu:∀e∈z.ents,e.mod<=A.clock+1:=λe he=>by
  have de:e∈A.ents:=by rw[<-al];exact he
  have:=hC.logged.mods e de;omega
 have cv:z.ents.length+([b.id].map (qp (A.clock+1))++aa).length<=10000:=by
  rw[al,p!,q!,bj];simp;omega
 obtain⟨ez,bA,bl,cY,cB,cG,av,bx⟩:=awq ad.lg ad.en d1 (λj e=>(ad.nl j e).2.1) (λj hj pj=>⟨λe=>by have:=C.lt pl C.foot.2.1;rw[e]at pj;omega,λe=>by have:=C.lt j (C.foot.2.2.2.2 j e);omega⟩) ct cu cv;have cR:=ad.aIf cB cG av bx (by rw[ac];simp);have ev:=av.next;have dr:=(bR.ch ar λe=>by have:=cz.2;rw[e]at this;omega).nw au;have dl:¬(F p\/d p\/bV L=some p):=λe=>by
  rcases e with e|e|e
  ·have:=aj p e;omega
  ·rw[ai]at e;rcases e with e|e
   ·have:=(hI p e).1;omega
   ·exact e.2.2 rfl
  ·have:=ba p e;omega
 have ds:=dr.ch av λe=>dl (.inl (e.elim (λe=>by rw[e];exact a.foot.2.1) λe=>a.foot.2.2.2.2 p e));have Id:∀{g:Hp},Kn g p (O (N 40 true) (dL m w1 Q))->aG (X p 0) g=D (iV (A.lastId+1)) g:=λk=>k.ld (q:=0) (by rw[hm];rfl);have Th:∀{g:Hp},Kn g p (O (N 40 true) (dL m w1 Q))->aG (X p 1) g=D (iV (CS A i)) g:=λk=>k.ld (q:=1) (by rw[hm];rfl);have Lp:∀{g:Hp} {F:Pos->Prop} {B:Acc} {vm vl:V} {I:Pos->Prop},dV g F ps B pl ib cb fb vm vl I->aG (X ps 12) g=D (X pl 0) g:=λa=>a.st.ld (q:=12) rfl;refine⟨i,.tuple (.cons (iV (A.lastId+1)) (.cons (iV 0) .nil)),bA,λj=>(F j\/d j\/bV L=some j)\/bV bl=some j,L,bl,d,?_,?_,?_,?_,?_⟩
 ·rw[aqG]
  suffices T:aX Tryz.prog [.tmp 10,.tmp 11] (λr h'=>r=.tuple (.cons (iV (A.lastId+1)) (.cons (iV 0) .nil))/\h'=bA) (Oh (T.set (some (H t)) (b! 4) (T.set (some (Y U at_)) (b! 3) (T.set (some vk) (b! 2) (T.set (some v) (b! 1) (T.set (some (X ps 0)) (b! 0) T.nil))))) h) by
   obtain⟨r,h',e,rfl,rfl⟩:=T;exact e
  have b4:=r.len h;have bM:=λh=>bM0 r1.cell (A.lastId+1) i t at_ (A.clock+1) (A.clock+1) h;have cT:∀{k:Out},chk (λh=>aG (X ps 14) h) (iV (A.lastId+1)) k 1 [aK 1 h5]=k:=sN rfl cJ;have bm:=r7.len h7;have bv:((t.length:Int)>1048576 - A.octets)=False:=eq_false (by omega);have bu:((A.mails.length:Int)>=1000)=False:=eq_false (by omega);have sb:∀g,aJ .sub .none (Y U 1048576) (Y U A.octets) g=D (Y U (1048576 - A.octets)) g:=λg=>LJ (by omega) (by omega);have bo:∀g,aJ .add .none (Y U A.lastId) (Y U 1) g=D (Y U (A.lastId+1)) g:=λg=>pK (by omega) (by omega);have l1:(([b.id].length:Nat):Int)=1:=rfl;have cE:(at_<0)=False:=eq_false (by omega);have cq:(at_>253402300799)=False:=eq_false (by omega);rw[l1]at b4 bm;have rest:∀fr:Go.Vm.F,fr.get (b! 0)=some (X ps 0)->fr.get (b! 4)=some (H t)->fr.get (b! 14)=some w2->fr.get (b! 16)=some (iV (A.clock+1))->fr.get (b! 17)=some (X p 0)->fr.get (b! 18)=some (Y U (aeZ i))->fr.get (b! 111)=some w2->fr.get (b! 112)=some (Y U ((1:Nat):Int))->fr.get (b! 113)=some (Y U 0)->
    aX Tryz.prog [.tmp 10,.tmp 11] (λr h'=>r=.tuple (.cons (iV (A.lastId+1)) (.cons (iV 0) .nil))/\h'=bA) (lF (yc 1 (dI Zt lf fr h7)) (aC MS (aC MR (aC MQ (aC MP Out.ret))))):=by
   intro fr g0 g4 da db dc dd cm cn co;refine Oc.then (dO (σ:=Unit) (n:=1) (pi:=113) (pn:=112) (pc:=114) [0,4,14,16,17,18,111] (λ_=> [X ps 0,H t,w2,iV (A.clock+1),X p 0,Y U (aeZ i),w2]) (λk _ g=>(k=0/\g=h7)\/(k=1/\g=u))
    (A:=λfr g=>Fa fr [0,4,14,16,17,18] [X ps 0,H t,w2,iV (A.clock+1),X p 0,Y U (aeZ i)]/\g=u) (B:=λ_ _=>False) (s:=())
    (λfr h _ k e1 e2=>by simp only[vvB,g!,reduceCtorEq,↓reduceIte,Y1,e1,e2]) (λfr h k _ e1=>by simp(disch:=omega)only[vvB,g!,reduceCtorEq,↓reduceIte,YW,e1]) (by decide) (by rw[dP];omega) co cn ⟨g0,g4,da,db,dc,dd,cm,trivial⟩ (.inl ⟨rfl,rfl⟩) ?_ ?_) ?_ ?_
   ·intro k _ fr g hk br cl fa hI;obtain⟨f0,f4,az,aB,ao,aD,bq,-⟩:=fa;rcases hI with⟨rfl,rfl⟩|⟨h1,-⟩
    ·obtain⟨ii,q,cs,ix,ex,-,-,-,ld,-⟩:=r7.elt (k:=0) (x:=b.id) rfl;obtain rfl:cs=eu b.id:=ex;have cD:=ld g rfl 0 (iV b.id) rfl;rw[n!]at cD;have cN:∀{k:Out},chk (λh=>aG (X p 5) h) .aQ k 1 [aK 1 g]=k:=sN rfl cK;simp(disch:=omega)only[vvB,g!,reduceCtorEq,↓reduceIte,YZ,YX,f0,ao,bq,br,ix,cD,e8,M8,cN,aQB,<-bi,cU,cL];exact⟨qK2 br,qK2 cl,(),by simp only[Fa,vvB,g!,reduceCtorEq,↓reduceIte,f0,f4,az,aB,ao,aD,bq,and_self],.inr (by first|exact⟨trivial,rfl⟩|exact⟨rfl,rfl⟩)⟩
    ·omega
   ·intro _ fr g fa hI;obtain⟨f0,f4,az,aB,ao,aD,-⟩:=fa;rcases hI with⟨h1,-⟩|⟨-,rfl⟩
    ·omega
    ·exact⟨by simp only[Fa,f0,f4,az,aB,ao,aD,and_self],rfl⟩
   ·rintro fr g ⟨⟨f0,f4,az,aB,ao,aD,-⟩,rfl⟩;rw[ac]at ae;have ce:∀g,aJ .add .none (Y U G.octets) (Y U (t.length:Int)) g=D (Y U (G.octets+(t.length:Int))) g:=λg=>pK (by omega) (by omega);simp(disch:=omega)only[vvB,g!,reduceCtorEq,↓reduceIte,MS,MR,MQ,MP,f0,f4,az,aB,ao,aD,b6,ca,aQz,bk,cj,cM,cI,ce,cP,cW,Id bR,sN (v:=iV (A.lastId+1)) rfl (Id bb),aCa,Th bR,sN (v:=iV (CS A i)) rfl (Th bb),aC5,<-ae,cX,Lp ad,avR (v:=X pl 0) rfl (Lp cd) (Lp bn),cY,Id ds];exact aX.ret (qT0) ⟨rfl,rfl⟩
   ·intro fr g q;exact q.elim
  by_cases hi:i=0
  ·have eI:=eq_true hi;have aM:aeZ i=1:=if_pos hi;rw[aM]at rest;simp(disch:=omega)only[vvB,g!,reduceCtorEq,↓reduceIte,Oh,zV,QA,Qz,Qy,Qx,Qw,Ql,Nq,Np,Nl,Nk,Nj,Nh,Nc,MZ,MX,MW,MV,fM,b4,cE,cq,e1,e2,L2,lm,M2,bu,M4,b9,sb,bv,e3,FF,ck,e5,b7,bo,S5,eT,b8,cT,bM,aOl,<-hp,S6,T6,I6,S7 hi,eI,decide_true,bm];exact rest _ (qK0) (qK0) (qK0) (qK0) (qK0) (qK0) (qK0) (qK1) (qK0)
  ·have eI:=eq_false hi;have aM:aeZ i=2:=if_neg hi;rw[aM]at rest;rw[E7 hi]at rest bm;simp(disch:=omega)only[vvB,g!,reduceCtorEq,↓reduceIte,Oh,zV,QA,Qz,Qy,Qx,Qw,Ql,Nq,Np,Nl,Nk,Nj,Nh,Nc,MZ,MX,MW,MV,fM,b4,cE,cq,e1,e2,L2,lm,M2,bu,M4,b9,sb,bv,e3,FF,ck,e5,b7,bo,S5,eT,b8,cT,bM,aOl,<-hp,S6,T6,I6,eI,decide_false,bm];exact rest _ (qK0) (qK0) (qK0) (qK0) (qK0) (qK0) (qK0) (qK1) (qK0)
 ·have cr:({({z with boxes:=kY (A.clock+1) [b.id] z.boxes}:Acc) with ents:=z.ents++([b.id].map (qp (A.clock+1))++aa)}:Acc)=Yz A b at_ t ks i:=by
   rw[M,E,ab,J,hm,ac];rfl
  rw[<-cr];exact cR
 ·have dj:(Yz A b at_ t ks i).mails=z.mails:=by rw[M,E,ab,J,hm];rfl
  rw[dj];have b2:=(dv.nw dG (Nw.bump 1 w)).ch (P':=d) dG bg (λj e W=>(C.nm j e).2.2.1 W) λj _ q=>⟨q,λW=>(C.inn j q).2.2.2.1 W⟩
  have b3:=b2.ch (P':=d) dG ar (λj e W=>by have:=C.lt j (C.foot.2.2.2.1 j e);rw[W]at this;omega) λj _ q=>⟨q,λW=>by have:=C.lt j (C.inn j q).1;rw[W]at this;omega⟩
  exact(b3.nw dG au).ch (P':=d) dG av (λj e W=>W.elim (ad.nm j e).2.1 (ad.nm j e).2.2.2) λj _ q=>⟨q,λW=>W.elim (ad.inn j q).2.2.1 (ad.inn j q).2.2.2.2.2⟩
 ·refine⟨by omega,λj hj hn=>?_⟩;have q3:=ci.get j hj λq=>q
  have q5:=aw.get j (by omega) λe=>hn (by rw[e];exact a.foot.1);have q7:=ax.get j (by omega) λq=>q;have bc:=a6 j (by omega) (λe=>hn (by rw[e];exact a.foot.2.2.1)) λe=>by rw[e]at hj;omega
  have b0:=an.get j (by omega) λe=>hn (a.foot.2.2.2.1 j e);have dz:=bf.get j (by omega) λe=>hn (by rw[e];exact a.foot.1);have b1:=aq.get j (by omega) λe=>hn (by rw[e];exact a.foot.1);have b2:=bg.get j (by omega) λe=>hn (by rw[e];exact a.foot.2.2.1);have b3:=ar.get j (by omega) λe=>by rw[e]at hj;omega
  have dC:=au.get j (by omega) λq=>q;have dE:=av.get j (by omega) λe=>hn (e.elim (λe=>by rw[e];exact a.foot.2.1) λe=>a.foot.2.2.2.2 j e);rw[dE,dC,b3,b2];show w.get j=_;rw[b1,dz,b0,bc,q7,q5,q3]
 ·intro j q;rcases q with(q|q|q)|q
  ·exact .inl q
  ·rw[ai]at q;exact q.imp (λq=>(a.inn j q).1) λq=>q.1
  ·have:=ba j q;exact .inr (by omega)
  ·rcases bx j q with e|e
   ·exact .inl (a.foot.2.2.2.2 j e)
   ·exact .inr (by omega)
end
end Go.Proofs.Im
namespace Go.Im
def aeR:Acc:={clock:=1,boxes:= [{id:=1,name:=jc,par:=0,valid:=1,next:=1,mod:=1}],mails:= [],ents:= [],floor:=0,lastBox:=1,lastId:=0,octets:=0}
end Go.Im
namespace Go.Proofs.Im
section
variable{h h' g:Hp}{F:Pos->Prop}{ps pl ib pc cp i:Pos}{A B:Acc}{cb:Cap}{fb only:Bool}{id:Int}{k n:Nat}
def aE6(h:Hp):∃h',Xc [] h=D (.agg (V.ofList P6)) h'/\Nw h h':=by
 obtain⟨d,a,-,e⟩:=mkW h (O (N 62 true) P6);have c:=mkT 9 [H [],H [],Y U 0,Y U 0,Y U 0,Y U 0,Y U 0,Y U 0,Y U 0] a;have b:∀g,bK [H [],H [],Y U 0,Y U 0,Y U 0,Y U 0,Y U 0,Y U 0,Y U 0] [(0,1,(H [117])),(1,1,(H [112])),(2,1,(Y U 1000)),(3,1,(Y U 100)),(4,1,(Y U 1048576)),(5,1,(Y U 1073741824)),(6,1,(Y U 1073741824)),(7,1,(Y U 10000)),(8,1,(Y U 200))] g=D (.agg (V.ofList P6)) g:=λg=>rfl;rw[axA];simp only[vvB,seval,agD,ai6,ai5,b,c];exact⟨d,by simp only[bU,bT,vvB,seval,avK,e.ldN (n:=9) rfl,bW],by rw[a];exact Nw.new _ _⟩
def aHG(h:Hp):abM [Y U 10000] h=D (.tuple (.cons (X h.next 0) (.cons (Y U 0) .nil))) (h.new (O (N 130 true) [iV 10000,.aQ,iV 0])):=by
 have B:∀g,bK [Y U 0,.aQ,Y U 0] [(0,1,Y U 10000)] g=D (.agg (V.ofList [iV 10000,.aQ,iV 0])) g:=λg=>rfl;rw[ayZ];simp(disch:=omega)only[vvB,seval,aw6,anT,anS,anR,B,V.dB];simp only[bU,bT,vvB,seval,bW]<;>rfl
abbrev apm:List Int:= [1000,100,1048576,1073741824,1073741824,10000,200]
def aHB(h:Hp):∃ps h' F pl ib cb fb,abD [.agg (V.ofList P6)] h=D (.tuple (.cons (X ps 0) (.cons (iV 0) .nil))) h'/\dV h' F ps aeR pl ib cb fb .aQ .aQ (λ_=>False)/\Nw h h'/\∀j,F j->h.next.nat<=j.nat:=by
 obtain⟨b,C,c1,m⟩:=mkW h (O (N 62 true) P6);have n1:b.next.nat=h.next.nat+1:=by rw[C,bG]
 have L0:=m.ld (q:=0) (x:=H [117]) rfl;have L1:=m.ld (q:=1) (x:=H [112]) rfl;have L2:=m.ld (q:=2) (x:=iV 1000) rfl;have L3:=m.ld (q:=3) (x:=iV 100) rfl;have L4:=m.ld (q:=4) (x:=iV 1048576) rfl;have L5:=m.ld (q:=5) (x:=iV 1073741824) rfl;have L6:=m.ld (q:=6) (x:=iV 1073741824) rfl;have L7:=m.ld (q:=7) (x:=iV 10000) rfl;have L8:=m.ld (q:=8) (x:=iV 200) rfl;have T1:xH [H [117]] b=D (K true) b:=by rw[afg (by decide) (by decide)];rfl
 have T2:xH [H [112]] b=D (K true) b:=by rw[afg (by decide) (by decide)];rfl
 obtain⟨a,E,S,k2⟩:=mkW b (O (N 3 true) (apm.map eu).flatten);have n2:a.next.nat=b.next.nat+1:=by rw[E,bG]
 have B2:bP 3 [Y U 0,Y U 0,Y U 0,Y U 0,Y U 0,Y U 0,Y U 0] 7 [(0,1,iV 1000),(1,1,iV 100),(2,1,iV 1048576),(3,1,iV 1073741824),(4,1,iV 1073741824),(5,1,iV 10000),(6,1,iV 200)] b=D (.slice b.next 0 7 (.kn 7)) a:=by rw[E];rfl
 have r2:Rws (λj=>j=b.next) (flat eu) 1 a (.slice b.next 0 7 (.kn 7)) apm:=Kn.rws (c:=eu) (l:=apm) (cp:=.kn 7) (sz:=1) k2 (λ_=>rfl) (λ_ _ _ _ e=>by cases e;exact j! _);obtain⟨d,G,c3,k3⟩:=mkW a (O (N 130 true) [iV 10000,.aQ,iV 0]);have eL:=aHG a;rw[<-G]at eL;have n3:d.next.nat=a.next.nat+1:=by rw[G,bG]
 have Q:=(m.nw S).ld (q:=7) (x:=iV 10000) rfl;have N3:=((m.nw S).nw c3).ldN (n:=9) rfl;obtain⟨bx,t⟩:∃bx:Bx,bx={id:=1,name:=jc,par:=0,valid:=1,next:=1,mod:=1}:=⟨_,rfl⟩
 have BB:∀g,bK [Y U 0,H [],Y U 0,Y U 0,Y U 0,Y U 0] [(0,1,(Y U 1)),(1,1,(H [73,78,66,79,88])),(3,1,(Y U 1)),(4,1,(Y U 1)),(5,1,(Y U 1))] g=D (.agg (V.ofList (gI bx))) g:=λg=>by rw[t];rfl
 obtain⟨f,I,c4,k4⟩:=mkW d (O (N 55 true) (gI bx));have B4:bP 55 [Y U 0,H [],Y U 0,Y U 0,Y U 0,Y U 0] 1 [(0,6,.agg (V.ofList (gI bx)))] d=D (.slice d.next 0 1 (.kn 1)) f:=by rw[I,t];rfl
 have n4:f.next.nat=d.next.nat+1:=by rw[I,bG]
 obtain⟨z,J,W,k5⟩:=mkW f (O (N 78 true) (P6++ [iV 0,.slice d.next 0 1 (.kn 1),.aQ,X a.next 0,iV 1,iV 0,iV 0]));have B5:∀g,bK zSt [(0,9,.agg (V.ofList P6)),(10,1,.slice d.next 0 1 (.kn 1)),(12,1,X a.next 0),(13,1,(Y U 1))] g=D (.agg (V.ofList (P6++ [iV 0,.slice d.next 0 1 (.kn 1),.aQ,X a.next 0,iV 1,iV 0,iV 0]))) g:=λg=>rfl;have X5:eU 78 (.agg (V.ofList (P6++ [iV 0,.slice d.next 0 1 (.kn 1),.aQ,X a.next 0,iV 1,iV 0,iV 0]))) f=D (X f.next 0) z:=by rw[J];rfl
 have n5:z.next.nat=f.next.nat+1:=by rw[J,bG]
 obtain⟨u6,e6⟩:=aoP (n:=1) k5 (q:=9) (by simp);obtain⟨p,u⟩:∃p,p=z.put f.next (some (O (N 78 true) (stC aeR d.next (.kn 1) .aQ a.next))):=⟨_,rfl⟩
 have Z:yK [X f.next 9,Y U 1] z=D u6 p:=by rw[u];exact e6
 have k6:Kn p f.next (O (N 78 true) (stC aeR d.next (.kn 1) .aQ a.next)):=by rw[u];exact k5.put _
 have P:Ch (λj=>j=f.next) z p:=by rw[u];exact Ch.put _ _ rfl
 have v:Nw h p:=((((c1.trans S).trans c3).trans c4).trans W).then P λj hj e=>by rw[e]at hj;omega
 have M:∀(i j:Pos),i.nat≠j.nat->i≠j:=λi j hn e=>hn (congrArg Pos.nat e);refine⟨f.next,p,(λj=>j=f.next\/j=a.next\/j=d.next),a.next,d.next,.kn 1,true,?_,?_,v,?_⟩
 ·rw[ayS]
  suffices T:aX Tryz.prog [.tmp 2,.tmp 3] (λr h'=>r=.tuple (.cons (X f.next 0) (.cons (iV 0) .nil))/\h'=p) (alr (T.set (some (.agg (V.ofList P6))) (b! 0) T.nil) h) by
   obtain⟨r,h',e,rfl,rfl⟩:=T;exact e
  have rl:aZ 2 (.slice b.next 0 7 (.kn 7)) a=D (Y U 7) a:=r2.len a;simp(disch:=omega)only[vvB,seval,alr,anB,anA,anz,V.dB,<-C,L0,L1,L2,L3,L4,L5,L6,L7,L8,T1,T2,B2,rl];refine Oc.then (dO (σ:=Unit) (n:=7) (pi:=35) (pn:=34) (pc:=36) [1,33] (λ_=> [X h.next 0,.slice b.next 0 7 (.kn 7)]) (λk _ g=>g=a)
   (A:=λfr g=>fr.get (b! 1)=some (X h.next 0)/\g=a) (B:=λ_ _=>False) (s:=())
   (λfr h _ k e1 e2=>by simp only[vvB,seval,anx,e1,e2]) (λfr h k _ e1=>by simp(disch:=omega)only[vvB,seval,anu,e1]) (by decide) (by rw[dP];omega) (qK1) (qK1) (by simp only[Fa,vvB,seval,and_self]) rfl ?_ ?_) ?_ ?_
  ·intro k _ fr g hk y aa fa hI;obtain⟨f1,w,-⟩:=fa;subst hI;obtain⟨x,hx⟩:∃x,apm[k]?=some x:=⟨_,List.getElem?_eq_getElem (show k<apm.length from hk)⟩
   obtain⟨i,q,cs,ix,ex,-,-,-,ld,-⟩:=r2.elt hx;obtain rfl:cs=eu x:=ex;have L:=ld g rfl 0 (iV x) rfl;rw[n!]at L;have hb:1<=x/\x<=2147483647:=by
    have:∀x∈apm,1<=x/\x<=2147483647:=by decide
    exact this x (List.mem_of_getElem? hx)
   have ab:(x<1)=False:=eq_false (by omega);have ac:(x>2147483647)=False:=eq_false (by omega);simp(disch:=omega)only[vvB,seval,anw,anv,w,y,ix,L,ab,ac];exact⟨qK2 y,qK2 aa,(),by simp only[Fa,vvB,seval,f1,w,and_self],rfl⟩
  ·intro _ fr g fa hI;exact⟨fa.1,hI⟩
  ·rintro fr g ⟨f1,rfl⟩;simp(disch:=omega)only[vvB,seval,ant,aiY,aiX,aiW,f1,Q,eL,N3,BB,B4,B5,X5,Z];exact aX.ret (qT0) ⟨rfl,rfl⟩
  ·intro fr g q;exact q.elim
 ·have hb:aeR.boxes= [bx]:=by rw[t];rfl
  refine⟨k6,(((k3.nw c4).nw W).ch P (M _ _ (by omega))),?_,?_,⟨[],.nil,λ_ q=>(by cases q),.inl ⟨rfl,rfl⟩⟩,dD.nil _ _ _ _ _ _,⟨M _ _ (by omega),M _ _ (by omega),M _ _ (by omega)⟩,λj e=>(by cases e),λj e=>(by cases e),λj e=>e.elim,⟨.inl rfl,.inr (.inl rfl),.inr (.inr rfl),λj e=>(by cases e),λj e=>(by cases e)⟩,?_,λ_=>rfl⟩
  ·rw[hb];have:=(k4.nw W).ch P (M _ _ (by omega));simpa using this
  ·intro i o n c e;cases e;exact j! _
  ·intro j q;have n6:=P.next;rcases q with rfl|rfl|rfl<;>omega
 ·intro j q;rcases q with rfl|rfl|rfl<;>omega
end
end Go.Proofs.Im
namespace Go.Im
def iO{h:Hp}{p:Pos}{s:List Nat}{v:V}{es a:List (V×V)}(c:p=h.next)(b:akq (H s) v es=some a):gm .string (.map p) (H s) v (h.new (.map es))=D V.undef (h.new (.map a)):=by
 subst c;show xQ (.map h.next) (H s) v (h.new (.map es))=_;simp only[xQ,dU,b,aph]
def aNO(n:Nat)(x:V)(h:Hp):dZ (.func n) [x] [] h=D (.func (.func n) (.cons x .nil) .nil) h:=(rfl)
def aP0(g:Nat)(x:V)(n:Int)(u:Bool)(h:Hp):bK [.fJ,Y U 0,(K false)] [(0,1,.func (.func g) (.cons x .nil) .nil),(1,1,(Y U n)),(2,1,(K u))] h=D (.agg (.cons (.func (.func g) (.cons x .nil) .nil) (.cons (Y U n) (.cons (K u) .nil)))) h:=(rfl)
end Go.Im
namespace Go.Proofs.Im
section
variable{h h':Hp}{F I:Pos->Prop}{ps pl ib p pc im:Pos}{A:Acc}{cb:Cap}{fb only:Bool}{vm vl vw:V}{f:Nat}{st:Sn}
def aHY(h:Hp):∃pc im h',aDA [] h=D (X pc 0) h'/\Kn h' pc (O (N tCn true) [K false,.cZ,K false,iV 0,.map im])/\Kn h' im (.map (gQ pc))/\pc≠im/\Nw h h'/\h.next.nat<=pc.nat/\h.next.nat<=im.nat:=by
 obtain⟨pc,c⟩:∃pc,pc=h.next:=⟨_,rfl⟩
 obtain⟨a,d,Q,-⟩:=mkW h (O (N tCn true) [K false,.cZ,K false,iV 0,.jM]);have S:Kn a pc (O (N tCn true) [K false,.cZ,K false,iV 0,.jM]):=by rw[d,c];exact Kn.new _ _
 have n1:a.next.nat=h.next.nat+1:=by rw[d,bG]
 have J:bK [(K false),.cZ,(K false),Y U 0,.jM] [] h=D (.agg (V.ofList [K false,.cZ,K false,iV 0,.jM])) h:=rfl;have P:eU tCn (.agg (V.ofList [K false,.cZ,K false,iV 0,.jM])) h=D (X pc 0) a:=by rw[d,c];rfl
 obtain⟨p,b⟩:∃p,p=a.next:=⟨_,rfl⟩
 have L:Z8 a=D (.map p) (a.new (.map [])):=by rw[b];rfl
 have m0:gm .string (.map p) (H [99,97,112,97,98,105,108,105,116,121]) (.agg (.cons (.func (.func 57) (.cons (X pc 0) .nil) .nil) (.cons (Y U 0) (.cons (K false) .nil)))) (a.new (.map []))=D V.undef (a.new (.map (a! 1 (gQ pc)))):=iO b rfl;have Z:gm .string (.map p) (H [110,111,111,112]) (.agg (.cons (.func (.func 58) (.cons (X pc 0) .nil) .nil) (.cons (Y U 0) (.cons (K false) .nil)))) (a.new (.map (a! 1 (gQ pc))))=D V.undef (a.new (.map (a! 2 (gQ pc)))):=iO b rfl;have m2:gm .string (.map p) (H [108,111,103,111,117,116]) (.agg (.cons (.func (.func 59) (.cons (X pc 0) .nil) .nil) (.cons (Y U 0) (.cons (K false) .nil)))) (a.new (.map (a! 2 (gQ pc))))=D V.undef (a.new (.map (a! 3 (gQ pc)))):=iO b rfl;have m3:gm .string (.map p) (H [108,111,103,105,110]) (.agg (.cons (.func (.func 60) (.cons (X pc 0) .nil) .nil) (.cons (Y U 1) (.cons (K false) .nil)))) (a.new (.map (a! 3 (gQ pc))))=D V.undef (a.new (.map (a! 4 (gQ pc)))):=iO b rfl;have m4:gm .string (.map p) (H [115,101,108,101,99,116]) (.agg (.cons (.func (.func 61) (.cons (X pc 0) .nil) .nil) (.cons (Y U 2) (.cons (K false) .nil)))) (a.new (.map (a! 4 (gQ pc))))=D V.undef (a.new (.map (a! 5 (gQ pc)))):=iO b rfl;have m5:gm .string (.map p) (H [101,120,97,109,105,110,101]) (.agg (.cons (.func (.func 62) (.cons (X pc 0) .nil) .nil) (.cons (Y U 2) (.cons (K false) .nil)))) (a.new (.map (a! 5 (gQ pc))))=D V.undef (a.new (.map (a! 6 (gQ pc)))):=iO b rfl;have m6:gm .string (.map p) (H [99,114,101,97,116,101]) (.agg (.cons (.func (.func 63) (.cons (X pc 0) .nil) .nil) (.cons (Y U 2) (.cons (K false) .nil)))) (a.new (.map (a! 6 (gQ pc))))=D V.undef (a.new (.map (a! 7 (gQ pc)))):=iO b rfl;have m7:gm .string (.map p) (H [100,101,108,101,116,101]) (.agg (.cons (.func (.func 64) (.cons (X pc 0) .nil) .nil) (.cons (Y U 2) (.cons (K false) .nil)))) (a.new (.map (a! 7 (gQ pc))))=D V.undef (a.new (.map (a! 8 (gQ pc)))):=iO b rfl;have m8:gm .string (.map p) (H [114,101,110,97,109,101]) (.agg (.cons (.func (.func 65) (.cons (X pc 0) .nil) .nil) (.cons (Y U 2) (.cons (K false) .nil)))) (a.new (.map (a! 8 (gQ pc))))=D V.undef (a.new (.map (a! 9 (gQ pc)))):=iO b rfl;have m9:gm .string (.map p) (H [108,105,115,116]) (.agg (.cons (.func (.func 66) (.cons (X pc 0) .nil) .nil) (.cons (Y U 2) (.cons (K false) .nil)))) (a.new (.map (a! 9 (gQ pc))))=D V.undef (a.new (.map (a! 10 (gQ pc)))):=iO b rfl;have s:gm .string (.map p) (H [115,116,97,116,117,115]) (.agg (.cons (.func (.func 67) (.cons (X pc 0) .nil) .nil) (.cons (Y U 2) (.cons (K false) .nil)))) (a.new (.map (a! 10 (gQ pc))))=D V.undef (a.new (.map (a! 11 (gQ pc)))):=iO b rfl;have t:gm .string (.map p) (H [97,112,112,101,110,100]) (.agg (.cons (.func (.func 68) (.cons (X pc 0) .nil) .nil) (.cons (Y U 2) (.cons (K false) .nil)))) (a.new (.map (a! 11 (gQ pc))))=D V.undef (a.new (.map (a! 12 (gQ pc)))):=iO b rfl;have u:gm .string (.map p) (H [99,104,101,99,107]) (.agg (.cons (.func (.func 58) (.cons (X pc 0) .nil) .nil) (.cons (Y U 3) (.cons (K false) .nil)))) (a.new (.map (a! 12 (gQ pc))))=D V.undef (a.new (.map (a! 13 (gQ pc)))):=iO b rfl;have v:gm .string (.map p) (H [99,108,111,115,101]) (.agg (.cons (.func (.func 69) (.cons (X pc 0) .nil) .nil) (.cons (Y U 3) (.cons (K false) .nil)))) (a.new (.map (a! 13 (gQ pc))))=D V.undef (a.new (.map (a! 14 (gQ pc)))):=iO b rfl;have w:gm .string (.map p) (H [101,120,112,117,110,103,101]) (.agg (.cons (.func (.func 70) (.cons (X pc 0) .nil) .nil) (.cons (Y U 3) (.cons (K true) .nil)))) (a.new (.map (a! 14 (gQ pc))))=D V.undef (a.new (.map (a! 15 (gQ pc)))):=iO b rfl;have x:gm .string (.map p) (H [115,101,97,114,99,104]) (.agg (.cons (.func (.func 71) (.cons (X pc 0) .nil) .nil) (.cons (Y U 3) (.cons (K true) .nil)))) (a.new (.map (a! 15 (gQ pc))))=D V.undef (a.new (.map (a! 16 (gQ pc)))):=iO b rfl;have y:gm .string (.map p) (H [102,101,116,99,104]) (.agg (.cons (.func (.func 72) (.cons (X pc 0) .nil) .nil) (.cons (Y U 3) (.cons (K true) .nil)))) (a.new (.map (a! 16 (gQ pc))))=D V.undef (a.new (.map (a! 17 (gQ pc)))):=iO b rfl;have z:gm .string (.map p) (H [115,116,111,114,101]) (.agg (.cons (.func (.func 73) (.cons (X pc 0) .nil) .nil) (.cons (Y U 3) (.cons (K true) .nil)))) (a.new (.map (a! 17 (gQ pc))))=D V.undef (a.new (.map (a! 18 (gQ pc)))):=iO b rfl;have B:gm .string (.map p) (H [99,111,112,121]) (.agg (.cons (.func (.func 74) (.cons (X pc 0) .nil) .nil) (.cons (Y U 3) (.cons (K true) .nil)))) (a.new (.map (a! 18 (gQ pc))))=D V.undef (a.new (.map (a! 19 (gQ pc)))):=iO b rfl;have C:gm .string (.map p) (H [109,111,118,101]) (.agg (.cons (.func (.func 75) (.cons (X pc 0) .nil) .nil) (.cons (Y U 3) (.cons (K true) .nil)))) (a.new (.map (a! 19 (gQ pc))))=D V.undef (a.new (.map (a! 20 (gQ pc)))):=iO b rfl;have n:a! 20 (gQ pc)=gQ pc:=rfl;obtain⟨o,k,E,-⟩:=mkW a (.map (a! 20 (gQ pc)));have W:Kn o p (.map (gQ pc)):=by rw[k,b,n];exact Kn.new _ _
 have m:=S.nw E;obtain⟨i,g⟩:∃i,i=o.put pc (some (O (N tCn true) [K false,.cZ,K false,iV 0,.map p])):=⟨_,rfl⟩
 have M:aV 1 (X pc 4) (.map p) o=D V.undef i:=by rw[g];exact m.st (q:=4) ⟨rfl,rfl⟩ (by simp)
 have r:aV 1 (X pc 4) (.map p) (a.new (.map (a! 20 (gQ pc))))=D V.undef i:=by rw[<-k];exact M
 have l:pc≠p:=λe=>by rw[c,b]at e;have:=congrArg Pos.nat e;omega
 have G:Ch (λj=>j=pc) o i:=by rw[g];exact Ch.put _ _ rfl
 refine⟨pc,p,i,?_,by rw[g];exact m.put _,W.ch G λe=>l e.symm,l,(Q.trans E).then G λj hj e=>by rw[e,c]at hj;omega,by rw[c];omega,by rw[b];omega⟩;rw[aNn];simp only[vvB,seval,aHJ,aFd,aFc,aFb,aFa,J,P,L,aNO,aP0,m0,Z,m2,m3,m4,m5,m6,m7,m8,m9,s,t,u,v,w,x,y,z,B,C,r];simp only[bU,bT,vvB,seval,bW]
def dV.world(a:dV h F ps A pl ib cb fb vm vl I)(d:Kn h pc (O (N tCn true) [K false,.cZ,K false,iV 0,.map im]))(e:Kn h im (.map (gQ pc)))(b:pc≠im)(c:∀j,F j->j≠pc/\j≠im):
  World h pc im ps {acc:=A,inn:=false,only:=false,cnt:=0,vw:=none} F (λ_=>False) pl ib cb fb vm vl .cZ I:=
 ⟨a,d,e,⟨rfl,λ_ q=>q⟩,b,λj f=>⟨λq=>q,c j f⟩,λ_ q=>q.elim⟩
end
end Go.Proofs.Im
namespace Go.Im
def avu:Ln.Got:=⟨1,(.cons 1 [97] .nil (.cons 1 [76,79,71,73,78] .nil (.cons 1 [117] .nil (.cons 1 [112] .nil .nil))))⟩
def apy:Ln.Got:=⟨1,(.cons 1 [98] .nil (.cons 1 [83,69,76,69,67,84] .nil (.cons 1 [73,78,66,79,88] .nil .nil)))⟩
end Go.Im
namespace Go.Proofs.Im
def aGS:(Uy Ik.flA)= [avu,apy]:=kR
section
variable{bb:Nat}{h h' g h0:Hp}{P F I J Z:Pos->Prop}{ps pl ib p ir pc im:Pos}{A:Acc}{cb:Cap}{fb only u last bare:Bool}{vm vl vv vw:V}{id:Int}{k f n:Nat}{b:Bx}{st:Sn}
def amn{l:List Nat}(h:(l.all λy=>r! y 256)=true):∀y∈l,y<256:=λy a=>by
 have:=List.all_eq_true.1 h y a;simpa[Nat.blt_eq]using this
def aCU{n:Nat}{a b c:Int}(hn:n<100)(v:0<=a/\a<100)(hb:0<=b/\b<100)(i:0<=c/\c<100):(qJ n a b c).length<=1000/\∀x∈qJ n a b c,x<256:=by
 have m:=mJ hn;have o:=mJ (n:=a.toNat) (by omega);have r:=mJ (n:=b.toNat) (by omega);have s:=mJ (n:=c.toNat) (by omega);have one:∀(p d:List Nat),(p.all λy=>r! y 256)=true->(∀c∈d,c<256)->∀t∈ [p++d++ [93]],∀c∈t,c<256:=λp d j hd t ht c i=>by
  simp only[o!]at ht;subst ht;rcases e!.1 i with q|q
  ·rcases e!.1 q with q|q
   ·exact amn j c q
   ·exact hd c q
  ·simp at q;omega
 have lit:∀(p:List Nat),(p.all λy=>r! y 256)=true->∀t∈ [p],∀c∈t,c<256:=λp j t ht c i=>by
  simp only[o!]at ht;subst ht;exact amn j c i
 refine⟨by simp[qJ,lineS,dN];omega,λx e=>?_⟩;unfold qJ at e;rcases e!.1 e with q|e
 ·exact wU (lit _ (by decide)) x q
 rcases e!.1 e with q|e
 ·refine wU (λt ht c i=>?_) x q;simp only[List.mem_cons,List.not_mem_nil,or_false]at ht;rcases ht with rfl|rfl|rfl
  ·exact amn (l:= [42]) (by decide) c i
  ·exact m.2.1 c i
  ·exact amn (l:=aht) (by decide) c i
 rcases e!.1 e with q|e
 ·exact wU (lit _ (by decide)) x q
 rcases e!.1 e with q|e
 ·exact wU (one _ _ (by decide) o.2.1) x q
 rcases e!.1 e with q|e
 ·exact wU (one _ _ (by decide) r.2.1) x q
 ·exact wU (one _ _ (by decide) s.2.1) x e
def aBV(hi:st.inn=false)(a:st.vw=none)(d:0<=st.cnt/\st.cnt<1000):wS pc im ps avu st (okT [97] []) true {st with cnt:=st.cnt+1,inn:=true}:=by
 have:=wS.cmd (pc:=pc) (im:=im) (ps:=ps) (st:=st) (g:=avu) (x:=⟨1,[97],.nil⟩) (y:=⟨1,[76,79,71,73,78],.nil⟩) (kk:=0) (tx:= []) (last:=false) (bare:=false) (s2:= []) (st2:={st with cnt:=st.cnt+1,inn:=true}) rfl rfl rfl rfl rfl ⟨by decide,by decide⟩ ⟨by decide,by decide⟩ ⟨d.1,by omega⟩
  (N9.of (n:=1) (f:=60) (u:=false) (by decide) rfl (.inr (.inl ⟨rfl,hi⟩)) (λbb ir vw P h0 Z h L F J pl ib cb fb vm vl vv I q=>by
   obtain⟨c,e,r⟩:=aDd q rfl rfl rfl;exact⟨c,e,r⟩) rfl) (.inl rfl) ⟨by simp,by simp⟩ ⟨by simp,by simp⟩ (λ_ _ ks e=>by rw[show({st with cnt:=st.cnt+1,inn:=true}:Sn).vw=st.vw from rfl,a]at e;cases e) (by simp[zD,okT,lineS,dN,PU,a])
 have e1:zD 0 [97] [] [] false {st with cnt:=st.cnt+1,inn:=true}=okT [97] []:=by
  unfold zD;rw[if_neg (by decide),if_neg (by simp),show({st with cnt:=st.cnt+1,inn:=true}:Sn).vw=st.vw from rfl,a];rfl
 have e2:Fz 0 false {st with cnt:=st.cnt+1,inn:=true}={st with cnt:=st.cnt+1,inn:=true}:=by
  unfold Fz;rw[if_neg (by simp)];simp only[Sn.mk.injEq,true_and];rw[a];rfl
 rw[e1,e2]at this;exact this
def axW(hi:st.inn=true)(i:0<=st.cnt/\st.cnt<1000)(a:CanBox st.acc k b):wS pc im ps apy st (qJ (Wn st.acc.mails b.id).length b.valid b.next st.acc.clock++okT [98] rwS) true {st with cnt:=st.cnt+1,only:=false,vw:=some (gu st.acc b.id)}:=by
 have c:=aCU (n:=(Wn st.acc.mails b.id).length) (by have:=a.few;omega) a.valid a.next ⟨a.small.clock.1,a.clock⟩;have:=wS.cmd (pc:=pc) (im:=im) (ps:=ps) (st:=st) (g:=apy) (x:=⟨1,[98],.nil⟩) (y:=⟨1,[83,69,76,69,67,84],.nil⟩) (kk:=0) (tx:=rwS) (last:=false) (bare:=true) (s2:=qJ (Wn st.acc.mails b.id).length b.valid b.next st.acc.clock) (st2:={st with cnt:=st.cnt+1,only:=false,vw:=some (gu st.acc b.id)}) rfl rfl rfl rfl rfl ⟨by decide,by decide⟩ ⟨by decide,by decide⟩ ⟨i.1,by omega⟩
  (N9.of (n:=2) (f:=61) (u:=false) (by decide) rfl (.inr (.inr (.inl ⟨rfl,hi⟩))) (λbb ir vw P h0 Z h L F J pl ib cb fb vm vl vv I q=>by
   obtain⟨d,e,r⟩:=aE7 q rfl rfl rfl a (by simp);exact⟨d,e,r⟩) rfl) (.inl rfl) ⟨by decide,by decide⟩ ⟨by omega,c.2⟩ (λ_ e=>by cases e) (by simp[zD,okT,lineS,dN];omega)
 have e1:zD 0 [98] rwS (qJ (Wn st.acc.mails b.id).length b.valid b.next st.acc.clock) true {st with cnt:=st.cnt+1,only:=false,vw:=some (gu st.acc b.id)}=qJ (Wn st.acc.mails b.id).length b.valid b.next st.acc.clock++okT [98] rwS:=by
  unfold zD;rw[if_neg (by decide),if_pos rfl]
 have e2:Fz 0 true ({st with cnt:=st.cnt+1,only:=false,vw:=some (gu st.acc b.id)}:Sn)={st with cnt:=st.cnt+1,only:=false,vw:=some (gu st.acc b.id)}:=by
  unfold Fz;rw[if_pos (.inr rfl)]
 rw[e1,e2]at this;exact this
def aP5(a:dV h F ps A pl ib cb fb vm vl I)(B:CanBox A k b)(W:Ik.aI<=h.next.nat):
  ∃pc im h',ahM [X ps 0] h=D (X pc 0) h'/\WE h F h' pc im ps {acc:=A,inn:=true,only:=false,cnt:=2,vw:=some (gu A b.id)}/\h.next.nat<=pc.nat:=by
 obtain⟨pc,im,S,e1,E,G,l,c,l1,L⟩:=aHY h;have a1:=a.nw c;have M:=a1.world E G l λj f=>⟨λe=>by have:=a.lt j f;rw[e]at this;omega,λe=>by have:=a.lt j f;rw[e]at this;omega⟩
 obtain⟨t,C⟩:∃t,Alls pc im ps (Uy Ik.flA) {acc:=A,inn:=false,only:=false,cnt:=0,vw:=none} t {acc:=A,inn:=true,only:=false,cnt:=2,vw:=some (gu A b.id)}:=by
  rw[aGS];exact⟨_,.go (aBV rfl rfl ⟨by simp,by simp⟩) (.go (axW (st:={acc:=A,inn:=true,only:=false,cnt:=1,vw:=none}) rfl ⟨by simp,by simp⟩ B) (.nil _))⟩
 obtain⟨z,e2,w,x,o,m,d,i,s,r,v,I',Q,f2,y⟩:=aFV M (by have:=c.next;omega) aPX C;refine⟨pc,im,z,?_,⟨w,x,o,m,d,i,s,r,v,I',Q,λj f=>?_,?_⟩,l1⟩
 ·rw[aDy];simp only[vvB,seval,aBK,arR,arQ,arP,afl,e1,e2];simp only[bU,bT,vvB,seval,bW]
 ·have n1:=c.next;rcases f2 j f with(q|q|rfl|rfl)|q
  ·exact .inl q
  ·exact q.elim
  ·exact .inr l1
  ·exact .inr L
  ·exact .inr (by omega)
 ·exact c.ch.trans y λj hj f=>by
   rcases f with q|q|rfl|rfl
   ·exact q
   ·exact q.elim
   ·omega
   ·omega
end
end Go.Proofs.Im
namespace Go.Im
def PW(uid:Bool)(x:Int×Int×Ml):Int:=if uid=true then x.2.1 else x.1
def inM(l:List (Int×Int))(n:Int):Bool:=l.any λr=>decide (n>=r.1)&&decide (n<=r.2)
def aGc(s:List Nat)(star:Int):Option (List (Int×Int)):=
 if 1<=star/\star<=20 then(if s= [49] then some [(1,1)] else if s= [49,58,42] then some [(1,star)] else if star<=9/\s= [48+star.toNat] then some [(star,star)] else none) else none
end Go.Im
namespace Go.Proofs.Im
section
variable{h h' g:Hp}{P:Pos->Prop}{p ir:Pos}{uid only:Bool}{v vk vs:V}{L:List V}{s:List Nat}{n:Int}
def ayv{wr:Wr}{x:Int×Int×Ml}(k:Kn g ir (O wr L))(c:L[4]?=some (K uid)):
  Ov [X ir 0,.agg (V.ofList (msC x vk vs))] g=D (iV (PW uid x)) (g.new (O (N tMs true) (msC x vk vs))):=by
 have a:=Kn.new g (O (N tMs true) (msC x vk vs));have e0:=a.ld (q:=0) (x:=iV x.1) rfl;have e1:=a.ld (q:=1) (x:=iV x.2.1) rfl;have b:=(k.add (O (N tMs true) (msC x vk vs))).ld c;rw[aqP];cases uid
 ·simp only[vvB,seval,XB,QM,QL,adB,V.dB,e0,b];simp only[bU,bT,vvB,seval,bW];rfl
 ·simp only[vvB,seval,XB,QM,QL,adC,V.dB,e1,b];simp only[bU,bT,vvB,seval,bW];rfl
def aHC{x:Int×Int}{wr:Wr}(k:Kn g p (O wr [iV n])):VI [.agg (V.ofList (dK x)),X p 0] g=D (K (decide (n>=x.1)&&decide (n<=x.2))) (g.new (O (N 98 true) (dK x))):=by
 have a:=Kn.new g (O (N 98 true) (dK x));have e0:=a.ld (q:=0) (x:=iV x.1) rfl;have e1:=a.ld (q:=1) (x:=iV x.2) rfl;have e2:=(k.add (O (N 98 true) (dK x))).ld (q:=0) (x:=iV n) rfl;rw[ayU];by_cases b:n>=x.1
 ·simp only[vvB,seval,als,aaL,aaK,V.dB,e0,e1,e2,b,decide_true,Bool.true_and];simp only[bU,bT,vvB,seval,bW]
 ·simp only[vvB,seval,als,aaL,aaK,V.dB,e0,e1,e2,b,decide_false,Bool.false_and];simp only[bU,bT,vvB,seval,bW]
def aEz(p:Pos)(x:V)(g:Hp):dn rJ (.func (.func 329) .nil (.cons (X p 0) .nil)) [x] g=VI [x,X p 0] g:=(rfl)
def aNj{r:List (Int×Int)}(R:Rws P (flat dK) 2 h v r)(m:r.length<=1000):∃h',ahL [v,iV n] h=D (K (inM r n)) h'/\Nw h h':=by
 obtain⟨l,a,c,k⟩:=mkW h (O (N 3 true) [iV n]);obtain⟨j,e2,d⟩:=Kt (R.nw (aN _) c) (aN _) (λx=>decide (n>=x.1)&&decide (n<=x.2)) (by omega) (f:=.func (.func 329) .nil (.cons (X h.next 0) .nil)) (λb cs g _ i e _=>by
  obtain rfl:cs=dK b:=e;rw[aEz,aHC (k.nw i)];exact⟨_,rfl,Nw.new _ _⟩)
 rw[aDx];refine⟨j,?_,c.trans d⟩;simp only[vvB,seval,aBJ,arN,arM,<-a,e2];simp only[bU,bT,vvB,seval,bW];rfl
def aE4{star:Int}{r:List (Int×Int)}(e:aGc s star=some r):∃x,r= [x]/\agR [H s,iV star] h=D (.tuple (.cons (.slice h.next 0 1 (.kn 1)) (.cons (iV 0) .nil))) (h.new (O (N 98 false) (dK x))):=by
 unfold aGc at e;split at e
 ·rename_i d;split at e
  ·rename_i b;cases e;refine⟨(1,1),rfl,?_⟩;have a:Ik.SL [H s,iV star]=some (Ik.rdV aI 1 1):=by
    show(if 1<=star/\star<=20 then _ else _)=_;rw[if_pos d,if_pos b];rfl
   show(match Ik.SL [H s,iV star] with|some r=>SE aI [] r.2 r.1 [] h|none=>_)=_;rw[a];rfl
  ·split at e
   ·rename_i b c;cases e;refine⟨(1,star),rfl,?_⟩;have a:Ik.SL [H s,iV star]=some (Ik.rdV aI 1 star):=by
     show(if 1<=star/\star<=20 then _ else _)=_;rw[if_pos d,if_neg b,if_pos c];rfl
    show(match Ik.SL [H s,iV star] with|some r=>SE aI [] r.2 r.1 [] h|none=>_)=_;rw[a];rfl
   ·split at e
    ·rename_i b c f;cases e;refine⟨(star,star),rfl,?_⟩;have a:Ik.SL [H s,iV star]=some (Ik.rdV aI star star):=by
      show(if 1<=star/\star<=20 then _ else _)=_;rw[if_pos d,if_neg b,if_neg c,if_pos f];rfl
     show(match Ik.SL [H s,iV star] with|some r=>SE aI [] r.2 r.1 [] h|none=>_)=_;rw[a];rfl
    ·cases e
 ·cases e
end
section
variable{bb:Nat}{h h' h0:Hp}{P F I J Z S:Pos->Prop}{ps pl ib p ir pc im i:Pos}{cb:Cap}{fb only:Bool}{v vm vl vv vw:V}{k f n:Nat}{b:Bx}{st st2:Sn}{L a:List V}{s s2:List Nat}{w:Wds}{x:Wd}{r:List (Int×Int)}
def Bd.aNC{b:Nat}{h:Hp}{i:Pos}{q:Nat}{t:TypeId}{l:List V}{s:List Nat}(d:Bd b h i q t l s){k:Nat}(v:V)(hk:k≠q)(g:k≠q+1):
  Bd b (h.put i (some (O (N t true) (l.set k v)))) i q t (l.set k v) s/\Stp (OfB i q l) h (OfB i q (l.set k v)) (h.put i (some (O (N t true) (l.set k v)))):=by
 obtain⟨vb,b1,b2,m⟩:=d.buf;have c:Ch (λj=>j=i) h (h.put i (some (O (N t true) (l.set k v)))):=Ch.put _ _ rfl;have hb:(l.set k v)[q+1]?=some vb:=by rw[d! g];exact b1
 refine⟨⟨d.hb,by rw[jJ];exact d.hi,jZ _ _ _,by rw[d! hk];exact d.addr,⟨vb,hb,b2.ch c m,m⟩,by rw[Tv];exact d.lies⟩,⟨c.mono λj _ e=>.inl e,λj o=>?_⟩⟩;rcases o with o|⟨v2,u,hj⟩
 ·exact .inl (.inl o)
 ·rw[hb]at u;cases u;exact .inl (.inr ⟨vb,b1,hj⟩)
def aIC(q:Rq bb h0 Z h pc im ps ir false w s st L vw P F J pl ib cb fb vm vl vv I)(u:w.get? 0=some x)(af:x.kind=1)(ag:x.text.length<=1000000/\∀c∈x.text,c<256)(hf:Iq (foldM x.text) aaC=some (f,n,true))(hm:ave n st)
  (hc:∀vw',Cmd f bb pc im ps ir true (w.drop 1) s st vw' P a s2 st2) (hl:a.length=5):
  ∃h' vw',ZC [X pc 0,X ir 0,H atS] h=D (.agg (V.ofList a)) h'/\DL bb h0 Z vw' P h' pc im ps ir true (w.drop 1) s2 st2:=by
 obtain⟨z,ae,c1,k1⟩:=mkW h (O (N tA true) zAn);have Q:=q.nw c1;have hz:=q.chz.next;have n1:=c1.next;have ad:=q.bd.hi;have ha:SK w 0=true:=by unfold SK;rw[u];exact decide_eq_true af
 have A0:EU [vw,Y U 0] z=D (K true) z:=by have:=aeY Q.ws 0;rwa[ha]at this
 obtain⟨j,jq,vk,i1,i2,i3,i4,-⟩:=WS.at Q.ws u;have ah:∀h',bD 3 vw (Y U 0) h'=D (X j jq) h':=i1;have ai:aG (X j (jq+1)) z=D (H x.text) z:=i3;obtain⟨rf,B,e2,rfl,c2⟩:=akM (h:=z) (by omega) ag.2;have C:Nw z B:=c2;have m:=Q.nw C;have k2:=k1.nw C;have n2:=c2.next;obtain⟨v',es,W⟩:=m.ws.from (k:=1) (by have:=Wds.C9 u;omega)
 have ac:∀h',eP 3 vw (some (Y U 1)) none none h'=D v' h':=es;have R3:=Q.kr.ld Q.l3;have aa:=m.kr.ld m.l3;have G:3<L.length:=(i!.1 q.l3).1;have M:4<L.length:=(i!.1 q.l4).1;have S3:=TY m.bd.get (q:=3) (y:=v') W.cell G;obtain⟨d3,p3⟩:=m.bd.aNC (k:=3) v' (by omega) (by omega);have S4:=TY d3.get (q:=4) (y:=K true) ⟨rfl,rfl⟩ (by rw[Tv];exact M);obtain⟨d4,p4⟩:=d3.aNC (k:=4) (K true) (by omega) (by omega);have g:Ch (λj=>j=ir) B ((B.put ir (some (O (N 143 true) (L.set 3 v')))).put ir (some (O (N 143 true) ((L.set 3 v').set 4 (K true))))):=(Ch.put (S:=λj=>j=ir) _ _ rfl).trans (Ch.put (S:=λj=>j=ir) _ _ rfl) λ_ _ q=>q;have t:OfB ir 5 L ir:=.inl rfl;have E:h.next≠ir:=λe=>by rw[<-e]at ad;omega
 have d:∀j,OfB ir 5 ((L.set 3 v').set 4 (K true)) j->OfB ir 5 L j\/B.next.nat<=j.nat:=λj o=>by
  rcases p4.sub _ o with o|o
  ·exact p3.sub _ o
  ·rw[jJ]at o;exact .inr o
 have gen:∀(k y:Nat),True:=λ_ _=>trivial;have e1:((L.set 3 v').set 4 (K true))[1]?=L[1]?:=by rw[d! (by omega),d! (by omega)]
 have e0:((L.set 3 v').set 4 (K true))[0]?=L[0]?:=by rw[d! (by omega),d! (by omega)]
 have q4:Rq bb h0 Z ((B.put ir (some (O (N 143 true) (L.set 3 v')))).put ir (some (O (N 143 true) ((L.set 3 v').set 4 (K true))))) pc im ps ir true (w.drop 1) s st ((L.set 3 v').set 4 (K true)) v' P F J pl ib cb fb vm vl vv I:=
  {bd:=d4
   hbb:=q.hbb
   ob:=λj o=>(d j o).elim (q.ob j) λl=>.inr (by omega)
   l1:=e1.trans q.l1
   l3:=by rw[d! (by omega),l! G]
   l4:=by rw[l! (by rw[Tv];exact M)]
   l0:=e0.trans q.l0
   ws:=W.ch g λj _ p=>⟨p,λe=>by have:=(q.old j p).1;have:=(t.from q.bd _).1;rw[e] at*;omega⟩
   wd:=m.wd.ch g λj f e=>q.dis j (e▸t) f
   dis:=λj o f=>(d j o).elim (λo=>q.dis j o f) λl=>by have:=m.wd.lt j f;omega
   old:=q.old
   foot:=q.foot
   chz:=m.chz.trans g λj hj e=>(q.ob j (e▸t)).resolve_right (by omega)}
 have k4:=k2.ch g E;have ab:¬(Ft F J pc im h.next\/OfB ir 5 ((L.set 3 v').set 4 (K true)) h.next):=λe=>by
  rcases e with e|e
  ·have:=q.wd.lt _ e;omega
  ·rcases d _ e with e|e
   ·have:=(OfB.from q.bd _ e).2;omega
   ·have:=k1.2;omega
 rw[asF,asu]
 suffices hT:aX Tryz.prog [.cell 6 tA] (RunT bb h0 Z v' P pc im ps ir true (w.drop 1) a s2 st2)
   (aC QX (aC (aC NK (tT 11 (aC (aC U4 (tT 17 (aC abf Out.ret) Out.nor)) (aC U3 U2)) Out.nor)) auk) (T.set (some (H atS)) (b! 2) (T.set (some (X ir 0)) (b! 1) (T.set (some (X pc 0)) (b! 0) T.nil))) h) by
  obtain⟨r,h',e,rfl,q⟩:=hT;exact⟨h',v',e,q⟩
 generalize ((B.put ir (some (O (N 143 true) (L.set 3 v')))).put ir (some (O (N 143 true) ((L.set 3 v').set 4 (K true)))))=aj at*;simp(disch:=omega)only[vvB,seval,QX,NK,U4,U3,U2,<-ae,R3,aa,A0,ah,ai,e2,ac,S3,S4];exact azl q4 k4 ab hz hf (λ_=>rfl) hm (hc v') hl (qK0) (qK0) (qK0) (qK0)
def N9.behind(d:w.get? 0=some x)(g:x.kind=1)(j:x.text.length<=1000000/\∀c∈x.text,c<256)(m:Iq (foldM x.text) aaC=some (f,n,true))(o:ave n st)
  (l:∀(bb:Nat) (ir:Pos) (vw:V) (P:Pos->Prop),Cmd f bb pc im ps ir true (w.drop 1) [] st vw P a s2 st2) (hl:a.length=5):N9 pc im ps w atS st a s2 st2:=
 λbb h0 Z h ir L vw P F J pl ib cb fb vm vl vv I q=>by
  obtain⟨h',vw',e,r⟩:=aIC q d g j m o (λvw'=>l bb ir vw' P) hl;exact⟨h',vw',P,_,true,e,r⟩
end
end Go.Proofs.Im
namespace Go.Vm
def aCe{h:Hp}{i:Pos}{es:List (V×V)}{s:List Nat}{v z:V}(b:h.get i=some (.map es))(a:lJ (H s) es=some (some v)):Uk .string false z (.map i) (H s) h=D v h:=by
 show LH false z (.map i) (H s) h=_;unfold LH;simp only[b];unfold ahm;rw[a];rfl
def Nw.mkF:∀(l:List Ob) (h:Hp),Nw h (mkF h l)
 | [],h=>Nw.refl h
 |o::l,h=>(Nw.new h o).trans (Nw.mkF l (h.new o))
def Kn.mkF{l:List Ob}{h:Hp}{k:Nat}{o:Ob}(e:l[k]?=some o):Kn (Go.Vm.mkF h l) (b! (h.next.nat+k)) o:=by
 have hk:=(i!.1 e).1;constructor
 ·rw[X8,Pos.fD,if_pos ⟨by omega,by omega⟩,show h.next.nat+k - h.next.nat=k by omega,e]
 ·rw[Ur,Pos.fD];omega
end Go.Vm
namespace Go.Proofs.Im
section
variable{h g:Hp}{p:Pos}
abbrev aOk:List Nat:= [97,108,108]
abbrev notS:List Nat:= [110,111,116]
abbrev aIa:List Nat:= [115,117,98,106,101,99,116]
abbrev ji:List Nat:= [83,117,98,106,101,99,116]
abbrev aBY:List Nat:= [115,101,101,110]
abbrev aoS:List Nat:= [117,110,115,101,101,110]
abbrev gZ:List Nat:= [36,115,101,101,110]
structure KeysAt (p:Pos) (E:List (V×V)) (g:Hp):Prop where
 mp:Kn g p (.map E)
 all:lJ (H aOk) E=some (some (.func (.func 461) .nil .nil))
 nt:lJ (H notS) E=some (some (.func (.func 468) .nil .nil))
 subj:∃q,lJ (H aIa) E=some (some (.func (.func 517) .nil (.cons (X q 0) .nil)))/\Kn g q (O (N 9 true) [H ji])/\p.nat<=q.nat
 seen:∃q,lJ (H aBY) E=some (some (.func (.func 518) .nil (.cons (X q 0) .nil)))/\Kn g q (O (N 9 true) [H gZ])
 unseen:∃q q',lJ (H aoS) E=some (some (.func (.func 511) .nil (.cons (X q 0) .nil)))/\Kn g q (O (N 431 true) [.func (.func 518) .nil (.cons (X q' 0) .nil)])/\Kn g q' (O (N 9 true) [H gZ])
def KeysAt.nw{E:List (V×V)}(k:KeysAt p E g)(c:Nw g h):KeysAt p E h where
 mp:=k.mp.nw c
 all:=k.all
 nt:=k.nt
 subj:=by obtain⟨q,a,b,d⟩:=k.subj;exact⟨q,a,b.nw c,d⟩
 seen:=by obtain⟨q,a,b⟩:=k.seen;exact⟨q,a,b.nw c⟩
 unseen:=by obtain⟨q,q',a,b,d⟩:=k.unseen;exact⟨q,q',a,b.nw c,d.nw c⟩
def keysT{k:Nat}(hk:k<29):tau Ik.aI (succs h.next Ik.aan) (b! (7+k))=b! (h.next.nat+k):=by
 refine TU (by rw[Pos.fD];show 7<=7+k;omega) ?_;rw[Pos.fD,show 7+k - Ik.aI=k from(by show 7+k - 7=k;omega)];exact V8 hk
def aFR(h:Hp):∃g E,Xh [] h=D (.map h.next) g/\Nw h g/\KeysAt h.next E g:=by
 obtain⟨t,ht⟩:∃t,t=tau Ik.aI (succs h.next Ik.aan):=⟨_,rfl⟩
 have e:=Ik.aJc h;rw[ag8,<-ht]at e;obtain⟨l,hl⟩:∃l,l=Ik.aan.map (Ob.ren t):=⟨_,rfl⟩
 rw[<-hl]at e;have a:∀k,k<29->t (b! (7+k))=b! (h.next.nat+k):=λk hk=>by rw[ht];exact keysT hk
 have i:Kn (mkF h l) h.next (.map (Ik.aCv.map λp=>(p.1.ren t,p.2.ren t))):=by
  have:=Kn.mkF (h:=h) (l:=l) (k:=0) (o:=.map (Ik.aCv.map λp=>(p.1.ren t,p.2.ren t))) (by rw[hl];rfl);rwa[n!,Pos.Ii]at this
 have b:Kn (mkF h l) (t (b! 17)) (O (N 9 true) [H ji]):=by rw[a 10 (by omega)];exact Kn.mkF (by rw[hl];rfl)
 have c:Kn (mkF h l) (t (b! 33)) (O (N 9 true) [H gZ]):=by rw[a 26 (by omega)];exact Kn.mkF (by rw[hl];rfl)
 have d:Kn (mkF h l) (t (b! 34)) (O (N 9 true) [H gZ]):=by rw[a 27 (by omega)];exact Kn.mkF (by rw[hl];rfl)
 have f:Kn (mkF h l) (t (b! 35)) (O (N 431 true) [.func (.func 518) .nil (.cons (X (t (b! 34)) 0) .nil)]):=by
  have:l[28]?=some (O (N 431 true) [.func (.func 518) .nil (.cons (X (t (b! 34)) 0) .nil)]):=by rw[hl];rfl
  rw[a 28 (by omega)];exact Kn.mkF this
 refine⟨mkF h l,_,e,Nw.mkF _ _,i,?_,?_,?_,?_,?_⟩
 ·rfl
 ·rfl
 ·exact⟨t (b! 17),by rfl,b,by rw[a 10 (by omega),Pos.fD];omega⟩
 ·exact⟨t (b! 33),by rfl,c⟩
 ·exact⟨t (b! 35),t (b! 34),by rfl,f,d⟩
end
end Go.Proofs.Im
namespace Go.Im
structure Tm where
 kind:Int
 n:Int
 name:List Nat
 text:List Nat
 set:List (Int×Int)
 kids:List Int
def tmC(t:Tm)(vs vk:V):List V:= [iV t.kind,iV t.n,H t.name,H t.text,vs,vk]
def tmE:El Tm:=λP h t cs=>∃vs vk,cs=tmC t vs vk/\Rws P (flat dK) 2 h vs t.set/\Rws P (flat eu) 1 h vk t.kids
def fZ:tmE.Stable:=λ⟨vs,vk,e,a,b⟩ c d=>⟨vs,vk,e,a.ch (aN _) c d,b.ch (aN _) c d⟩
abbrev zTm:List V:= [Y U 0,Y U 0,H [],H [],.aQ,.aQ]
def aQx(t:Tm)(vs vk:V):eH 371 zTm 1 [(0,6,.agg (V.ofList (tmC t vs vk)))]=some (O (N 371 true) (tmC t vs vk),λp=>.slice p 0 1 (.kn 1)):=(rfl)
structure RdK (B:Nat) (h:Hp) (pr po pm:Pos) (vw:V) (box:Int) (vu:V) (out:List Tm) (v:V) (I:Pos->Prop):Prop where
 r:Kn h pr (O (N 298 true) [vw,iV box,vu,X po 0,X pm 0])
 o:Kn h po (O (N 195 true) [v])
 m:Kn h pm (O (N 4 true) [K false])
 t:dD B I tmE 371 6 h v out
 ne:pr≠po/\pr≠pm/\po≠pm
 lo:B<=pr.nat/\B<=po.nat/\B<=pm.nat
 inn:∀j,I j->B<=j.nat/\j≠pr/\j≠po/\j≠pm/\bV v≠some j
 idv:∀j,bV v=some j->j≠pr/\j≠po/\j≠pm
 bn:B<=h.next.nat
 ilt:∀j,I j->j.nat<h.next.nat
def RdK.ch{B:Nat}{h h':Hp}{pr po pm:Pos}{vw vu v:V}{box:Int}{out:List Tm}{I S:Pos->Prop}(k:RdK B h pr po pm vw box vu out v I)(c:Ch S h h')(a:∀j:Pos,j.nat<h.next.nat->B<=j.nat->¬S j):RdK B h' pr po pm vw box vu out v I where
 r:=k.r.ch c (a _ k.r.2 k.lo.1)
 o:=k.o.ch c (a _ k.o.2 k.lo.2.1)
 m:=k.m.ch c (a _ k.m.2 k.lo.2.2)
 t:=k.t.ch fZ c (λj e=>a j (k.t.fF e).2 (k.t.fF e).1) λj hj i=>⟨i,a j hj (k.inn j i).1⟩
 ne:=k.ne
 lo:=k.lo
 inn:=k.inn
 idv:=k.idv
 bn:=c! k.bn c.next
 ilt:=λj i=>h! (k.ilt j i) c.next
def RdK.chS{B:Nat}{h h':Hp}{pr po pm:Pos}{vw vu v:V}{box:Int}{out:List Tm}{I S:Pos->Prop}(k:RdK B h pr po pm vw box vu out v I)(c:Ch S h h')(a:¬S pr)(s2:¬S po)(b:¬S pm)(d:∀j,bV v=some j->¬S j)(e:∀j,I j->¬S j):RdK B h' pr po pm vw box vu out v I where
 r:=k.r.ch c a
 o:=k.o.ch c s2
 m:=k.m.ch c b
 t:=k.t.ch fZ c d λj _ i=>⟨i,e j i⟩
 ne:=k.ne
 lo:=k.lo
 inn:=k.inn
 idv:=k.idv
 bn:=c! k.bn c.next
 ilt:=λj i=>h! (k.ilt j i) c.next
def RdK.nw{B:Nat}{h h':Hp}{pr po pm:Pos}{vw vu v:V}{box:Int}{out:List Tm}{I:Pos->Prop}(k:RdK B h pr po pm vw box vu out v I)(c:Nw h h'):RdK B h' pr po pm vw box vu out v I:=k.ch c λ_ _ _ q=>q
structure Kto (B:Nat) (h:Hp) (pr po pm:Pos) (box:Int) (vu v:V) (I:Pos->Prop) (h':Hp) (vw':V) (out':List Tm) (v':V) (I':Pos->Prop):Prop where
 k:RdK B h' pr po pm vw' box vu out' v' I'
 c:Ch (λj=>j=pr\/j=po\/bV v=some j) h h'
 v:∀j,bV v'=some j->bV v=some j\/h.next.nat<=j.nat
 i:∀j,I' j->I j\/h.next.nat<=j.nat
def Kto.trans{B:Nat}{h g m:Hp}{pr po pm:Pos}{vw1 d vu v v1 v2:V}{box:Int}{o1 o2:List Tm}{I I1 f:Pos->Prop}(a:Kto B h pr po pm box vu v I g vw1 o1 v1 I1)(b:Kto B g pr po pm box vu v1 I1 m d o2 v2 f):Kto B h pr po pm box vu v I m d o2 v2 f where
 k:=b.k
 c:=a.c.trans b.c λj hj q=>by
  rcases q with q|q|q
  ·exact .inl q
  ·exact .inr (.inl q)
  ·exact(a.v j q).elim (λe=>.inr (.inr e)) λl=>by omega
 v:=λj e=>(b.v j e).elim (a.v j) λl=>.inr (c! a.c.next l)
 i:=λj e=>(b.i j e).elim (a.i j) λl=>.inr (c! a.c.next l)
def Kto.nwl{B:Nat}{h g m:Hp}{pr po pm:Pos}{d vu v v2:V}{box:Int}{o2:List Tm}{I f:Pos->Prop}(a:Nw h g)(b:Kto B g pr po pm box vu v I m d o2 v2 f):Kto B h pr po pm box vu v I m d o2 v2 f where
 k:=b.k
 c:=(a.ch (S:=λj=>j=pr\/j=po\/bV v=some j)).trans b.c λj _ q=>q
 v:=λj e=>(b.v j e).elim .inl λl=>.inr (c! a.next l)
 i:=λj e=>(b.i j e).elim .inl λl=>.inr (c! a.next l)
end Go.Im
namespace Go.Proofs.Im
section
variable{B:Nat}{h h':Hp}{pr po pm q:Pos}{vw vu v vs vk:V}{box:Int}{out:List Tm}{I P0:Pos->Prop}{t:Tm}{x:Int}
def _root_.Go.Im.Kto.lift{h0:Hp}{vw' v':V}{out':List Tm}{I':Pos->Prop}(b:Nw h0 h)(d:∀j:Pos,P0 j->h0.next.nat<=j.nat)(a:Kto B h pr po pm box vu v (λj=>I j\/P0 j) h' vw' out' v' I'):Kto B h0 pr po pm box vu v I h' vw' out' v' I' where
 k:=a.k
 c:=(b.ch (S:=λj=>j=pr\/j=po\/bV v=some j)).trans a.c λ_ _ q=>q
 v:=λj e=>(a.v j e).elim .inl λl=>.inr (c! b.next l)
 i:=λj e=>(a.i j e).elim (λe=>e.elim .inl λq=>.inr (d j q)) λl=>.inr (c! b.next l)
def _root_.Go.Im.RdK.five{h0:Hp}(b:RdK B h0 pr po pm vw box vu out v I)(a:∀j:Pos,P0 j->h0.next.nat<=j.nat):∀j:Pos,j.nat<h.next.nat->P0 j->B<=j.nat/\j≠pr/\j≠po/\j≠pm/\bV v≠some j:=by
 have nx:∀j:Pos,j.nat<h0.next.nat->∀i:Pos,h0.next.nat<=i.nat->i≠j:=λj hj i hi e=>by rw[e]at hi;omega
 exact λj _ q=>⟨c! b.bn (a j q),nx _ b.r.2 _ (a j q),nx _ b.o.2 _ (a j q),nx _ b.m.2 _ (a j q),λe=>nx _ (b.t.fF e).2 _ (a j q) rfl⟩
def asG(k:RdK B h pr po pm vw box vu out v I)(rs:Rws P0 (flat dK) 2 h vs t.set)(rk:Rws P0 (flat eu) 1 h vk t.kids)(C:∀j:Pos,j.nat<h.next.nat->P0 j->B<=j.nat/\j≠pr/\j≠po/\j≠pm/\bV v≠some j)(hl:out.length<100):
  ∃v' h' I',CJ [X pr 0,.agg (V.ofList (tmC t vs vk))] h=D (Y U (out.length:Int)) h'/\Kto B h pr po pm box vu v (λj=>I j\/P0 j) h' vw (out++ [t]) v' I':=by
 obtain⟨y,E,p,k1⟩:=mkW h (O (N 371 true) (tmC t vs vk));have f:=k.nw p;have n1:=p.next;have G:=(f.r.bump 1).ld (q:=3) (x:=X po 0) rfl;have W:=(f.o.bump 1).ld (q:=0) (x:=v) rfl;have LN:=(k1.bump 1).ldN (n:=6) rfl;have T0:dD B (λj=>j.nat<h.next.nat/\(I j\/P0 j)) tmE 371 6 y v out:=(k.t.mono fZ (λj hj i=>⟨hj,.inl i⟩)).nw fZ p;obtain⟨v',z,e3,o3,s,n3,ve⟩:=dD.app1 (bt:=96) (P':=λj=>j.nat<h.next.nat/\(I j\/P0 j)) T0 fZ f.bn (cs:=tmC t vs vk) (x:=t) rfl (λj _ q=>q)
  ⟨vs,vk,rfl,rs.ch (aN _) p λj hj q=>⟨⟨hj,.inr q⟩,λq=>q⟩,rk.ch (aN _) p λj hj q=>⟨⟨hj,.inr q⟩,λq=>q⟩⟩
  (λj _ q=>q.2.elim (λi=>(f.inn j i).2.2.2.2) λi=>(C j q.1 i).2.2.2.2) (by omega)
 have d:∀j,bV v'=some j->y.next.nat<j.nat:=λj e=>by rw[ve]at e;cases e;rw[Pos.fA];omega
 have P:=f.r.ch s λe=>(f.idv pr e).1 rfl;have M:=f.o.ch s λe=>(f.idv po e).2.1 rfl;have m3:=f.m.ch s λe=>(f.idv pm e).2.2 rfl;have Z:=P.ld (q:=3) (x:=X po 0) rfl;have cN:∀{k:Out},chk (λh=>aG (X pr 3) h) (X po 0) k 1 [aK 1 y]=k:=sN rfl G;obtain⟨g,l⟩:∃g,g=z.put po (some (O (N 195 true) [v'])):=⟨_,rfl⟩
 have S4:aV 1 (X po 0) v' z=D V.undef g:=by rw[l];exact M.st (q:=0) o3.cell (show 0<1 by omega)
 have L:Kn g po (O (N 195 true) [v']):=by rw[l];exact M.put _
 have u:Ch (λj=>j=po) z g:=by rw[l];exact Ch.put _ _ rfl
 have Q:=P.ch u λe=>k.ne.1 e;have L4:=Q.ld (q:=3) (x:=X po 0) rfl;have L5:=L.ld (q:=0) (x:=v') rfl;have J:dD B (λj=>j.nat<h.next.nat/\(I j\/P0 j)) tmE 371 6 g v' (out++ [t]):=o3.ch fZ u (λj e q=>by have:=d j e;rw[q]at this;have:=k.o.2;omega) λj hj q=>⟨q,λe=>by
  rcases q.2 with i|i
  ·exact(k.inn j i).2.2.1 e
  ·exact(C j q.1 i).2.2.1 e⟩
 have LL:=J.len g;have w:((out++ [t]).length:Int) - 1=(out.length:Int):=by simp
 refine⟨v',g,_,?_,⟨⟨Q,L,m3.ch u λe=>k.ne.2.2 e.symm,J,k.ne,k.lo,λj q=>?_,λj e=>?_,?_,λj q=>by have:=q.1;have:=u.next;have:=s.next;omega⟩,?_,λj e=>.inr (by have:=d j e;omega),λj q=>.inl q.2⟩⟩
 ·rw[ay2];simp(disch:=omega)only[vvB,seval,aw8,an6,an5,an4,o8,V.dB,<-E,G,W,LN,aQx,e3,Z,cN,S4,L4,L5,LL,w];simp only[bU,bT,vvB,seval,bW]
 ·rcases q.2 with i|i
  ·have:=k.inn j i;exact⟨this.1,this.2.1,this.2.2.1,this.2.2.2.1,λe=>by have:=d j e;have:=q.1;omega⟩
  ·have:=C j q.1 i;exact⟨this.1,this.2.1,this.2.2.1,this.2.2.2.1,λe=>by have:=d j e;have:=q.1;omega⟩
 ·have:=d j e;have a:=k.r.2;have b:=k.o.2;have c:=k.m.2;exact⟨λe=>by rw[e]at this;omega,λe=>by rw[e]at this;omega,λe=>by rw[e]at this;omega⟩
 ·have:=u.next;have:=s.next;have:=k.bn;omega
 ·exact((p.ch (S:=λj=>j=pr\/j=po\/bV v=some j)).trans s λj _ e=>.inr (.inr e)).trans u λj _ e=>.inr (.inl e)
def alL{h0:Hp}(k:RdK B h0 pr po pm vw box vu out v I)(a:Nw h0 h)(d:Rws P0 (flat dK) 2 h vs t.set)(rk:Rws P0 (flat eu) 1 h vk t.kids)(b:∀j:Pos,P0 j->h0.next.nat<=j.nat)(hl:out.length<100):
  ∃v' h' I',CJ [X pr 0,.agg (V.ofList (tmC t vs vk))] h=D (Y U (out.length:Int)) h'/\Kto B h0 pr po pm box vu v I h' vw (out++ [t]) v' I':=by
 obtain⟨v',h',I',e,c⟩:=asG (k.nw a) d rk (k.five b) hl;exact⟨v',h',I',e,c.lift a b⟩
end
section
variable{B:Nat}{h h' g:Hp}{pr po pm q:Pos}{vw vu v vk w:V}{box kd:Int}{out:List Tm}{I P0 P:Pos->Prop}{t:Tm}{x:Int}{kids:List Int}{ws:Wds}{s:List Nat}
def aQr(a:w.cells= [w]/\iq w=true)(kd:Int)(ks:List Int)(h:Hp):bK zTm [(0,1,Y U kd),(5,1,w)] h=D (.agg (V.ofList (tmC ⟨kd,0,[],[],[],ks⟩ .aQ w))) h:=by
 unfold bK;simp only[Ir,a.1,a.2];rfl
def aQs(kd:Int)(s:List Nat)(h:Hp):bK zTm [(0,1,Y U kd),(3,1,H s)] h=D (.agg (V.ofList (tmC ⟨kd,0,[],s,[],[]⟩ .aQ .aQ))) h:=(rfl)
def aQt(kd:Int)(n s:List Nat)(h:Hp):bK zTm [(0,1,Y U kd),(2,1,H n),(3,1,H s)] h=D (.agg (V.ofList (tmC ⟨kd,0,n,s,[],[]⟩ .aQ .aQ))) h:=(rfl)
def aQq(a:w.cells= [w]/\iq w=true)(kd b:Int)(l:List (Int×Int))(h:Hp):bK zTm [(0,1,Y U kd),(1,1,Y U b),(4,1,w)] h=D (.agg (V.ofList (tmC ⟨kd,b,[],[],l,[]⟩ w .aQ))) h:=by
 unfold bK;simp only[Ir,a.1,a.2];rfl
abbrev rV(n:Int)(b:Bool):V:=.tuple (.cons (Y U n) (.cons (K b) .nil))
def aoO(k:RdK B h pr po pm vw box vu out v I)(kd:Int)(rk:Rws P0 (flat eu) 1 h vk kids)(b:∀j:Pos,j.nat<h.next.nat->P0 j->B<=j.nat/\j≠pr/\j≠po/\j≠pm/\bV v≠some j)(hl:out.length<100):
  ∃v' h' I',xI [X pr 0,Y U kd,vk] h=D (Y U (out.length:Int)) h'/\Kto B h pr po pm box vu v (λj=>I j\/P0 j) h' vw (out++ [⟨kd,0,[],[],[],kids⟩]) v' I':=by
 obtain⟨v',h',I',e,a⟩:=asG k (t:=⟨kd,0,[],[],[],kids⟩) (P0:=P0) (Rws.aQ P0 (flat dK) 2 h) rk b hl;refine⟨v',h',I',?_,a⟩;rw[axI];simp only[vvB,seval,aso,ajE,ajD,aQr rk.cell kd kids,e];simp only[bU,bT,vvB,seval,bW]<;>rfl
def asH{h0:Hp}(k:RdK B h0 pr po pm vw box vu out v I)(a:Nw h0 h)(kd:Int)(rk:Rws P0 (flat eu) 1 h vk kids)(b:∀j:Pos,P0 j->h0.next.nat<=j.nat)(hl:out.length<100):
  ∃v' h' I',xI [X pr 0,Y U kd,vk] h=D (Y U (out.length:Int)) h'/\Kto B h0 pr po pm box vu v I h' vw (out++ [⟨kd,0,[],[],[],kids⟩]) v' I':=by
 obtain⟨v',h',I',e,c⟩:=aoO (k.nw a) kd rk (k.five b) hl;exact⟨v',h',I',e,c.lift a b⟩
def aH8(k:RdK B h pr po pm vw box vu out v I)(hl:out.length<100):
  ∃v' h' I',VN [X pr 0] h=D (rV out.length true) h'/\Kto B h pr po pm box vu v I h' vw (out++ [⟨1,0,[],[],[],[]⟩]) v' I':=by
 obtain⟨v',h',I',e,a⟩:=asH k (Nw.refl h) 1 (Rws.aQ (λ_=>False) (flat eu) 1 h) (λ_ q=>q.elim) hl;refine⟨v',h',I',?_,a⟩;rw[ay4];simp only[vvB,seval,axa,aoa,an9,e];simp only[bU,bT,vvB,seval,bW]<;>rfl
def asJ(k:RdK B h pr po pm vw box vu out v I)(b:Kn h q (O (N 9 true) [H s]))(hl:out.length<100):
  ∃v' h' I',CP [X pr 0,X q 0] h=D (rV out.length true) h'/\Kto B h pr po pm box vu v I h' vw (out++ [⟨6,0,[],s,[],[]⟩]) v' I':=by
 obtain⟨v',h',I',e,a⟩:=alL k (Nw.refl h) (t:=⟨6,0,[],s,[],[]⟩) (P0:=λ_=>False) (Rws.aQ _ (flat dK) 2 h) (Rws.aQ _ (flat eu) 1 h) (λ_ q=>q.elim) hl;have L:=b.ld (q:=0) (x:=H s) rfl;refine⟨v',h',I',?_,a⟩;rw[axK];simp only[vvB,seval,asr,ajN,ajM,L,aQs,e];simp only[bU,bT,vvB,seval,bW]<;>rfl
def aFO(k:RdK B h pr po pm vw box vu out v I)(n:WS P h vw ws)(e0:ws.get? 0=some ⟨1,s,.nil⟩):
  ∃vw' h',Xg [X pr 0] h=D (.tuple (.cons (H s) (.cons (K true) .nil))) h'/\RdK B h' pr po pm vw' box vu out v I/\Ch (λj=>j=pr) h h'/\WS P h vw' (ws.drop 1):=by
 have p:=Wds.C9 e0;obtain⟨vw',e1,u⟩:=n.from (k:=1) (by omega)
 have L:=k.r.ld (q:=0) (x:=vw) rfl;have C:=n.len h;obtain⟨j,q,E,z,l0,l1,-,-⟩:=WS.at n e0;have f:∀h',bD 3 vw (Y U 0) h'=D (X j q) h':=z;have l:aG (X j (q+0)) h=D (Y U 1) h:=l0;have hn:decide ((ws.len:Int)=0)=false:=decide_eq_false (by omega);obtain⟨c,a⟩:∃c,c=h.put pr (some (O (N 298 true) [vw',iV box,vu,X po 0,X pm 0])):=⟨_,rfl⟩
 have y:aV 1 (X pr 0) vw' h=D V.undef c:=by rw[a];exact k.r.st (q:=0) u.cell (show 0<5 by omega)
 have b:Ch (λj=>j=pr) h c:=by rw[a];exact Ch.put _ _ rfl
 refine⟨vw',c,?_,?_,b,u⟩
 ·rw[axF];have d:∀g,eP 3 vw (some (Y U 1)) none none g=D vw' g:=e1;simp(disch:=omega)only[vvB,seval,asj,ajs,ajr,ajq,ajp,ajo,L,C,hn,f,l,l1,d,y];simp only[bU,bT,vvB,seval,bW]<;>rfl
 ·refine⟨by rw[a];exact k.r.put _,k.o.ch b λe=>k.ne.1 e.symm,k.m.ch b λe=>k.ne.2.1 e.symm,k.t.ch fZ b (λj e q=>(k.idv j e).1 q) λj _ i=>⟨i,(k.inn j i).2.1⟩,k.ne,k.lo,k.inn,k.idv,c! k.bn b.next,λj i=>h! (k.ilt j i) b.next⟩
end
section
variable{B:Nat}{h h' d g:Hp}{pr po pm p q:Pos}{vw vw1 vu v v1 vk f:V}{box:Int}{out a:List Tm}{I I1 P0 P:Pos->Prop}{t:Tm}{x n:Int}{kids:List Int}{ws:Wds}{s nm:List Nat}{b:Bool}
def aDF(k:RdK B h pr po pm vw box vu out v I)(r:Kn h q (O (N 9 true) [H nm]))(o:q≠pr)(w:WS P h vw ws)(e0:ws.get? 0=some ⟨1,s,.nil⟩)(hl:out.length<100):
  ∃vw' v' h' I',J8 [X pr 0,X q 0] h=D (rV out.length true) h'/\Kto B h pr po pm box vu v I h' vw' (out++ [⟨12,0,nm,s,[],[]⟩]) v' I'/\WS P h vw' (ws.drop 1):=by
 obtain⟨vw',d,e1,i,c,u⟩:=aFO k w e0;obtain⟨v',m,I',e2,l⟩:=alL i (Nw.refl d) (t:=⟨12,0,nm,s,[],[]⟩) (P0:=λ_=>False) (Rws.aQ _ (flat dK) 2 d) (Rws.aQ _ (flat eu) 1 d) (λ_ q=>q.elim) hl;have L:=(r.ch c o).ld (q:=0) (x:=H nm) rfl;refine⟨vw',v',m,I',?_,Kto.trans (v1:=v) (o1:=out) (I1:=I) ⟨i,c.mono λj _ q=>.inl q,λj e=>.inl e,λj e=>.inl e⟩ l,u⟩;rw[atj];simp only[vvB,seval,aoj,ajN,aga,af9,e1,L,aQt,e2];simp only[bU,bT,vvB,seval,bW]<;>rfl
def amK(n:Int)(h:Hp):bP 3 [Y U 0] 1 [(0,1,Y U n)] h=D (.slice h.next 0 1 (.kn 1)) (h.new (O (N 3 true) [iV n])):=(rfl)
def aND(n:Int)(h:Hp):Rws (λj=>j=h.next) (flat eu) 1 (h.new (O (N 3 true) [iV n])) (.slice h.next 0 1 (.kn 1)) [n]:=Kn.rws (c:=eu) (l:= [n]) (cp:=.kn 1) (sz:=1) (Kn.new _ _) (λ_=>rfl) (λ_ _ _ _ e=>by cases e;exact j! _)
def asI [InK](y:Kn h q (O (N 431 true) [f]))(w:dn WQ f [X pr 0] h=D (rV n b) d)(i:Kto B h pr po pm box vu v I d vw1 a v1 I1)(hl:a.length<100):
  ∃v' h' I',CO [X pr 0,X q 0] h=D (rV a.length b) h'/\Kto B h pr po pm box vu v I h' vw1 (a++ [⟨3,0,[],[],[],[n]⟩]) v' I'/\Kto B d pr po pm box vu v1 I1 h' vw1 (a++ [⟨3,0,[],[],[],[n]⟩]) v' I':=by
 have L:=y.ld (q:=0) (x:=f) rfl;obtain⟨r,c,m,-⟩:=mkW d (O (N 3 true) [iV n]);have z:=i.k.nw m;have C:d.next.nat<r.next.nat:=by rw[c,bG];omega
 obtain⟨v',u,I',o,l⟩:=asH i.k m 3 (P0:=λj=>j=d.next) (vk:=.slice d.next 0 1 (.kn 1)) (kids:= [n]) (by rw[c];exact aND n d) (λj e=>by
  subst e;exact j! _) hl
 refine⟨v',u,I',?_,i.trans l,l⟩;rw[axJ];simp only[vvB,seval,asq,ajN,ajG,ajF,L,w,amK,<-c,o];simp only[bU,bT,vvB,seval,bW]<;>rfl
def aH7(g:Nat)(h:Hp):VL [.func (.func g) .nil .nil] h=D (.func (.func 511) .nil (.cons (X h.next 0) .nil)) (h.new (O (N 431 true) [.func (.func g) .nil .nil])):=by
 have e:∀h,eU 431 (.func (.func g) .nil .nil) h=D (X h.next 0) (h.new (O (N 431 true) [.func (.func g) .nil .nil])):=λh=>rfl;rw[ay3];simp only[vvB,seval,aw9,an8,an7,e];simp only[bU,bT,vvB,seval,bW]<;>rfl
def aCY [InK](p:Pos)(x:V)(g:Hp):dn ar7 (.func (.func 511) .nil (.cons (X p 0) .nil)) [x] g=CO [x,X p 0] g:=(rfl)
def aCZ [InK](x:V)(g:Hp):dn WQ (.func (.func 330) .nil .nil) [x] g=Xi [x] g:=(rfl)
def aC0 [InK](p:Pos)(x:V)(g:Hp):dn WQ (.func (.func 518) .nil (.cons (X p 0) .nil)) [x] g=CP [x,X p 0] g:=(rfl)
def aFP [InK](j:Xi [X pr 0] (h.new (O (N 431 true) [.func (.func 330) .nil .nil]))=D (rV n b) d)(i:Kto B (h.new (O (N 431 true) [.func (.func 330) .nil .nil])) pr po pm box vu v I d vw1 a v1 I1)(hl:a.length<100):
  ∃v' h' I',PI [X pr 0] h=D (rV a.length b) h'/\Kto B h pr po pm box vu v I h' vw1 (a++ [⟨3,0,[],[],[],[n]⟩]) v' I'/\Kto B d pr po pm box vu v1 I1 h' vw1 (a++ [⟨3,0,[],[],[],[n]⟩]) v' I':=by
 obtain⟨v',h',I',e,K',c⟩:=asI (Kn.new h (O (N 431 true) [.func (.func 330) .nil .nil])) (by rw[aCZ];exact j) i hl;refine⟨v',h',I',?_,K'.nwl (Nw.new _ _),c⟩;rw[axG];simp only[vvB,seval,asl,aoa,ajt,aH7,aCY,e];simp only[bU,bT,vvB,seval,bW]<;>rfl
end
section
variable{B:Nat}{h h' f g:Hp}{pr po pm p q:Pos}{vw vw1 vu v v1 vk:V}{box:Int}{out d:List Tm}{I I1 P:Pos->Prop}{t:Tm}{x n:Int}{ws:Wds}{s:List Nat}{b:Bool}{c:Nat}
def azs(h:Hp):eY 149 [Y U 0,H [],.aQ] h=D (X h.next 0) (h.new (O (N 149 true) [Y U 0,H [],.aQ])):=(rfl)
def ard(c:Nat)(s:List Nat)(h:Hp):mF (H (c::s)) (Y U 0) h=D (Y .u8 (c:Int)) h:=(rfl)
def aDN(c:Nat)(s:List Nat)(h:Hp):aJ .neq .none (H (c::s)) (H []) h=D (K true) h:=(rfl)
def PL [InK](k:RdK B h pr po pm vw box vu out v I)(tw:WS P h vw ws)(hP:∀j,P j->j.nat<B)(e0:ws.get? 0=some ⟨1,c::s,.nil⟩)(hc:65<=c)(hb:∀x∈c::s,x<256)(al:s.length<1000){Q:Hp->V->List Tm->Int->Prop}
  (Z6:∀(vw':V) (p:Pos) (E:List (V×V)) (hd:Hp),RdK B hd pr po pm vw' box vu out v I->WS P hd vw' (ws.drop 1)->KeysAt p E hd->h.next.nat<=p.nat->
   ∃W a b vw1 d v1 I1 f n,lJ (H (foldM (c::s))) E=some (some (.func (.func W) a b))/\dn FI (.func (.func W) a b) [X pr 0] hd=D (rV n true) f/\Kto B hd pr po pm box vu v I f vw1 d v1 I1/\Q f vw1 d n):
  ∃vw1 v1 f I1 d n,qf [X pr 0] h=D (rV n true) f/\Kto B h pr po pm box vu v I f vw1 d v1 I1/\Q f vw1 d n:=by
 have aj:=Wds.C9 e0;obtain⟨j0,q0,vk,ix,ldN⟩:=WS.atN tw e0;have ah:∀h',bD 3 vw (Y U 0) h'=D (X j0 q0) h':=ix;obtain⟨vw',e1,t1⟩:=tw.from (k:=1) (by omega)
 have ad:∀g,eP 3 vw (some (Y U 1)) none none g=D vw' g:=e1;have L0:=k.r.ld (q:=0) (x:=vw) rfl;have ll:=tw.len h;have hn:decide ((ws.len:Int)=0)=false:=decide_eq_false (by omega);obtain⟨Z,ag,J,ka⟩:=mkW h (O (N 149 true) [Y U 1,H (c::s),vk]);have Sa:aV 3 (X h.next 0) (.agg (.cons (Y U 1) (.cons (H (c::s)) (.cons vk .nil)))) (h.new (O (N 149 true) [Y U 0,H [],.aQ]))=D V.undef Z:=by rw[ag];exact XP rfl rfl rfl
 have w:=k.nw J;have La:=w.r.ld (q:=0) (x:=vw) rfl;obtain⟨l,C⟩:∃f,f=Z.put pr (some (O (N 298 true) [vw',iV box,vu,X po 0,X pm 0])):=⟨_,rfl⟩
 have S1:aV 1 (X pr 0) vw' Z=D V.undef l:=by rw[C];exact w.r.st (q:=0) t1.cell (show 0<5 by omega)
 have u:Ch (λj=>j=pr) Z l:=by rw[C];exact Ch.put _ _ rfl
 have ai:h.next≠pr:=λe=>by have:=k.r.2;rw[<-e]at this;omega
 have kb:=ka.ch u ai;have Kb:RdK B l pr po pm vw' box vu out v I:=⟨by rw[C];exact w.r.put _,w.o.ch u λe=>k.ne.1 e.symm,w.m.ch u λe=>k.ne.2.1 e.symm,w.t.ch fZ u (λj e q=>(k.idv j e).1 q) λj _ i=>⟨i,(k.inn j i).2.1⟩,k.ne,k.lo,k.inn,k.idv,c! w.bn u.next,λj i=>h! (w.ilt j i) u.next⟩
 have tb:WS P l vw' (ws.drop 1):=(t1.ch J λj _ q=>⟨q,λq=>q⟩).ch u λj _ q=>⟨q,λe=>by have:=hP j q;have:=k.lo.1;rw[e] at*;omega⟩
 have W0:=kb.ld (q:=0) (x:=Y U 1) rfl;have W1:=kb.ld (q:=1) (x:=H (c::s)) rfl;have ak:=(kb.bump 0).ld (q:=1) (x:=H (c::s)) rfl;obtain⟨ae,E,ek,M,kk⟩:=aFR l;have W2:=(kb.nw M).ld (q:=1) (x:=H (c::s)) rfl;obtain⟨hd,ef,L⟩:=TB (s:=c::s) ae (by simp;omega) hb;have G:=kk.nw L;obtain⟨W,a,b,vw1,d,v1,I1,f,n,af,y,Z3,hQ⟩:=Z6 vw' l.next E hd ((Kb.nw M).nw L) ((tb.ch M λj _ q=>⟨q,λq=>q⟩).ch L λj _ q=>⟨q,λq=>q⟩) G (c! J.next u.next);have lk:=aCe (z:=.fJ) G.mp.1 af;have eN:∀g,aJ .eql .func (.func (.func W) a b) .fJ g=D (K false) g:=λ_=>rfl;have aa:decide ((c:Int)=42)=false:=decide_eq_false (by omega);have ab:decide ((c:Int)>=48)=true:=decide_eq_true (by omega);have ac:decide ((c:Int)<=57)=false:=decide_eq_false (by omega);have cN:∀{k:Out},chk (λg=>aG (X h.next 1) g) (H (c::s)) k 1 [l]=k:=sN rfl W1;refine⟨vw1,v1,f,I1,d,n,?_,?_,hQ⟩
 ·rw[akg];simp(disch:=omega)only[vvB,seval,alx,aoa,aaY,aaX,ajp,aaV,aaU,aaT,ajK,ajJ,ajI,L0,ll,hn,ah,ldN,azs,Sa,La,ad,S1,W0,W1,aDN,ard,aa,ab,ac,ek,W2,cN,ef,lk,eN,y];simp only[bU,bT,vvB,seval,bW]<;>rfl
 ·refine Kto.trans (v1:=v) (o1:=out) (I1:=I) (vw1:=vw') ⟨Kb,(J.ch (S:=λj=>j=pr\/j=po\/bV v=some j)).trans u λj _ q=>.inl q,λj e=>.inl e,λj e=>.inl e⟩ (Z3.nwl (M.trans L))
end
end Go.Proofs.Im
