/- Lemmas that the claim's last text uses. No conditions. -/
import Derived.Test.YtpgppmioigacoaaGreatDoorDrAS
import Derived.Test.YtpgppmioigacoaaGreatDoorDrAP
set_option linter.all false
set_option maxRecDepth 100000
open Nat renaming reduceEqDiff→a!,le_refl→v!,add_zero→B!,blt→P!
open List renaming take→b!,mem_append→c!,length_map→d!,mem_map→e!,range→g!,length_append→h!,mem_filter→i!,mem_iff_getElem?→j!,getElem?_eq_some_iff→l!,pairwise_map→n!,mem_of_getElem?→o!,flatMap_append→q!,pairwise_cons→r!,filter_congr→t!,eraseIdx_eq_take_drop_succ→u!,range_succ→w!,map_append→x!,mem_cons→y!,map_cons→z!,filter_eq_self→C!,mem_singleton→D!,findIdx?_cons→E!,getElem?_map→F!,not_mem_nil→G!,length_cons→H!,filter_cons→I!,nil_append→K!,find?_cons→L!,filter_map→M!,map_set→N!,map_map→O!
open Go.Vm.Pos renaming of→k!
open Int renaming le_refl→p!,le_trans→Q!
open Go.Vm.V renaming int→Y,ptr→X,bool→K,str→H
open Go.IntKind renaming i64→U
open Go.Vm.Ob renaming cells→O
open Go.Vm.Wr renaming rw→N
open Go.Vm.R renaming ok→D
noncomputable section
open Go Go.Proofs Go.Vm Go.Ln Go.Im Go.Proofs.Im
namespace Go.Proofs.Im
section
variable{h h' g:Hp}{P F I d:Pos->Prop}{ps pl ib p pc cp i:Pos}{A B:Acc}{cb:Cap}{fb only:Bool}{v vm vl:V}{id:Int}{k f n o:Nat}{b:Bx}
theorem atY(a:dG h F ps A pl ib cb fb vm vl I)(ho:dH 0 I jf tMl 8 h vm A.aP)(hC:CanApp A o b)(r:Rws P (flat gV) 1 h v [b.id]){at_:Int}(d6:0<=at_/\at_<=1000000):
  ∃rr h' F' E bh I',KF [X ps 0,v,.aQ,Y U at_,H []] h=D rr h'/\dG h' F' ps (Px A b at_) pl ib cb fb E bh I'/\dH 0 I' jf tMl 8 h' E (Px A b at_).aP/\Ch F h h'/\∀j,F' j->F j\/h.next.nat<=j.nat:=by
 have hA:=hC.small;have d7:=hC.clock;have dE:=hA.clock;have d9:=hC.lastId;have cy:=hC.aP;have d1:=hC.oct;have cW:=hC.ents;obtain⟨w1,h1,e1,r1,c1⟩:=aoB (Rws.aQ (λ_=>False) (flat ji) 1 h) (λ_ q=>(by cases q)) (by simp);obtain⟨w2,h2,e2,r2,c2⟩:=atW (a.nw c1) hA (r.nw (aK _) c1) hC.find;have b4:=c1.trans c2;have a2:=a.nw b4;have n1:=c1.next;have n2:=c2.next;have L2:=a2.st.ld (q:=11) (x:=vm) rfl;have M2:=a2.st.ld (q:=2) (x:=iV 1000) rfl;have M4:=a2.st.ld (q:=4) (x:=iV 1048576) rfl;have cB:=a2.st.ld (q:=15) (x:=iV A.octets) rfl;have lm:=a2.ml.rws.len h2;have e3:=ac0 a2 hA;obtain⟨h3,e4,c3⟩:=MZ r2 (aK _) (λ_=>false) (by simp) (f:=.func (.func KL) (.cons (X ps 0) .nil) .nil) (λx y g hx cg e=>by
  cases(show [y]= [Y U x] from e);simp at hx;subst hx;obtain⟨g',e6,c6⟩:=ayu (a2.nw cg) hA hC.find hC.at_ (by have:=hC.next;omega);exact⟨g',by rw[atL];exact e6,c6⟩)
 have cR:jb [w2,.func (.func KL) (.cons (X ps 0) .nil) .nil] h2=D (K false) h3:=by
  have:([b.id].any λ_=>false)=false:=rfl;rw[this]at e4;exact e4
 have FF:∀g,eP (.func KL) [X ps 0] [] g=D (.func (.func KL) (.cons (X ps 0) .nil) .nil) g:=λg=>rfl;have a3:=a2.nw c3;have b6:=b4.trans c3;have n3:=c3.next;have e5:=acZ a3 hA;obtain⟨h4,bs⟩:∃h4,h4=h3.put ps (some (O (N tSt true) (stC {A with clock:=A.clock+1} ib cb vm pl))):=⟨_,rfl⟩
 rw[<-bs]at e5;have a4:dG h4 F ps {A with clock:=A.clock+1} pl ib cb fb vm vl I:=by rw[bs];exact a3.aep rfl rfl rfl rfl
 have c4:Ch (λj=>j=ps) h3 h4:=by rw[bs];exact Ch.put _ _ rfl
 have cz:=a4.st.ld (q:=14) (x:=iV A.lastId) rfl;obtain⟨A5,G⟩:∃A5:Acc,A5={A with clock:=A.clock+1,lastId:=A.lastId+1}:=⟨_,rfl⟩
 obtain⟨M,bu⟩:∃M,M=h4.put ps (some (O (N tSt true) (stC A5 ib cb vm pl))):=⟨_,rfl⟩
 have S5:aT 1 (X ps 14) (iV (A.lastId+1)) h4=D V.undef M:=by rw[bu,G];exact a4.st.st (q:=14) ⟨rfl,rfl⟩ (show 14<16 by omega)
 have a5:dG M F ps A5 pl ib cb fb vm vl I:=by rw[bu,G];exact a4.aep (B:={A with clock:=A.clock+1,lastId:=A.lastId+1}) rfl rfl rfl rfl
 have c5:Ch (λj=>j=ps) h4 M:=by rw[bu];exact Ch.put _ _ rfl
 have aq:Ch (λj=>j=ps) h3 M:=c4.trans c5 λ_ _ q=>q;have n5:=aq.next;have b5:=a5.nw (Nw.bump 1 M);have L5:=a5.st.ld (q:=14) (x:=iV (A.lastId+1)) (by rw[G];rfl);have bS:=b5.st.ld (q:=14) (x:=iV (A.lastId+1)) (by rw[G];rfl);have eT:=arW (X ps 0) (aI 1 M);obtain⟨p,hp⟩:∃p,p=M.next:=⟨_,rfl⟩
 obtain⟨h6,bd⟩:∃h6,h6=M.new (O (N tMl true) [iV (A.lastId+1),iV 0,H [],iV at_,w1,.aQ,iV (A.clock+1),iV (A.clock+1)]):=⟨_,rfl⟩
 have S6:aT 8 (X M.next 0) (.agg (V.ofList [iV (A.lastId+1),iV 0,H [],iV at_,w1,.aQ,iV (A.clock+1),iV (A.clock+1)])) (M.new (O (N tMl true) zMl))=D V.undef h6:=by rw[bd];exact iT (V.dO _) rfl rfl
 have dT:(aI 1 M).put M.next (some (O (N tMl true) zMl))=M.new (O (N tMl true) zMl):=rfl;have c6:Nw M h6:=by rw[bd];exact Nw.new _ _
 have k6:Kn h6 p (O (N tMl true) [iV (A.lastId+1),iV 0,H [],iV at_,w1,.aQ,iV (A.clock+1),iV (A.clock+1)]):=by rw[bd,hp];exact Kn.new _ _
 have n6:h6.next.nat=M.next.nat+1:=by rw[bd,bD]
 have T6:=k6.ld (q:=1) (x:=iV 0) rfl;have I6:=k6.ld (q:=0) (x:=iV (A.lastId+1)) rfl;obtain⟨h7,bv⟩:∃h7,h7=h6.put p (some (O (N tMl true) [iV (A.lastId+1),iV (A.lastId+1),H [],iV at_,w1,.aQ,iV (A.clock+1),iV (A.clock+1)])):=⟨_,rfl⟩
 have S7:aT 1 (X p 1) (iV (A.lastId+1)) h6=D V.undef h7:=by rw[bv];exact k6.st (q:=1) ⟨rfl,rfl⟩ (by simp)
 have k7:Kn h7 p (O (N tMl true) [iV (A.lastId+1),iV (A.lastId+1),H [],iV at_,w1,.aQ,iV (A.clock+1),iV (A.clock+1)]):=by rw[bv];exact k6.put _
 have c7:Ch (λj=>j=p) h6 h7:=by rw[bv];exact Ch.put _ _ rfl
 have n7:=c7.next;have ar:Nw M h7:=c6.then c7 λj hj e=>by rw[e,hp]at hj;omega
 have a7:=a5.nw ar;have r7:=(r2.nw (aK _) c3).ch (P':=λj=>h1.next.nat<=j.nat/\j.nat<h3.next.nat) (aK _) aq λj hj q=>⟨⟨q,hj⟩,λe=>by have:=a.st.2;rw[e]at q;omega⟩
 have r7:=r7.nw (aK _) ar;have af:∀j,F j->j.nat<h.next.nat:=a.lt;have ag:A5.Small:=by rw[G];exact⟨by show 0<=A.clock+1/\A.clock+1<1000000;omega,hA.boxes,hA.aP,hA.ents,hA.each⟩
 have bm:A5.boxes=A.boxes:=by rw[G]
 have cJ:=a7.nw (Nw.bump 1 h7);have ek:(aI 1 h7).next.nat=h7.next.nat+1:=wH _ _;obtain⟨h8,e8,a8,c8⟩:=atX (id:=b.id) cJ ag (by rw[bm];exact hC.find) (by rw[bm];exact hC.at_) (by have:=hC.next;omega);have co:=k7.bump 1;have d8:=af _ a.foot.2.2.1;have k8:=co.ch c8 λe=>by rw[e]at hp;have:=congrArg Pos.nat hp;omega
 have M7:=k7.ld (q:=5) (x:=.aQ) rfl;have cC:=co.ld (q:=5) (x:=.aQ) rfl;have M8:=k8.ld (q:=5) (x:=.aQ) rfl;have n8:=c8.next;obtain⟨h9,be⟩:∃h9,h9=h8.put h7.next (some (O (N tMb true) (fD (b.id,b.next)))):=⟨_,rfl⟩
 have c9:Ch (λj=>j=h7.next) h8 h9:=by rw[be];exact Ch.put _ _ rfl
 have n9:h9.next.nat=h8.next.nat:=by rw[be];rfl
 have dg:Kn h9 h7.next (O (N tMb true) ([(b.id,b.next)].map fD).flatten):=by rw[be];exact⟨jE _ _ _,by rw[jQ];omega⟩
 have t9:Rws (λj=>j=h7.next) (flat fD) 2 h9 (.slice h7.next 0 1 (.kn 1)) [(b.id,b.next)]:=Kn.rws (c:=fD) (l:= [(b.id,b.next)]) (cp:=.kn 1) (sz:=2) dg (λ_=>rfl) (λ_ _ _ _ e=>by cases e;exact v! _);have k9:=k8.ch c9 λe=>by have:=k7.2;rw[e]at this;omega
 have a9:=a8.ch c9 λj f e=>by have:=af j f;rw[e]at this;omega
 obtain⟨J,ay,cK,bA,a6⟩:=aeU (el:=tMb) (bt:=16) (Rws.aQ (λ_=>False) (flat fD) 2 h9) (.inl ⟨rfl,rfl⟩) t9 (by simp) (by simp);rw[K!]at bA;have cl:=k9.nw a6;have b0:=a9.nw a6;have eb:=a6.next;obtain⟨m,hm⟩:∃m,m=al1 A b at_:=⟨_,rfl⟩
 obtain⟨u,aD⟩:∃u,u=ay.put p (some (O (N tMl true) (dB m w1 J))):=⟨_,rfl⟩
 have cD:aT 1 (X p 5) J ay=D V.undef u:=by rw[aD,hm];exact cl.st (q:=5) bA.cell (by simp)
 have cm:Kn u p (O (N tMl true) (dB m w1 J)):=by rw[aD];exact cl.put _
 have ba:Ch (λj=>j=p) ay u:=by rw[aD];exact Ch.put _ _ rfl
 have db:p.nat=M.next.nat:=congrArg Pos.nat hp;have ai:=b0.ch ba λj f e=>by have:=af j f;rw[e]at this;omega
 have ec:=ba.next;have aM:∀j:Pos,j.nat<h7.next.nat->j≠ib->j≠p->u.get j=h7.get j:=λj hj hi c0=>by
  have q8:=c8.get j (by omega) hi;have q9:=c9.get j (by omega) λe=>by rw[e]at hj;omega
  have dl:=a6.get j (by omega) λq=>q;have a1:=ba.get j (by omega) c0;rw[a1,dl,q9,q8];rfl
 have au:Ch (λj=>j=ib\/j=p) h7 u:=⟨by omega,λj hj hn=>aM j hj (λe=>hn (.inl e)) λe=>hn (.inr e)⟩
 have hI:∀j,I j->j.nat<h.next.nat/\j≠ps/\j≠ib:=λj q=>⟨af j (a.inn j q).1,(a.inn j q).2.1,(a.inn j q).2.2.2.1⟩
 have al:∀j,bH vm=some j->j.nat<h.next.nat/\j≠ps/\j≠ib:=λj e=>⟨af j (a.foot.2.2.2.1 j e),(a.nm j e).1,(a.nm j e).2.2.1⟩
 have cj:dH 0 I jf tMl 8 u vm A.aP:=by
  have o3:=ho.nw dw b6;have o5:=o3.ch (P':=I) dw aq (λj e L=>(al j e).2.1 L) λj _ q=>⟨q,(hI j q).2.1⟩
  exact(o5.nw dw ar).ch dw au (λj e L=>L.elim (al j e).2.2 λL=>by have:=(al j e).1;rw[L]at this;omega) λj _ q=>⟨q,λL=>L.elim (hI j q).2.2 λL=>by have:=(hI j q).1;rw[L]at this;omega⟩
 obtain⟨d,ae⟩:∃d:Pos->Prop,d=λj=>I j\/(h.next.nat<=j.nat/\j.nat<u.next.nat/\j≠p):=⟨_,rfl⟩
 have xm:jf d u m (dB m w1 J):=by
  refine⟨w1,J,rfl,?_,?_⟩
  ·have rk:Rws (λj=>h.next.nat<=j.nat/\j.nat<h1.next.nat) (flat ji) 1 h1 w1 []:=r1.mono (aK _) λj hj q=>⟨q,hj⟩
   have dv:=rk.nw (aK _) (c2.trans c3);have dx:=dv.ch (P':=λj=>h.next.nat<=j.nat/\j.nat<h1.next.nat) (aK _) aq λj _ q=>⟨q,λe=>by have:=a.st.2;rw[e]at q;omega⟩
   have dy:=dx.nw (aK _) ar;rw[hm];exact dy.ch (aK _) au λj _ q=>⟨by rw[ae];exact .inr ⟨q.1,by omega,λe=>by rw[e]at q;omega⟩,λe=>e.elim (λe=>by rw[e]at q;omega) λe=>by rw[e]at q;omega⟩
  ·rw[hm];have rm:Rws (λj=>h9.next.nat<=j.nat/\j.nat<ay.next.nat) (flat fD) 2 ay J [(b.id,b.next)]:=(bA.rows (P':=λj=>h9.next.nat<=j.nat) (aK _) (λ_ _ q=>q.elim) λ_ q _=>q).mono (aK _) λj hj q=>⟨q,hj⟩
   exact rm.ch (aK _) ba λj _ q=>⟨by rw[ae];exact .inr ⟨by omega,by omega,λe=>by rw[e]at q;omega⟩,λe=>by rw[e]at q;omega⟩
 obtain⟨E,az,cL,di,aj,ed,bj⟩:=cj.app1 (bt:=104) (x:=m) (cs:=dB m w1 J) (P':=d) dw (Nat.zero_le _) rfl (λj _ q=>by rw[ae];exact .inl q) xm (λj _ q e=>by
  rw[ae]at q;rcases q with q|q
  ·exact(a.inn j q).2.2.2.2.1 e
  ·have:=(al j e).1;omega) (by omega)
 have b7:cZ tMl 8 104 vm (.slice u.next 0 1 (.kn 1)) (u.new (O (N tMl true) (dB m w1 J)))=D E az:=cL;have bg:(aI 1 u).put u.next (some (O (N tMl true) (dB m w1 J)))=u.new (O (N tMl true) (dB m w1 J)):=rfl;have aR:∀j,bH E=some j->u.next.nat<=j.nat:=λj e=>by rw[bj]at e;cases e;rw[Pos.fA];omega
 obtain⟨A8,S⟩:∃A8:Acc,A8={A5 with boxes:=updB b.id (λb=>{b with next:=b.next+1}) A5.boxes}:=⟨_,rfl⟩
 rw[<-S]at a8 a9 b0 ai;have bw:A8.aP=A.aP:=by rw[S,G]
 have cu:dH 0 d jf tMl 8 az E (A8.aP++ [m]):=by rw[bw];exact di
 obtain⟨ab,bB⟩:=ai.aKk (B0:=h.next.nat) af (m':=m) cu aj aR (λj q=>by rw[ae]at q;exact q.imp id λq=>⟨q.1,q.2.1⟩) (by omega);obtain⟨t,z⟩:∃t:Acc,t={A8 with aP:=A8.aP++ [m]}:=⟨_,rfl⟩
 rw[<-z]at ab bB;obtain⟨ac,aE⟩:∃ac,ac=az.put ps (some (O (N tSt true) (stC t ib cb E pl))):=⟨_,rfl⟩
 rw[<-aE]at ab bB;have cr:=ai.st.ch aj λe=>(ai.nm ps e).1 rfl;have cE:aT 1 (X ps 11) E az=D V.undef ac:=by rw[aE,z];exact cr.st (q:=11) (by rw[bj];exact⟨rfl,rfl⟩) (show 11<16 by omega)
 have bb:Ch (λj=>j=ps) az ac:=by rw[aE];exact Ch.put _ _ rfl
 have d2:=aj.next;have ee:=bb.next;have d4:=ai.st.ld (q:=11) (x:=vm) rfl;have bR:=(ai.nw (Nw.bump 1 u)).st.ld (q:=11) (x:=vm) rfl;have bX:=(cm.bump 1).ldN (n:=8) rfl;have bn:p≠ps:=λe=>by have:=a.st.2;rw[<-e]at this;omega
 have dc:=(cm.ch aj λe=>by have:=(al p e).1;omega).ch bb bn;have cA:=ab.st.ld (q:=15) (x:=iV t.octets) rfl;have d0:t.octets=A.octets:=by rw[z,S,G]
 obtain⟨w,aL⟩:∃w,w=ac.put ps (some (O (N tSt true) (stC t ib cb E pl))):=⟨_,rfl⟩
 have cF:aT 1 (X ps 15) (iV t.octets) ac=D V.undef w:=by rw[aL];exact ab.st.st (q:=15) ⟨rfl,rfl⟩ (show 15<16 by omega)
 have C:=ab.aep (B:=t) rfl rfl rfl rfl;rw[<-aL]at C;have am:Ch (λj=>j=ps) ac w:=by rw[aL];exact Ch.put _ _ rfl
 have dj:dH 0 d jf tMl 8 w E t.aP:=by
  have:t.aP=A8.aP++ [m]:=by rw[z]
  rw[this];exact bB.ch dw am (λj e L=>(ab.nm j e).1 L) λj _ q=>⟨q,(ab.inn j q).2.1⟩
 have ef:=am.next;have cn:=dc.ch am bn;have bi:=C.nw (Nw.bump 1 w);have d3:(aI 1 w).next.nat=w.next.nat+1:=wH _ _;have bq:t.Small:=by
  rw[z];refine⟨by rw[S];exact ag.clock,by rw[S];show 0<(updB _ _ A5.boxes).length/\_;rw[apx];exact ag.boxes,by show(A8.aP++ [m]).length<=1000;rw[bw,h!];show A.aP.length+1<=1000;omega,by rw[S];exact ag.ents,λx hx=>?_⟩;rw[show(({A8 with aP:=A8.aP++ [m]}:Acc).aP)=A8.aP++ [m] from rfl,c!,bw]at hx;rcases hx with hx|hx
  ·exact hA.each x hx
  ·simp at hx;rw[hx,hm];exact⟨by simp[al1],by simp[al1]⟩
 have dr:Rws (λj=>h1.next.nat<=j.nat/\j.nat<h3.next.nat) (flat gV) 1 (aI 1 w) w2 [b.id]:=by
  have a1:=r7.ch (P':=λj=>h1.next.nat<=j.nat/\j.nat<h3.next.nat) (aK _) au λj _ q=>⟨q,λe=>e.elim (λe=>by rw[e]at q;omega) λe=>by rw[e]at q;omega⟩
  have bE:=a1.ch (P':=λj=>h1.next.nat<=j.nat/\j.nat<h3.next.nat) (aK _) aj λj _ q=>⟨q,λe=>by have:=(al j e).1;omega⟩
  have bL:=bE.ch (P':=λj=>h1.next.nat<=j.nat/\j.nat<h3.next.nat) (aK _) (bb.trans am λ_ _ q=>q) λj _ q=>⟨q,λe=>by have:=a.st.2;rw[e]at q;omega⟩
  exact bL.nw (aK _) (Nw.bump 1 w)
 have br:t.boxes=updB b.id (λb=>{b with next:=b.next+1}) A.boxes:=by rw[z,S,G]
 obtain⟨dC,bp,cM,b1,ds,cS,bc⟩:=UE bi bq dr (by simp) (A.clock+1) (OL ltI (by simp)) (λk x y _ hy=>by simp at hy) (λx hx=>by
  simp at hx;subst hx;exact⟨o,by rw[br,ann (f:=λb:Bx=>{b with next:=b.next+1}) (λ_=>rfl)];exact hC.find⟩)
 have eg:=bc.next;have a0:=cn.bump 1;have bz:=a0.ch bc λe=>by rw[e]at db;omega
 obtain⟨Q,W⟩:∃Q:List En,Q= [({mod:=A.clock+1,kind:=2,id:=A.lastId+1,how:=1}:En),{mod:=A.clock+1,kind:=3,id:=A.lastId+1,how:=1}]:=⟨_,rfl⟩
 obtain⟨ad,aa⟩:∃ad,ad=bp.put w.next (some (O (N tEn true) (Q.map gu).flatten)):=⟨_,rfl⟩
 have an:Ch (λj=>j=w.next) bp ad:=by rw[aa];exact Ch.put _ _ rfl
 have eh:ad.next.nat=bp.next.nat:=by rw[aa];rfl
 have dd:Kn ad w.next (O (N tEn true) (Q.map gu).flatten):=by rw[aa];exact⟨jE _ _ _,by rw[jQ];omega⟩
 have cH:=b1.ch an λj f e=>by have:=C.lt j f;rw[e]at this;omega
 have dt:=ds.ch (P':=λj=>(aI 1 w).next.nat<=j.nat) (aK _) an λj _ q=>⟨q,λe=>by rw[e]at q;omega⟩
 have bf:Q.length=2:=by rw[W];rfl
 have dz:Rws (λj=>j=w.next) (flat gu) 4 ad (.slice w.next 0 2 (.kn 2)) Q:=by
  have:=Kn.rws (c:=gu) (l:=Q) (cp:=.kn 2) (sz:=4) dd (λ_=>rfl) (λ_ _ _ _ e=>by cases e;exact Nat.le_of_eq bf);rwa[bf]at this
 have cX:aaf dC ([b.id].map (jV (A.clock+1))).length:=by rw[d!];exact cS
 obtain⟨eo,d5,cP,dk,ao⟩:=aeU (el:=tEn) (bt:=32) dt cX dz (by rw[W];simp) (by rw[bf];simp);have Z:=cH.nw ao;have ei:=ao.next;have du:=dk.rows (P':=λj=>ad.next.nat<=j.nat) (aK _) (λ_ _ q=>q.elim) λ_ q _=>q;have ah:t.ents=A.ents:=by rw[z,S,G]
 have cc:∀e∈ [b.id].map (jV (A.clock+1))++Q,e.mod=A.clock+1:=λe he=>by
  rcases c!.1 he with q|q
  ·obtain⟨id,_,rfl⟩:=e!.1 q;rfl
  ·rw[W]at q;simp at q;rcases q with q|q<;>rw[q]
 have cf:∀e∈t.ents,e.mod<=A.clock+1:=λe he=>by
  have cV:e∈A.ents:=by rw[<-ah];exact he
  have:=hC.logged.mods e cV;omega
 have ci:t.ents.length+([b.id].map (jV (A.clock+1))++Q).length<=10000:=by
  rw[ah,h!,d!,bf];simp;omega
 obtain⟨em,b9,bh,cQ,cq,cv,ap,bo⟩:=arY Z.lg Z.en du (λj e=>(Z.nl j e).2.1) (λj hj pj=>⟨λe=>by have:=C.lt pl C.foot.2.1;rw[e]at pj;omega,λe=>by have:=C.lt j (C.foot.2.2.2.2 j e);omega⟩) cc cf ci;have cI:=Z.aDO cq cv ap bo (by rw[W];simp);have ej:=ap.next;have de:=(bz.ch an λe=>by have:=cn.2;rw[e]at this;omega).nw ao;have da:¬(F p\/d p\/bH E=some p):=λe=>by
  rcases e with e|e|e
  ·have:=af p e;omega
  ·rw[ae]at e;rcases e with e|e
   ·have:=(hI p e).1;omega
   ·exact e.2.2 rfl
  ·have:=aR p e;omega
 have df:=de.ch ap λe=>da (.inl (e.elim (λe=>by rw[e];exact a.foot.2.1) λe=>a.foot.2.2.2.2 p e));have Id:∀{g:Hp},Kn g p (O (N tMl true) (dB m w1 J))->aF (X p 0) g=D (iV (A.lastId+1)) g:=λk=>k.ld (q:=0) (by rw[hm];rfl);have Th:∀{g:Hp},Kn g p (O (N tMl true) (dB m w1 J))->aF (X p 1) g=D (iV (A.lastId+1)) g:=λk=>k.ld (q:=1) (by rw[hm];rfl);have Lp:∀{g:Hp} {F:Pos->Prop} {B:Acc} {vm vl:V} {I:Pos->Prop},dG g F ps B pl ib cb fb vm vl I->aF (X ps 12) g=D (X pl 0) g:=λa=>a.st.ld (q:=12) rfl;refine⟨.tuple (.cons (iV (A.lastId+1)) (.cons (iV 0) .nil)),b9,λj=>(F j\/d j\/bH E=some j)\/bH bh=some j,E,bh,d,?_,?_,?_,?_,?_⟩
 ·rw[anb]
  suffices T:aX Tryz.prog [.tmp 10,.tmp 11] (λr h'=>r=.tuple (.cons (iV (A.lastId+1)) (.cons (iV 0) .nil))/\h'=b9) (Kv (T.set (some (H [])) (k! 4) (T.set (some (Y U at_)) (k! 3) (T.set (some .aQ) (k! 2) (T.set (some v) (k! 1) (T.set (some (X ps 0)) (k! 0) T.nil))))) h) by
   obtain⟨r,h',e,rfl,rfl⟩:=T;exact e
  have cw:=r.len h;have cG:aT 8 (X p 0) (.agg (V.ofList [iV (A.lastId+1),iV 0,H [],iV at_,w1,.aQ,iV (A.clock+1),iV (A.clock+1)])) (M.new (O (N tMl true) zMl))=D V.undef h6:=by rw[hp];exact S6
  have bx:(aI 1 M).put p (some (O (N tMl true) zMl))=M.new (O (N tMl true) zMl):=by rw[hp];rfl
  have bM:=λh=>bM0 r1.cell (A.lastId+1) 0 [] at_ (A.clock+1) (A.clock+1) h;have cT:∀{k:Out},chk (λh=>aF (X ps 14) h) (iV (A.lastId+1)) k 1 [aI 1 M]=k:=wG rfl bS;have cx:=r7.len h7;have ea:(((List.length ([]:List Nat)):Nat):Int)=0:=rfl;have ce:((0:Int)>1048576 - A.octets)=False:=eq_false (by omega);have cd:((A.aP.length:Int)>=1000)=False:=eq_false (by omega);have sb:∀g,aJ .sub .none (Y U 1048576) (Y U A.octets) g=D (Y U (1048576 - A.octets)) g:=λg=>Yv (by omega) (by omega);have b2:∀g,aJ .add .none (Y U A.lastId) (Y U 1) g=D (Y U (A.lastId+1)) g:=λg=>QC (by omega) (by omega);have l1:(([b.id].length:Nat):Int)=1:=rfl;have ck:∀g,aZ 1 (H []) g=D (Y U 0) g:=λg=>rfl;have dh:(at_<0)=False:=eq_false (by omega);have cU:(at_>253402300799)=False:=eq_false (by omega);rw[l1]at cw cx;simp(disch:=omega)only[vvB,a!,reduceCtorEq,↓reduceIte,Kv,abe,abd,abb,aa9,aa8,aa7,aa6,Xk,Xj,Xi,Xh,Xg,Xf,Xe,Xd,Xc,Xb,W9,eG,cw,dh,cU,e1,e2,L2,lm,M2,cd,ck,M4,cB,sb,ce,e3,FF,cR,e5,cz,b2,S5,eT,bS,cT,bM,aLc,<-hp,bx,cG,T6,I6,S7,cx];refine Oc.then (dS (σ:=Unit) (n:=1) (pi:=113) (pn:=112) (pc:=114) [0,4,14,16,17,18,111] (λ_=> [X ps 0,H [],w2,iV (A.clock+1),X p 0,Y U 1,w2]) (λk _ g=>(k=0/\g=h7)\/(k=1/\g=u))
   (A:=λfr g=>Fa fr [0,4,14,16,17,18] [X ps 0,H [],w2,iV (A.clock+1),X p 0,Y U 1]/\g=u) (B:=λ_ _=>False) (s:=())
   (λfr h _ k e1 e2=>by simp only[vvB,a!,reduceCtorEq,↓reduceIte,WZ,e1,e2]) (λfr h k _ e1=>by simp(disch:=omega)only[vvB,a!,reduceCtorEq,↓reduceIte,WW,e1]) (by decide) (by rw[dW];omega) (qK0) (qK1) (by simp only[Fa,vvB,a!,reduceCtorEq,↓reduceIte,and_self]) (.inl ⟨rfl,rfl⟩) ?_ ?_) ?_ ?_
  ·intro k _ fr g hk bl b8 fa hI;obtain⟨f0,f4,av,aw,ak,ax,bk,-⟩:=fa;rcases hI with⟨rfl,rfl⟩|⟨h1,-⟩
   ·obtain⟨i,q,cs,ix,ex,-,-,-,ld,-⟩:=r7.elt (k:=0) (x:=b.id) rfl;obtain rfl:cs=gV b.id:=ex;have ct:=ld g rfl 0 (iV b.id) rfl;rw[B!]at ct;have cN:∀{k:Out},chk (λh=>aF (X p 5) h) .aQ k 1 [aI 1 g]=k:=wG rfl cC;simp(disch:=omega)only[vvB,a!,reduceCtorEq,↓reduceIte,WY,WX,f0,ak,bk,bl,ix,ct,e8,M8,cN,aLa,<-be,cK,cD];exact⟨qK2 bl,qK2 b8,(),by simp only[Fa,vvB,a!,reduceCtorEq,↓reduceIte,f0,f4,av,aw,ak,ax,bk,and_self],.inr (by first|exact⟨trivial,rfl⟩|exact⟨rfl,rfl⟩)⟩
   ·omega
  ·intro _ fr g fa hI;obtain⟨f0,f4,av,aw,ak,ax,-⟩:=fa;rcases hI with⟨h1,-⟩|⟨-,rfl⟩
   ·omega
   ·exact⟨by simp only[Fa,f0,f4,av,aw,ak,ax,and_self],rfl⟩
  ·rintro fr g ⟨⟨f0,f4,av,aw,ak,ax,-⟩,rfl⟩;rw[W]at aa;have b3:∀g,aJ .add .none (Y U t.octets) (Y U 0) g=D (Y U t.octets) g:=λg=>by rw[QC (by omega) (by omega)];congr 2;omega
   simp(disch:=omega)only[vvB,a!,reduceCtorEq,↓reduceIte,WV,WU,WT,WR,f0,f4,av,aw,ak,ax,bR,bX,aK8,bg,b7,cE,cA,ck,b3,cF,cM,Id bz,wG (v:=iV (A.lastId+1)) rfl (Id a0),alT,Th bz,wG (v:=iV (A.lastId+1)) rfl (Th a0),ayr,<-aa,cP,Lp Z,ahP (v:=X pl 0) rfl (Lp b1) (Lp bi),cQ,Id df];exact aX.ret (qT0) ⟨rfl,rfl⟩
  ·intro fr g q;exact q.elim
 ·have ca:({({t with boxes:=jK (A.clock+1) [b.id] t.boxes}:Acc) with ents:=t.ents++([b.id].map (jV (A.clock+1))++Q)}:Acc)=Px A b at_:=by
   rw[z,S,G,hm,W];rfl
  rw[<-ca];exact cI
 ·have cY:(Px A b at_).aP=t.aP:=by rw[z,S,G,hm];rfl
  rw[cY];have bN:=(dj.nw dw (Nw.bump 1 w)).ch (P':=d) dw bc (λj e L=>(C.nm j e).2.2.1 L) λj _ q=>⟨q,λL=>(C.inn j q).2.2.2.1 L⟩
  have bO:=bN.ch (P':=d) dw an (λj e L=>by have:=C.lt j (C.foot.2.2.2.1 j e);rw[L]at this;omega) λj _ q=>⟨q,λL=>by have:=C.lt j (C.inn j q).1;rw[L]at this;omega⟩
  exact(bO.nw dw ao).ch (P':=d) dw ap (λj e L=>L.elim (Z.nm j e).2.1 (Z.nm j e).2.2.2) λj _ q=>⟨q,λL=>L.elim (Z.inn j q).2.2.1 (Z.inn j q).2.2.2.2.2⟩
 ·refine⟨by omega,λj hj hn=>?_⟩;have q3:=b6.get j hj λq=>q
  have q5:=aq.get j (by omega) λe=>hn (by rw[e];exact a.foot.1);have q7:=ar.get j (by omega) λq=>q;have a1:=aM j (by omega) (λe=>hn (by rw[e];exact a.foot.2.2.1)) λe=>by rw[e]at hj;omega
  have bE:=aj.get j (by omega) λe=>hn (a.foot.2.2.2.1 j e);have dm:=bb.get j (by omega) λe=>hn (by rw[e];exact a.foot.1);have bL:=am.get j (by omega) λe=>hn (by rw[e];exact a.foot.1);have bN:=bc.get j (by omega) λe=>hn (by rw[e];exact a.foot.2.2.1);have bO:=an.get j (by omega) λe=>by rw[e]at hj;omega
  have dp:=ao.get j (by omega) λq=>q;have dq:=ap.get j (by omega) λe=>hn (e.elim (λe=>by rw[e];exact a.foot.2.1) λe=>a.foot.2.2.2.2 j e);rw[dq,dp,bO,bN];show w.get j=_;rw[bL,dm,bE,a1,q7,q5,q3]
 ·intro j q;rcases q with(q|q|q)|q
  ·exact .inl q
  ·rw[ae]at q;exact q.imp (λq=>(a.inn j q).1) λq=>q.1
  ·have:=aR j q;exact .inr (by omega)
  ·rcases bo j q with e|e
   ·exact .inl (a.foot.2.2.2.2 j e)
   ·exact .inr (by omega)
end
end Go.Proofs.Im
namespace Go.Im
def axM:Acc:={clock:=1,boxes:= [{id:=1,name:=iL,par:=0,valid:=1,next:=1,mod:=1}],aP:= [],ents:= [],floor:=0,lastBox:=1,lastId:=0,octets:=0}
end Go.Im
namespace Go.Proofs.Im
section
variable{h h' g:Hp}{F:Pos->Prop}{ps pl ib pc cp i:Pos}{A B:Acc}{cb:Cap}{fb only:Bool}{id:Int}{k n:Nat}
theorem aAO(h:Hp):∃h',Um [] h=D (.agg (V.ofList zF)) h'/\Nw h h':=by
 obtain⟨b,a⟩:∃b,b=h.new (O (N I7 true) zF):=⟨_,rfl⟩
 have d:aT 9 (X h.next 0) (.agg (V.ofList zF)) (h.new (O (N I7 true) [(H []),(H []),(Y U 0),(Y U 0),(Y U 0),(Y U 0),(Y U 0),(Y U 0),(Y U 0)]))=D V.undef b:=by rw[a];exact iT (V.dO _) rfl rfl
 have e:Kn b h.next (O (N I7 true) zF):=by rw[a];exact Kn.new _ _
 have c:∀g,bQ [(H []),(H []),(Y U 0),(Y U 0),(Y U 0),(Y U 0),(Y U 0),(Y U 0),(Y U 0)] [(0,1,(H [117])),(1,1,(H [112])),(2,1,(Y U 1000)),(3,1,(Y U 100)),(4,1,(Y U 1048576)),(5,1,(Y U 1073741824)),(6,1,(Y U 1073741824)),(7,1,(Y U 10000)),(8,1,(Y U 200))] g=D (.agg (V.ofList zF)) g:=λg=>rfl;rw[as9];simp only[vvB,a!,reduceCtorEq,↓reduceIte,adW,agv,agu,c,d];exact⟨b,by simp only[aU,bW,vvB,a!,reduceCtorEq,↓reduceIte,ari,e.ldN (n:=9) rfl,bZ],by rw[a];exact Nw.new _ _⟩
theorem aDi(h:Hp):Z9 [Y U 10000] h=D (.tuple (.cons (X h.next 0) (.cons (Y U 0) .nil))) (h.new (O (N tLg true) [iV 10000,.aQ,iV 0])):=by
 have B:∀g,bQ [(Y U 0),.aQ,(Y U 0)] [(0,1,Y U 10000)] g=D (.agg (V.ofList [iV 10000,.aQ,iV 0])) g:=λg=>rfl;rw[auy];simp(disch:=omega)only[vvB,a!,reduceCtorEq,↓reduceIte,aip,akV,akU,akT,B,V.dD];simp only[aU,bW,vvB,a!,reduceCtorEq,↓reduceIte,bZ]<;>rfl
abbrev al4:List Int:= [1000,100,1048576,1073741824,1073741824,10000,200]
theorem aDe(h:Hp):∃ps h' F pl ib cb fb,Z4 [.agg (V.ofList zF)] h=D (.tuple (.cons (X ps 0) (.cons (iV 0) .nil))) h'/\dG h' F ps axM pl ib cb fb .aQ .aQ (λ_=>False)/\Nw h h'/\∀j,F j->h.next.nat<=j.nat:=by
 obtain⟨f,I,c1,m⟩:=mkW h (O (N I7 true) zF);have n1:f.next.nat=h.next.nat+1:=by rw[I,bD]
 have L0:=m.ld (q:=0) (x:=H [117]) rfl;have L1:=m.ld (q:=1) (x:=H [112]) rfl;have L2:=m.ld (q:=2) (x:=iV 1000) rfl;have L3:=m.ld (q:=3) (x:=iV 100) rfl;have L4:=m.ld (q:=4) (x:=iV 1048576) rfl;have L5:=m.ld (q:=5) (x:=iV 1073741824) rfl;have L6:=m.ld (q:=6) (x:=iV 1073741824) rfl;have L7:=m.ld (q:=7) (x:=iV 10000) rfl;have L8:=m.ld (q:=8) (x:=iV 200) rfl;have T1:vM [H [117]] f=D (K true) f:=by rw[acY (by decide) (by decide)];rfl
 have T2:vM [H [112]] f=D (K true) f:=by rw[acY (by decide) (by decide)];rfl
 obtain⟨a,J,S,k2⟩:=mkW f (O (N iW true) (al4.map gV).flatten);have n2:a.next.nat=f.next.nat+1:=by rw[J,bD]
 have B2:bY iW [(Y U 0),(Y U 0),(Y U 0),(Y U 0),(Y U 0),(Y U 0),(Y U 0)] 7 [(0,1,iV 1000),(1,1,iV 100),(2,1,iV 1048576),(3,1,iV 1073741824),(4,1,iV 1073741824),(5,1,iV 10000),(6,1,iV 200)] f=D (.slice f.next 0 7 (.kn 7)) a:=by rw[J];rfl
 have r2:Rws (λj=>j=f.next) (flat gV) 1 a (.slice f.next 0 7 (.kn 7)) al4:=Kn.rws (c:=gV) (l:=al4) (cp:=.kn 7) (sz:=1) k2 (λ_=>rfl) (λ_ _ _ _ e=>by cases e;exact v! _);obtain⟨b,t⟩:∃b,b=a.new (O (N tLg true) [iV 10000,.aQ,iV 0]):=⟨_,rfl⟩
 have eL:=aDi a;rw[<-t]at eL;have c3:Nw a b:=by rw[t];exact Nw.new _ _
 have k3:Kn b a.next (O (N tLg true) [iV 10000,.aQ,iV 0]):=by rw[t];exact Kn.new _ _
 have n3:b.next.nat=a.next.nat+1:=by rw[t,bD]
 have Q:=(m.nw S).ld (q:=7) (x:=iV 10000) rfl;have N3:=((m.nw S).nw c3).ldN (n:=9) rfl;obtain⟨bx,y⟩:∃bx:Bx,bx={id:=1,name:=iL,par:=0,valid:=1,next:=1,mod:=1}:=⟨_,rfl⟩
 have BB:∀g,bQ [(Y U 0),(H []),(Y U 0),(Y U 0),(Y U 0),(Y U 0)] [(0,1,(Y U 1)),(1,1,(H [73,78,66,79,88])),(3,1,(Y U 1)),(4,1,(Y U 1)),(5,1,(Y U 1))] g=D (.agg (V.ofList (fF bx))) g:=λg=>by rw[y];rfl
 obtain⟨d,u⟩:∃d,d=b.new (O (N tBx true) (fF bx)):=⟨_,rfl⟩
 have B4:bY tBx [(Y U 0),(H []),(Y U 0),(Y U 0),(Y U 0),(Y U 0)] 1 [(0,6,.agg (V.ofList (fF bx)))] b=D (.slice b.next 0 1 (.kn 1)) d:=by rw[u,y];rfl
 have c4:Nw b d:=by rw[u];exact Nw.new _ _
 have k4:Kn d b.next (O (N tBx true) (fF bx)):=by rw[u];exact Kn.new _ _
 have n4:d.next.nat=b.next.nat+1:=by rw[u,bD]
 obtain⟨p,v⟩:∃p,p=d.new (O (N tSt true) (zF++ [iV 0,.slice b.next 0 1 (.kn 1),.aQ,X a.next 0,iV 1,iV 0,iV 0])):=⟨_,rfl⟩
 have B5:∀g,bQ zSt [(0,9,.agg (V.ofList zF)),(10,1,.slice b.next 0 1 (.kn 1)),(12,1,X a.next 0),(13,1,(Y U 1))] g=D (.agg (V.ofList (zF++ [iV 0,.slice b.next 0 1 (.kn 1),.aQ,X a.next 0,iV 1,iV 0,iV 0]))) g:=λg=>rfl;have X5:fO tSt (.agg (V.ofList (zF++ [iV 0,.slice b.next 0 1 (.kn 1),.aQ,X a.next 0,iV 1,iV 0,iV 0]))) d=D (X d.next 0) p:=by rw[v];rfl
 have k5:Kn p d.next (O (N tSt true) (zF++ [iV 0,.slice b.next 0 1 (.kn 1),.aQ,X a.next 0,iV 1,iV 0,iV 0])):=by rw[v];exact Kn.new _ _
 have W:Nw d p:=by rw[v];exact Nw.new _ _
 have n5:p.next.nat=d.next.nat+1:=by rw[v,bD]
 obtain⟨u6,e6⟩:=O9 (n:=1) k5 (q:=9) (by simp);obtain⟨w,z⟩:∃w,w=p.put d.next (some (O (N tSt true) (stC axM b.next (.kn 1) .aQ a.next))):=⟨_,rfl⟩
 have Z:pI [X d.next 9,Y U 1] p=D u6 w:=by rw[z];exact e6
 have k6:Kn w d.next (O (N tSt true) (stC axM b.next (.kn 1) .aQ a.next)):=by rw[z];exact k5.put _
 have P:Ch (λj=>j=d.next) p w:=by rw[z];exact Ch.put _ _ rfl
 have C:Nw h w:=((((c1.trans S).trans c3).trans c4).trans W).then P λj hj e=>by rw[e]at hj;omega
 have M:∀(i j:Pos),i.nat≠j.nat->i≠j:=λi j hn e=>hn (congrArg Pos.nat e);refine⟨d.next,w,(λj=>j=d.next\/j=a.next\/j=b.next),a.next,b.next,.kn 1,true,?_,?_,C,?_⟩
 ·rw[aur]
  suffices T:aX Tryz.prog [.tmp 2,.tmp 3] (λr h'=>r=.tuple (.cons (X d.next 0) (.cons (iV 0) .nil))/\h'=w) (Zz (T.set (some (.agg (V.ofList zF))) (k! 0) T.nil) h) by
   obtain⟨r,h',e,rfl,rfl⟩:=T;exact e
  have rl:aZ 2 (.slice f.next 0 7 (.kn 7)) a=D (Y U 7) a:=r2.len a;simp(disch:=omega)only[vvB,a!,reduceCtorEq,↓reduceIte,Zz,akG,akF,akE,V.dD,<-I,L0,L1,L2,L3,L4,L5,L6,L7,L8,T1,T2,B2,rl];refine Oc.then (dS (σ:=Unit) (n:=7) (pi:=35) (pn:=34) (pc:=36) [1,33] (λ_=> [X h.next 0,.slice f.next 0 7 (.kn 7)]) (λk _ g=>g=a)
   (A:=λfr g=>fr.get (k! 1)=some (X h.next 0)/\g=a) (B:=λ_ _=>False) (s:=())
   (λfr h _ k e1 e2=>by simp only[vvB,a!,reduceCtorEq,↓reduceIte,akD,e1,e2]) (λfr h k _ e1=>by simp(disch:=omega)only[vvB,a!,reduceCtorEq,↓reduceIte,akA,e1]) (by decide) (by rw[dW];omega) (qK1) (qK1) (by simp only[Fa,vvB,a!,reduceCtorEq,↓reduceIte,and_self]) rfl ?_ ?_) ?_ ?_
  ·intro k _ fr g hk G aa fa hI;obtain⟨f1,E,-⟩:=fa;subst hI;obtain⟨x,hx⟩:∃x,al4[k]?=some x:=⟨_,List.getElem?_eq_getElem (show k<al4.length from hk)⟩
   obtain⟨i,q,cs,ix,ex,-,-,-,ld,-⟩:=r2.elt hx;obtain rfl:cs=gV x:=ex;have L:=ld g rfl 0 (iV x) rfl;rw[B!]at L;have hb:1<=x/\x<=2147483647:=by
    have:∀x∈al4,1<=x/\x<=2147483647:=by decide
    exact this x (o! hx)
   have ab:(x<1)=False:=eq_false (by omega);have ac:(x>2147483647)=False:=eq_false (by omega);simp(disch:=omega)only[vvB,a!,reduceCtorEq,↓reduceIte,akC,akB,E,G,ix,L,ab,ac];exact⟨qK2 G,qK2 aa,(),by simp only[Fa,vvB,a!,reduceCtorEq,↓reduceIte,f1,E,and_self],rfl⟩
  ·intro _ fr g fa hI;exact⟨fa.1,hI⟩
  ·rintro fr g ⟨f1,rfl⟩;simp(disch:=omega)only[vvB,a!,reduceCtorEq,↓reduceIte,akz,aga,af9,af8,f1,Q,eL,N3,BB,B4,B5,X5,Z];exact aX.ret (qT0) ⟨rfl,rfl⟩
  ·intro fr g q;exact q.elim
 ·have hb:axM.boxes= [bx]:=by rw[y];rfl
  refine⟨k6,(((k3.nw c4).nw W).ch P (M _ _ (by omega))),?_,?_,⟨[],.nil,λ_ q=>(by cases q),.inl ⟨rfl,rfl⟩⟩,dH.nil _ _ _ _ _ _,⟨M _ _ (by omega),M _ _ (by omega),M _ _ (by omega)⟩,λj e=>(by cases e),λj e=>(by cases e),λj e=>e.elim,⟨.inl rfl,.inr (.inl rfl),.inr (.inr rfl),λj e=>(by cases e),λj e=>(by cases e)⟩,?_,λ_=>rfl⟩
  ·rw[hb];have:=(k4.nw W).ch P (M _ _ (by omega));simpa using this
  ·intro i o n c e;cases e;exact v! _
  ·intro j q;have n6:=P.next;rcases q with rfl|rfl|rfl<;>omega
 ·intro j q;rcases q with rfl|rfl|rfl<;>omega
end
end Go.Proofs.Im
namespace Go.Im
def bxF(k:Nat):Bx:={id:=1,name:=iL,par:=0,valid:=1,next:=(k:Int)+1,mod:=(k:Int)+1}
def mlF(i:Nat):Ml:={id:=(i:Int)+1,thread:=(i:Int)+1,text:= [],at_:=(i:Int),keys:= [],mem:= [(1,(i:Int)+1)],mod:=(i:Int)+2,born:=(i:Int)+2}
def QK(i:Nat):List En:= [jV ((i:Int)+2) 1,{mod:=(i:Int)+2,kind:=2,id:=(i:Int)+1,how:=1},{mod:=(i:Int)+2,kind:=3,id:=(i:Int)+1,how:=1}]
def AO(k:Nat):Acc:={clock:=(k:Int)+1,boxes:= [bxF k],aP:=(g! k).map mlF,ents:=(g! k).flatMap QK,floor:=0,lastBox:=1,lastId:=(k:Int),octets:=0}
theorem ax3(k:Nat):Px (AO k) (bxF k) (k:Int)=AO (k+1):=by
 have a:((k:Int)+1+1)=((k+1:Nat):Int)+1:=by omega
 have d:((k:Int)+1+1)=(k:Int)+2:=by omega
 unfold Px AO;simp only[w!,x!,q!,z!,List.map_nil,List.flatMap_cons,List.flatMap_nil,List.append_nil];have hb:jK ((k:Int)+1+1) [(bxF k).id] (updB (bxF k).id (λb=>{b with next:=b.next+1}) [bxF k])= [bxF (k+1)]:=by
  simp only[jK,updB,bxF,if_true,↓reduceIte];congr 1
 have c:al1 {clock:=(k:Int)+1,boxes:= [bxF k],aP:=(g! k).map mlF,ents:=(g! k).flatMap QK,floor:=0,lastBox:=1,lastId:=(k:Int),octets:=0} (bxF k) (k:Int)=mlF k:=by
  simp only[al1,mlF,bxF,Ml.mk.injEq,true_and];omega
 rw[hb,c,a];simp only[Acc.mk.injEq,true_and,and_true];refine⟨?_,by omega⟩;congr 1;all_goals simp only[QK,jV,bxF,List.cons_append,K!,List.cons.injEq,En.mk.injEq,and_true,true_and]
 try omega
theorem atG{k:Nat}(c:k<=100):(AO k).Small:=by
 refine⟨?_,?_,?_,?_,?_⟩
 ·show 0<=(k:Int)+1/\(k:Int)+1<1000000;omega
 ·show 0< [bxF k].length/\ [bxF k].length<=1000;simp
 ·show((g! k).map mlF).length<=1000;simp;omega
 ·show((g! k).flatMap QK).length<=9000;have:∀n,((g! n).flatMap QK).length=3*n:=λn=>by
   induction n with
   |zero=>rfl
   |succ n b=>rw[w!,q!,h!,b];simp[QK];omega
  rw[this];omega
 ·intro m a;obtain⟨i,_,rfl⟩:=e!.1 a;exact⟨by simp[mlF],by simp[mlF]⟩
theorem aq7(n:Nat):((g! n).flatMap QK).length=3*n:=by
 induction n with
 |zero=>rfl
 |succ n a=>rw[w!,q!,h!,a];simp[QK];omega
theorem acQ(k:Nat):(AO k).Logged:=⟨λe a=>by
 obtain⟨i,hi,a⟩:=List.mem_flatMap.1 a;have:=List.mem_range.1 hi;show e.mod<=(k:Int)+1;simp only[QK,jV,y!,G!,or_false]at a;rcases a with rfl|rfl|rfl<;>simp only[]<;>omega⟩
theorem azv{k:Nat}(a:k<=100):CanApp (AO k) 0 (bxF k) where
 small:=atG a
 logged:=acQ k
 at_:=rfl
 find:=by
  show [bxF k].findIdx? (λx=>decide (x.id=(bxF k).id))=some 0;simp[bxF]
 next:=by show 0<=(k:Int)+1/\(k:Int)+1<=900000;omega
 clock:=by show(k:Int)+1<900000;omega
 lastId:=by show 0<=(k:Int)/\(k:Int)<900000;omega
 ents:=by show((g! k).flatMap QK).length<=8000;rw[aq7];omega
 aP:=by show((g! k).map mlF).length<=900;simp;omega
 oct:=by show(0:Int)<=0/\(0:Int)<=1000;omega
end Go.Im
namespace Go.Proofs.Im
section
variable{h h' g:Hp}{P F I:Pos->Prop}{ps pl ib cp i:Pos}{A B:Acc}{cb:Cap}{fb only:Bool}{v vm vl:V}{id:Int}{k n:Nat}
theorem aDh(x:V)(h:Hp):Z8 [x] h=D x h:=by
 rw[auw];simp only[vvB,a!,reduceCtorEq,↓reduceIte,aio,akS,akR];simp only[aU,bW,vvB,a!,reduceCtorEq,↓reduceIte,bZ]
theorem aBo(r:Rws P (flat ji) 1 h v (List.replicate n []))(hn:n<=100):
  ∃ps h' F pl ib cb fb vm vl I,KG [v] h=D (X ps 0) h'/\dG h' F ps (AO n) pl ib cb fb vm vl I/\Nw h h'/\∀j,F j->h.next.nat<=j.nat:=by
 obtain⟨h1,e1,G⟩:=aAO h;obtain⟨ps,h2,F,pl,ib,cb,fb,e2,a2,J,f2⟩:=aDe h1;have u:=G.trans J;have n1:=G.next;have n2:=J.next;have y:=r.len;rw[List.length_replicate]at y;have e3:=aDh (iV 0) h2;rw[anc]
 suffices T:aX Tryz.prog [.tmp 2] (λz h'=>z=X ps 0/\∃F pl ib cb fb vm vl I,dG h' F ps (AO n) pl ib cb fb vm vl I/\Nw h h'/\∀j,F j->h.next.nat<=j.nat) (Kw (T.set (some v) (k! 0) T.nil) h) by
  obtain⟨z,h',e,rfl,F,pl,ib,cb,fb,vm,vl,I,q⟩:=T;exact⟨ps,h',F,pl,ib,cb,fb,vm,vl,I,e,q⟩
 simp(disch:=omega)only[vvB,a!,reduceCtorEq,↓reduceIte,Kw,abn,abm,abl,abk,e1,e2,e3,eG];refine Oc.then (dZ (n:=n) (λt fr g=>∃(k:Nat) (F:Pos->Prop) (pl ib:Pos) (cb:Cap) (fb:Bool) (vm vl:V) (I:Pos->Prop),fr.get (k! 0)=some v/\fr.get (k! 3)=some (X ps 0)/\fr.get (k! 5)=some (Y U (k:Int))/\k+t=n/\dG g F ps (AO k) pl ib cb fb vm vl I/\dH 0 I jf tMl 8 g vm (AO k).aP/\Nw h g/\∀j,F j->h.next.nat<=j.nat)
  (A:=λfr g=>fr.get (k! 3)=some (X ps 0)/\∃(F:Pos->Prop) (pl ib:Pos) (cb:Cap) (fb:Bool) (vm vl:V) (I:Pos->Prop),dG g F ps (AO n) pl ib cb fb vm vl I/\Nw h g/\∀j,F j->h.next.nat<=j.nat) (B:=λ_ _=>False) (by rw[dW];omega) ?_ ?_) ?_ ?_
 ·exact⟨0,F,pl,ib,cb,fb,.aQ,.aQ,_,qK0,qK0,qK1,by omega,a2,dH.nil _ _ _ _ _ _,u,λj q=>by have:=f2 j q;omega⟩
 ·rintro t fr g ⟨k,F,pl,ib,cb,fb,vm,vl,I,f0,f3,L,hk,a,o,c,p⟩;by_cases hz:t=0
  ·have m:k=n:=by omega
   subst m;simp(disch:=omega)only[vvB,a!,reduceCtorEq,↓reduceIte,NS,Nr,f0,L,y];exact⟨rfl,qK2 f3,F,pl,ib,cb,fb,vm,vl,I,a,c,p⟩
  ·have m:k<n:=by omega
   obtain⟨d,f⟩:∃d,d=g.new (O (N iW true) [iV 1]):=⟨_,rfl⟩
   have b:Nw g d:=by rw[f];exact Nw.new _ _
   have k2:Kn d g.next (O (N iW true) ([(1:Int)].map gV).flatten):=by rw[f];exact Kn.new _ _
   have r2:Rws (λj=>j=g.next) (flat gV) 1 d (.slice g.next 0 1 (.kn 1)) [(bxF k).id]:=Kn.rws (c:=gV) (l:= [(1:Int)]) (cp:=.kn 1) (sz:=1) k2 (λ_=>rfl) (λ_ _ _ _ e=>by cases e;exact v! _);have Q:bY iW [(Y U 0)] 1 [(0,1,Y U 1)] g=D (.slice g.next 0 1 (.kn 1)) d:=by rw[f];rfl
   obtain⟨i,q,cs,ix,ex,-,-,-,ld,-⟩:=(r.nw (aK _) (c.trans b)).elt (k:=k) (x:= []) (by rw[List.getElem?_replicate,if_pos m]);obtain rfl:cs=ji []:=ex;have s:=ld d rfl 0 (H []) rfl;rw[B!]at s;obtain⟨z,g3,S,E,C,W,e4,a3,M,Z,w⟩:=atY (a.nw b) (o.nw dw b) (azv (by omega)) r2 (at_:=(k:Int)) (by omega);rw[ax3]at a3 M;have n3:=(c.trans b).next;simp(disch:=omega)only[vvB,a!,reduceCtorEq,↓reduceIte,NS,Nr,abj,abh,f0,f3,L,y,Q,ix,s,e4];exact⟨t - 1,by omega,k+1,S,pl,ib,cb,fb,E,C,W,qK2 f0,qK2 f3,qK1,by omega,a3,M,(c.trans b).then Z λj hj q=>by have:=p j q;omega,λj q=>(w j q).elim (p j) λl=>by omega⟩
 ·rintro fr g ⟨f3,F,pl,ib,cb,fb,vm,vl,I,a,c,p⟩;simp only[vvB,a!,reduceCtorEq,↓reduceIte,abg,f3];exact aX.ret (qT0) ⟨rfl,F,pl,ib,cb,fb,vm,vl,I,a,c,p⟩
 ·intro fr g q;exact q.elim
end
end Go.Proofs.Im
namespace Go.Im
theorem iK{h:Hp}{p:Pos}{s:List Nat}{v:V}{es a:List (V×V)}(c:p=h.next)(b:ahr (H s) v es=some a):fP .string (.map p) (H s) v (h.new (.map es))=D V.undef (h.new (.map a)):=by
 subst c;show vY (.map h.next) (H s) v (h.new (.map es))=_;simp only[vY,dR,b,al0]
theorem aIc(n:Nat)(x:V)(h:Hp):eP (.func n) [x] [] h=D (.func (.func n) (.cons x .nil) .nil) h:=(rfl)
theorem aKw(g:Nat)(x:V)(n:Int)(u:Bool)(h:Hp):bQ [.fV,(Y U 0),(K false)] [(0,1,.func (.func g) (.cons x .nil) .nil),(1,1,(Y U n)),(2,1,(K u))] h=D (.agg (.cons (.func (.func g) (.cons x .nil) .nil) (.cons (Y U n) (.cons (K u) .nil)))) h:=(rfl)
end Go.Im
namespace Go.Proofs.Im
section
variable{h h':Hp}{F I:Pos->Prop}{ps pl ib p pc im:Pos}{A:Acc}{cb:Cap}{fb only:Bool}{vm vl vw:V}{f:Nat}{st:Sn}
theorem aDy(h:Hp):∃pc im h',ayT [] h=D (X pc 0) h'/\Kn h' pc (O (N tCn true) [K false,.bP,K false,iV 0,.map im])/\Kn h' im (.map (gy pc))/\pc≠im/\Nw h h'/\h.next.nat<=pc.nat/\h.next.nat<=im.nat:=by
 obtain⟨pc,c⟩:∃pc,pc=h.next:=⟨_,rfl⟩
 obtain⟨a,g,Q,-⟩:=mkW h (O (N tCn true) [K false,.bP,K false,iV 0,.jG]);have W:Kn a pc (O (N tCn true) [K false,.bP,K false,iV 0,.jG]):=by rw[g,c];exact Kn.new _ _
 have n1:a.next.nat=h.next.nat+1:=by rw[g,bD]
 have J:bQ [(K false),.bP,(K false),(Y U 0),.jG] [] h=D (.agg (V.ofList [K false,.bP,K false,iV 0,.jG])) h:=rfl;have P:fO tCn (.agg (V.ofList [K false,.bP,K false,iV 0,.jG])) h=D (X pc 0) a:=by rw[g,c];rfl
 obtain⟨p,b⟩:∃p,p=a.next:=⟨_,rfl⟩
 have L:X9 a=D (.map p) (a.new (.map [])):=by rw[b];rfl
 have m0:fP .string (.map p) (H [99,97,112,97,98,105,108,105,116,121]) (.agg (.cons (.func (.func aHT) (.cons (X pc 0) .nil) .nil) (.cons (Y U 0) (.cons (K false) .nil)))) (a.new (.map []))=D V.undef (a.new (.map (b! 1 (gy pc)))):=iK b rfl;have m1:fP .string (.map p) (H [110,111,111,112]) (.agg (.cons (.func (.func apI) (.cons (X pc 0) .nil) .nil) (.cons (Y U 0) (.cons (K false) .nil)))) (a.new (.map (b! 1 (gy pc))))=D V.undef (a.new (.map (b! 2 (gy pc)))):=iK b rfl;have m2:fP .string (.map p) (H [108,111,103,111,117,116]) (.agg (.cons (.func (.func aHS) (.cons (X pc 0) .nil) .nil) (.cons (Y U 0) (.cons (K false) .nil)))) (a.new (.map (b! 2 (gy pc))))=D V.undef (a.new (.map (b! 3 (gy pc)))):=iK b rfl;have m3:fP .string (.map p) (H [108,111,103,105,110]) (.agg (.cons (.func (.func aBw) (.cons (X pc 0) .nil) .nil) (.cons (Y U 1) (.cons (K false) .nil)))) (a.new (.map (b! 3 (gy pc))))=D V.undef (a.new (.map (b! 4 (gy pc)))):=iK b rfl;have m4:fP .string (.map p) (H [115,101,108,101,99,116]) (.agg (.cons (.func (.func ahk) (.cons (X pc 0) .nil) .nil) (.cons (Y U 2) (.cons (K false) .nil)))) (a.new (.map (b! 4 (gy pc))))=D V.undef (a.new (.map (b! 5 (gy pc)))):=iK b rfl;have m5:fP .string (.map p) (H [101,120,97,109,105,110,101]) (.agg (.cons (.func (.func Uz) (.cons (X pc 0) .nil) .nil) (.cons (Y U 2) (.cons (K false) .nil)))) (a.new (.map (b! 5 (gy pc))))=D V.undef (a.new (.map (b! 6 (gy pc)))):=iK b rfl;have m6:fP .string (.map p) (H [99,114,101,97,116,101]) (.agg (.cons (.func (.func aiQ) (.cons (X pc 0) .nil) .nil) (.cons (Y U 2) (.cons (K false) .nil)))) (a.new (.map (b! 6 (gy pc))))=D V.undef (a.new (.map (b! 7 (gy pc)))):=iK b rfl;have m7:fP .string (.map p) (H [100,101,108,101,116,101]) (.agg (.cons (.func (.func apF) (.cons (X pc 0) .nil) .nil) (.cons (Y U 2) (.cons (K false) .nil)))) (a.new (.map (b! 7 (gy pc))))=D V.undef (a.new (.map (b! 8 (gy pc)))):=iK b rfl;have m8:fP .string (.map p) (H [114,101,110,97,109,101]) (.agg (.cons (.func (.func aiP) (.cons (X pc 0) .nil) .nil) (.cons (Y U 2) (.cons (K false) .nil)))) (a.new (.map (b! 8 (gy pc))))=D V.undef (a.new (.map (b! 9 (gy pc)))):=iK b rfl;have m9:fP .string (.map p) (H [108,105,115,116]) (.agg (.cons (.func (.func apE) (.cons (X pc 0) .nil) .nil) (.cons (Y U 2) (.cons (K false) .nil)))) (a.new (.map (b! 9 (gy pc))))=D V.undef (a.new (.map (b! 10 (gy pc)))):=iK b rfl;have s:fP .string (.map p) (H [115,116,97,116,117,115]) (.agg (.cons (.func (.func aiN) (.cons (X pc 0) .nil) .nil) (.cons (Y U 2) (.cons (K false) .nil)))) (a.new (.map (b! 10 (gy pc))))=D V.undef (a.new (.map (b! 11 (gy pc)))):=iK b rfl;have t:fP .string (.map p) (H [97,112,112,101,110,100]) (.agg (.cons (.func (.func aiR) (.cons (X pc 0) .nil) .nil) (.cons (Y U 2) (.cons (K false) .nil)))) (a.new (.map (b! 11 (gy pc))))=D V.undef (a.new (.map (b! 12 (gy pc)))):=iK b rfl;have u:fP .string (.map p) (H [99,104,101,99,107]) (.agg (.cons (.func (.func apI) (.cons (X pc 0) .nil) .nil) (.cons (Y U 3) (.cons (K false) .nil)))) (a.new (.map (b! 12 (gy pc))))=D V.undef (a.new (.map (b! 13 (gy pc)))):=iK b rfl;have v:fP .string (.map p) (H [99,108,111,115,101]) (.agg (.cons (.func (.func Tm) (.cons (X pc 0) .nil) .nil) (.cons (Y U 3) (.cons (K false) .nil)))) (a.new (.map (b! 13 (gy pc))))=D V.undef (a.new (.map (b! 14 (gy pc)))):=iK b rfl;have w:fP .string (.map p) (H [101,120,112,117,110,103,101]) (.agg (.cons (.func (.func CV) (.cons (X pc 0) .nil) .nil) (.cons (Y U 3) (.cons (K true) .nil)))) (a.new (.map (b! 14 (gy pc))))=D V.undef (a.new (.map (b! 15 (gy pc)))):=iK b rfl;have x:fP .string (.map p) (H [115,101,97,114,99,104]) (.agg (.cons (.func (.func aiO) (.cons (X pc 0) .nil) .nil) (.cons (Y U 3) (.cons (K true) .nil)))) (a.new (.map (b! 15 (gy pc))))=D V.undef (a.new (.map (b! 16 (gy pc)))):=iK b rfl;have y:fP .string (.map p) (H [102,101,116,99,104]) (.agg (.cons (.func (.func anu) (.cons (X pc 0) .nil) .nil) (.cons (Y U 3) (.cons (K true) .nil)))) (a.new (.map (b! 16 (gy pc))))=D V.undef (a.new (.map (b! 17 (gy pc)))):=iK b rfl;have z:fP .string (.map p) (H [115,116,111,114,101]) (.agg (.cons (.func (.func ant) (.cons (X pc 0) .nil) .nil) (.cons (Y U 3) (.cons (K true) .nil)))) (a.new (.map (b! 17 (gy pc))))=D V.undef (a.new (.map (b! 18 (gy pc)))):=iK b rfl;have B:fP .string (.map p) (H [99,111,112,121]) (.agg (.cons (.func (.func apG) (.cons (X pc 0) .nil) .nil) (.cons (Y U 3) (.cons (K true) .nil)))) (a.new (.map (b! 18 (gy pc))))=D V.undef (a.new (.map (b! 19 (gy pc)))):=iK b rfl;have C:fP .string (.map p) (H [109,111,118,101]) (.agg (.cons (.func (.func apD) (.cons (X pc 0) .nil) .nil) (.cons (Y U 3) (.cons (K true) .nil)))) (a.new (.map (b! 19 (gy pc))))=D V.undef (a.new (.map (b! 20 (gy pc)))):=iK b rfl;have o:b! 20 (gy pc)=gy pc:=rfl;obtain⟨d,i⟩:∃d,d=a.new (.map (b! 20 (gy pc))):=⟨_,rfl⟩
 have Z:Kn d p (.map (gy pc)):=by rw[i,b,o];exact Kn.new _ _
 have E:Nw a d:=by rw[i];exact Nw.new _ _
 have n:=W.nw E;obtain⟨l,k⟩:∃l,l=d.put pc (some (O (N tCn true) [K false,.bP,K false,iV 0,.map p])):=⟨_,rfl⟩
 have M:aT 1 (X pc 4) (.map p) d=D V.undef l:=by rw[k];exact n.st (q:=4) ⟨rfl,rfl⟩ (by simp)
 have r:aT 1 (X pc 4) (.map p) (a.new (.map (b! 20 (gy pc))))=D V.undef l:=by rw[<-i];exact M
 have m:pc≠p:=λe=>by rw[c,b]at e;have:=congrArg Pos.nat e;omega
 have G:Ch (λj=>j=pc) d l:=by rw[k];exact Ch.put _ _ rfl
 refine⟨pc,p,l,?_,by rw[k];exact n.put _,Z.ch G λe=>m e.symm,m,(Q.trans E).then G λj S e=>by rw[e,c]at S;omega,by rw[c];omega,by rw[b];omega⟩;rw[aHM];simp only[vvB,a!,reduceCtorEq,↓reduceIte,aDl,aAW,aAV,aAU,aAT,J,P,L,aIc,aKw,m0,m1,m2,m3,m4,m5,m6,m7,m8,m9,s,t,u,v,w,x,y,z,B,C,r];simp only[aU,bW,vvB,a!,reduceCtorEq,↓reduceIte,bZ]
theorem dG.world(a:dG h F ps A pl ib cb fb vm vl I)(d:Kn h pc (O (N tCn true) [K false,.bP,K false,iV 0,.map im]))(e:Kn h im (.map (gy pc)))(b:pc≠im)(c:∀j,F j->j≠pc/\j≠im):
  World h pc im ps {acc:=A,inn:=false,only:=false,cnt:=0,vw:=none} F (λ_=>False) pl ib cb fb vm vl .bP I:=
 ⟨a,d,e,⟨rfl,λ_ q=>q⟩,b,λj f=>⟨λq=>q,c j f⟩,λ_ q=>q.elim⟩
end
end Go.Proofs.Im
namespace Go.Im
def aq0:Ln.Got:=⟨1,(.cons 1 [97] .nil (.cons 1 [76,79,71,73,78] .nil (.cons 1 [117] .nil (.cons 1 [112] .nil .nil))))⟩
def ame:Ln.Got:=⟨1,(.cons 1 [98] .nil (.cons 1 [83,69,76,69,67,84] .nil (.cons 1 [73,78,66,79,88] .nil .nil)))⟩
def Jh:Ln.Got:=⟨1,(.cons 1 [120] .nil (.cons 1 [69,88,80,85,78,71,69] .nil .nil))⟩
def aq1:Ln.Got:=⟨1,(.cons 1 [120] .nil (.cons 1 [67,76,79,83,69] .nil .nil))⟩
def aq2:Ln.Got:=⟨1,(.cons 1 [121] .nil (.cons 1 [67,72,69,67,75] .nil .nil))⟩
def ahI:Ln.Got:=⟨1,(.cons 1 [119] .nil (.cons 1 [69,88,65,77,73,78,69] .nil (.cons 1 [73,78,66,79,88] .nil .nil)))⟩
def amf:Ln.Got:=⟨1,(.cons 1 [121] .nil (.cons 1 [67,76,79,83,69] .nil .nil))⟩
def aB8:Ln.Got:=⟨1,(.cons 1 [120] .nil (.cons 1 [85,73,68] .nil (.cons 1 [69,88,80,85,78,71,69] .nil (.cons 1 [49] .nil .nil))))⟩
abbrev aKW:List Nat:= [120,32,69,88,80,85,78,71,69,13,10]
abbrev aK1:List Nat:= [120,32,67,76,79,83,69,13,10,121,32,67,72,69,67,75,13,10]
abbrev aKX:List Nat:= [119,32,69,88,65,77,73,78,69,32,73,78,66,79,88,13,10]
abbrev ecS:List Nat:= [120,32,69,88,80,85,78,71,69,13,10,121,32,67,76,79,83,69,13,10]
abbrev aHQ:List Nat:= [120,32,85,73,68,32,69,88,80,85,78,71,69,32,49,13,10]
end Go.Im
namespace Go.Proofs.Im
theorem aCe:(oZ Ik.flA)= [aq0,ame]:=kR
theorem azx:(oZ Ik.flB)= [Jh]:=kR
theorem azz:(oZ Ik.flC)= [aq1,aq2]:=kR
theorem azy:(oZ Ik.flD)= [ahI]:=kR
theorem aCf:(oZ Ik.flE)= [Jh,amf]:=kR
theorem azw:(oZ Ik.flF)= [aB8]:=kR
section
variable{bb:Nat}{h h' g h0:Hp}{P F I J Z:Pos->Prop}{ps pl ib p ir pc im:Pos}{A:Acc}{cb:Cap}{fb only u last bare:Bool}{vm vl vv vw:V}{id:Int}{k f n:Nat}{b:Bx}{st:Sn}
theorem ajo{l:List Nat}(h:(l.all λy=>P! y 256)=true):∀y∈l,y<256:=λy a=>by
 have:=List.all_eq_true.1 h y a;simpa[Nat.blt_eq]using this
theorem ajE{n:Nat}{a b c:Int}(z:n<100)(B:0<=a/\a<100)(hb:0<=b/\b<100)(i:0<=c/\c<100):(lK n a b c).length<=1000/\∀x∈lK n a b c,x<256:=by
 have o:=uO z;have r:=uO (n:=a.toNat) (by omega);have s:=uO (n:=b.toNat) (by omega);have v:=uO (n:=c.toNat) (by omega);have one:∀(p d:List Nat),(p.all λy=>P! y 256)=true->(∀c∈d,c<256)->∀t∈ [p++d++ [93]],∀c∈t,c<256:=λp d m w t j c i=>by
  simp only[D!]at j;subst j;rcases c!.1 i with q|q
  ·rcases c!.1 q with q|q
   ·exact ajo m c q
   ·exact w c q
  ·simp at q;omega
 have lit:∀(p:List Nat),(p.all λy=>P! y 256)=true->∀t∈ [p],∀c∈t,c<256:=λp m t j c i=>by
  simp only[D!]at j;subst j;exact ajo m c i
 refine⟨by simp[lK,lineS,dN];omega,λx e=>?_⟩;unfold lK at e;rcases c!.1 e with q|e
 ·exact uX (lit _ (by decide)) x q
 rcases c!.1 e with q|e
 ·refine uX (λt j c i=>?_) x q;simp only[y!,G!,or_false]at j;rcases j with rfl|rfl|rfl
  ·exact ajo (l:= [42]) (by decide) c i
  ·exact o.2.1 c i
  ·exact ajo (l:=aeN) (by decide) c i
 rcases c!.1 e with q|e
 ·exact uX (lit _ (by decide)) x q
 rcases c!.1 e with q|e
 ·exact uX (one _ _ (by decide) r.2.1) x q
 rcases c!.1 e with q|e
 ·exact uX (one _ _ (by decide) s.2.1) x q
 ·exact uX (one _ _ (by decide) v.2.1) x e
theorem axm(hi:st.inn=false)(a:st.vw=none)(d:0<=st.cnt/\st.cnt<1000):iR pc im ps aq0 st (okT [97] []) true {st with cnt:=st.cnt+1,inn:=true}:=by
 have:=iR.cmd (pc:=pc) (im:=im) (ps:=ps) (st:=st) (g:=aq0) (x:=⟨1,[97],.nil⟩) (y:=⟨1,[76,79,71,73,78],.nil⟩) (kk:=0) (tx:= []) (last:=false) (bare:=false) (s2:= []) (st2:={st with cnt:=st.cnt+1,inn:=true}) rfl rfl rfl rfl rfl ⟨by decide,by decide⟩ ⟨by decide,by decide⟩ ⟨d.1,by omega⟩
  (rQ.of (n:=1) (f:=aBw) (u:=false) (by decide) rfl (.inr (.inl ⟨rfl,hi⟩)) (λbb ir vw P h0 Z h L F J pl ib cb fb vm vl vv I q=>by
   obtain⟨c,e,r⟩:=ayw q rfl rfl rfl;exact⟨c,e,r⟩) rfl) (.inl rfl) ⟨by simp,by simp⟩ ⟨by simp,by simp⟩ (λ_ _ ks e=>by rw[show({st with cnt:=st.cnt+1,inn:=true}:Sn).vw=st.vw from rfl,a]at e;cases e) (by simp[kU,okT,lineS,dN,uI,a])
 have e1:kU 0 [97] [] [] false {st with cnt:=st.cnt+1,inn:=true}=okT [97] []:=by
  unfold kU;rw[if_neg (by decide),if_neg (by simp),show({st with cnt:=st.cnt+1,inn:=true}:Sn).vw=st.vw from rfl,a];rfl
 have e2:zB 0 false {st with cnt:=st.cnt+1,inn:=true}={st with cnt:=st.cnt+1,inn:=true}:=by
  unfold zB;rw[if_neg (by simp)];simp only[Sn.mk.injEq,true_and];rw[a];rfl
 rw[e1,e2]at this;exact this
theorem att(hi:st.inn=true)(i:0<=st.cnt/\st.cnt<1000)(a:CanBox st.acc k b):iR pc im ps ame st (lK (Wn st.acc.aP b.id).length b.valid b.next st.acc.clock++okT [98] rwS) true {st with cnt:=st.cnt+1,only:=false,vw:=some (dJ st.acc b.id)}:=by
 have c:=ajE (n:=(Wn st.acc.aP b.id).length) (by have:=a.few;omega) a.valid a.next ⟨a.small.clock.1,a.clock⟩;have:=iR.cmd (pc:=pc) (im:=im) (ps:=ps) (st:=st) (g:=ame) (x:=⟨1,[98],.nil⟩) (y:=⟨1,[83,69,76,69,67,84],.nil⟩) (kk:=0) (tx:=rwS) (last:=false) (bare:=true) (s2:=lK (Wn st.acc.aP b.id).length b.valid b.next st.acc.clock) (st2:={st with cnt:=st.cnt+1,only:=false,vw:=some (dJ st.acc b.id)}) rfl rfl rfl rfl rfl ⟨by decide,by decide⟩ ⟨by decide,by decide⟩ ⟨i.1,by omega⟩
  (rQ.of (n:=2) (f:=ahk) (u:=false) (by decide) rfl (.inr (.inr (.inl ⟨rfl,hi⟩))) (λbb ir vw P h0 Z h L F J pl ib cb fb vm vl vv I q=>by
   obtain⟨d,e,r⟩:=aAP q rfl rfl rfl a (by simp);exact⟨d,e,r⟩) rfl) (.inl rfl) ⟨by decide,by decide⟩ ⟨by omega,c.2⟩ (λ_ e=>by cases e) (by simp[kU,okT,lineS,dN];omega)
 have e1:kU 0 [98] rwS (lK (Wn st.acc.aP b.id).length b.valid b.next st.acc.clock) true {st with cnt:=st.cnt+1,only:=false,vw:=some (dJ st.acc b.id)}=lK (Wn st.acc.aP b.id).length b.valid b.next st.acc.clock++okT [98] rwS:=by
  unfold kU;rw[if_neg (by decide),if_pos rfl]
 have e2:zB 0 true ({st with cnt:=st.cnt+1,only:=false,vw:=some (dJ st.acc b.id)}:Sn)={st with cnt:=st.cnt+1,only:=false,vw:=some (dJ st.acc b.id)}:=by
  unfold zB;rw[if_pos (.inr rfl)]
 rw[e1,e2]at this;exact this
theorem aKB(a:dG h F ps A pl ib cb fb vm vl I)(C:CanBox A k b)(hG:Ik.aH<=h.next.nat):
  ∃pc im h',ae5 [X ps 0] h=D (X pc 0) h'/\WE h F h' pc im ps {acc:=A,inn:=true,only:=false,cnt:=2,vw:=some (dJ A b.id)}/\h.next.nat<=pc.nat:=by
 obtain⟨pc,im,W,e1,G,L,l,c,l1,M⟩:=aDy h;have a1:=a.nw c;have Q:=a1.world G L l λj f=>⟨λe=>by have:=a.lt j f;rw[e]at this;omega,λe=>by have:=a.lt j f;rw[e]at this;omega⟩
 obtain⟨t,E⟩:∃t,Alls pc im ps (oZ Ik.flA) {acc:=A,inn:=false,only:=false,cnt:=0,vw:=none} t {acc:=A,inn:=true,only:=false,cnt:=2,vw:=some (dJ A b.id)}:=by
  rw[aCe];exact⟨_,.go (axm rfl rfl ⟨by simp,by simp⟩) (.go (att (st:={acc:=A,inn:=true,only:=false,cnt:=1,vw:=none}) rfl ⟨by simp,by simp⟩ C) (.nil _))⟩
 obtain⟨B,e2,w,y,o,m,d,i,s,r,v,x,S,f2,z⟩:=XO Q (by have:=c.next;omega) aKr E;refine⟨pc,im,B,?_,⟨w,y,o,m,d,i,s,r,v,x,S,λj f=>?_,?_⟩,l1⟩
 ·rw[ayS];simp only[vvB,a!,reduceCtorEq,↓reduceIte,amX,aod,aoc,aob,aoa,e1,e2];simp only[aU,bW,vvB,a!,reduceCtorEq,↓reduceIte,bZ]
 ·have n1:=c.next;rcases f2 j f with(q|q|rfl|rfl)|q
  ·exact .inl q
  ·exact q.elim
  ·exact .inr l1
  ·exact .inr M
  ·exact .inr (by omega)
 ·exact c.ch.trans z λj hj f=>by
   rcases f with q|q|rfl|rfl
   ·exact q
   ·exact q.elim
   ·omega
   ·omega
end
section
variable{bb:Nat}{h h' g h0:Hp}{P F I J Z:Pos->Prop}{ps pl ib ir pc im:Pos}{C:Acc}{cb:Cap}{fb only u last bare:Bool}{vm vl vv vw:V}{id:Int}{k f n:Nat}{b:Bx}{st:Sn}{L:List V}{s nm:List Nat}{w:Wds}{ks:Int×Int×List (Int×Int×Int)}
theorem aH0(q:Rq bb h0 Z h pc im ps ir false w s st L vw P F J pl ib cb fb vm vl vv I)(m:nm≠ahi)(hf:AL nm QN=some (f,3,u))(hv:st.vw=none):
  ∃h',SQ [X pc 0,X ir 0,H nm] h=D (anV 1 mP false false false) h'/\tZ bb h0 Z vw P h' pc im ps ir false w s st:=by
 obtain⟨a,l,W,k1⟩:=mkW h (O (N tA true) zAn);have v:=q.nw W;have eN:(nm= [117,105,100])=False:=eq_false m;obtain⟨d,c⟩:∃d,d=(a.new (O (N alH true) [.fV,Y U 0,K false])).put a.next (some (O (N alH true) [.func (.func f) (.cons (X pc 0) .nil) .nil,Y U 3,K u])):=⟨_,rfl⟩
 have z:Nw a d:=by rw[c];exact Pq _ _ _
 have g2:Kn d a.next (O (N alH true) [.func (.func f) (.cons (X pc 0) .nil) .nil,Y U 3,K u]):=by rw[c];exact(Kn.new a _).put _
 have i:=v.nw z;have k2:=k1.nw z;obtain⟨h3,j,B⟩:=apL d;have j:Us [] d=D (anV 1 mP false false false) h3:=j;have E:=i.nw B;have k3:=k2.nw B;obtain⟨h4,M,k4,r4⟩:=E.fin E.ai5.mk' k3 (by
  intro e;rcases e with e|e
  ·have:=q.wd.lt _ e;omega
  ·have:=(OfB.from q.bd _ e).2;omega) q.chz.next (anL 1 mP false false false) rfl
 have G:=v.wd.con.ld (q:=4) (x:=.map im) rfl;have p:=anN v.wd.map.1 (.agg (.cons .fV (.cons (Y U 0) (.cons (K false) .nil)))) nm;rw[hf]at p;simp only[Option.map_some,Option.getD_some,Option.isSome_some,ayg]at p;have t:VT .string true (.agg (.cons .fV (.cons (Y U 0) (.cons (K false) .nil)))) (.map im) (H nm) a=D (.tuple (.cons (.agg (.cons (.func (.func f) (.cons (X pc 0) .nil) .nil) (.cons (Y U 3) (.cons (K u) .nil)))) (.cons (K true) .nil))) a:=p;have S:=g2.ld (q:=1) (x:=Y U 3) rfl;have Q:=i.kr.ld i.l4;have o:vv=.bP:=by have:=q.wd.view;rw[hv]at this;exact this.1
 have y:=i.wd.con.ld (q:=1) (x:=vv) rfl;rw[o]at y;rw[aem,ad6]
 suffices hT:aX Tryz.prog [.cell 6 tA] (RunT bb h0 Z vw P pc im ps ir false w (anL 1 mP false false false) s st)
   (aB Af (aB (aB Ae (aV (.tmp 11) (aB (aB JS (aV (.tmp 17) (aB RQ Out.ret) Out.nor)) (aB JR JQ)) Out.nor)) ahp) (T.set (some (H nm)) (k! 2) (T.set (some (X ir 0)) (k! 1) (T.set (some (X pc 0)) (k! 0) T.nil))) h) by
  obtain⟨r,h',e,rfl,q⟩:=hT;exact⟨h',e,q⟩
 simp(disch:=omega)only[vvB,a!,reduceCtorEq,↓reduceIte,eN,Af,Ae,<-l];unfold ahp axr;simp(disch:=omega)only[vvB,a!,reduceCtorEq,↓reduceIte,RP,RN,RJ,Ad,Ac,Aa,zZ,Ub,zY,adL,G,t,Pg,apN (dR _ _),<-c,Q,S,y,atB,j,M,Int.reduceEq];exact aX.ret (by simp only[bW,vvB,a!,reduceCtorEq,↓reduceIte,ni,k4.ldN (n:=5) rfl,bZ]) ⟨rfl,r4⟩
theorem rQ.no{w:Wds}(a:nm≠ahi)(c:AL nm QN=some (f,3,u))(d:st.vw=none):rQ pc im ps w nm st (anL 1 mP false false false) [] st:=
 λbb h0 Z h ir L vw P F J pl ib cb fb vm vl vv I q=>by
  obtain⟨h',e,r⟩:=aH0 q a c d;exact⟨h',vw,P,w,false,e,r⟩
theorem apO(a:st.vw=some ks)(m:st.only=false)(l:0<=st.cnt/\st.cnt<1000)(i:Purges st.acc ks (fH st.acc.aP ks.1 0 ks.2.2) C)(j:CanUpd C ks):iR pc im ps Jh st (uI C (some ks)++okT [120] []) true {st with cnt:=st.cnt+1,acc:=C,vw:=I4 C (some ks)}:=by
 have c:∀k,some ks=some k->CanUpd C k:=λk e=>by cases e;exact j
 have hl:=(alG c).1;have:=iR.cmd (pc:=pc) (im:=im) (ps:=ps) (st:=st) (g:=Jh) (x:=⟨1,[120],.nil⟩) (y:=⟨1,[69,88,80,85,78,71,69],.nil⟩) (kk:=0) (tx:= []) (last:=false) (bare:=false) (s2:= []) (st2:={st with cnt:=st.cnt+1,acc:=C}) rfl rfl rfl rfl rfl ⟨by decide,by decide⟩ ⟨by decide,by decide⟩ ⟨l.1,by omega⟩
  (rQ.of (n:=3) (f:=CV) (u:=true) (by decide) rfl (.inr (.inr (.inr ⟨rfl,by rw[show({st with cnt:=st.cnt+1}:Sn).vw=st.vw from rfl,a];simp⟩))) (λbb ir vw P h0 Z h L F J pl ib cb fb vm vl vv I q=>by
   obtain⟨d,e,r⟩:=arZ q a m rfl i;exact⟨d,e,r⟩) rfl) (.inl rfl) ⟨by simp,by simp⟩ ⟨by simp,by simp⟩ (λ_ _ k e=>c k (by rw[<-a];exact e)) (by
   show(kU 0 [120] [] [] false {st with cnt:=st.cnt+1,acc:=C}).length<=2000000;unfold kU;rw[if_neg (by decide),if_neg (by simp)];show([]++uI C st.vw++okT [120] []).length<=2000000;rw[a];simp[okT,lineS,dN];omega)
 have e1:kU 0 [120] [] [] false ({st with cnt:=st.cnt+1,acc:=C}:Sn)=uI C (some ks)++okT [120] []:=by
  unfold kU;rw[if_neg (by decide),if_neg (by simp)];show []++uI C st.vw++okT [120] []=_;rw[a];rfl
 have e2:zB 0 false ({st with cnt:=st.cnt+1,acc:=C}:Sn)={st with cnt:=st.cnt+1,acc:=C,vw:=I4 C (some ks)}:=by
  unfold zB;rw[if_neg (by simp)];show({st with cnt:=st.cnt+1,acc:=C,vw:=I4 C st.vw}:Sn)=_;rw[a]
 rw[e1,e2]at this;exact this
theorem aiW(a:st.vw=some ks)(l:st.only=true)(i:0<=st.cnt/\st.cnt<1000)(d:st.acc.Small)(j:ks.2.2.length<=1000):iR pc im ps Jh st ([120]++noS++mP++ [13,10]) true {st with cnt:=st.cnt+1}:=by
 have:=iR.cmd (pc:=pc) (im:=im) (ps:=ps) (st:=st) (g:=Jh) (x:=⟨1,[120],.nil⟩) (y:=⟨1,[69,88,80,85,78,71,69],.nil⟩) (kk:=1) (tx:=mP) (last:=false) (bare:=false) (s2:= []) (st2:={st with cnt:=st.cnt+1}) rfl rfl rfl rfl rfl ⟨by decide,by decide⟩ ⟨by decide,by decide⟩ ⟨i.1,by omega⟩
  (rQ.of (n:=3) (f:=CV) (u:=true) (by decide) rfl (.inr (.inr (.inr ⟨rfl,by rw[show({st with cnt:=st.cnt+1}:Sn).vw=st.vw from rfl,a];simp⟩))) (λbb ir vw P h0 Z h L F J pl ib cb fb vm vl vv I q=>by
   obtain⟨c,e,r⟩:=ar0 q a l rfl d j;exact⟨c,e,r⟩) rfl) (.inr rfl) ⟨by decide,by decide⟩ ⟨by simp,by simp⟩ (λe=>by cases e) (by simp[kU])
 exact this
theorem aoE(c:st.vw=none)(a:0<=st.cnt/\st.cnt<1000):iR pc im ps aq2 st ([121]++noS++mP++ [13,10]) true {st with cnt:=st.cnt+1}:=by
 have:=iR.cmd (pc:=pc) (im:=im) (ps:=ps) (st:=st) (g:=aq2) (x:=⟨1,[121],.nil⟩) (y:=⟨1,[67,72,69,67,75],.nil⟩) (kk:=1) (tx:=mP) (last:=false) (bare:=false) (s2:= []) (st2:={st with cnt:=st.cnt+1}) rfl rfl rfl rfl rfl ⟨by decide,by decide⟩ ⟨by decide,by decide⟩ ⟨a.1,by omega⟩
  (rQ.no (f:=apI) (u:=false) (by decide) rfl c) (.inr rfl) ⟨by decide,by decide⟩ ⟨by simp,by simp⟩ (λe=>by cases e) (by simp[kU])
 exact this
theorem axn(a:st.vw=some ks)(j:st.only=false)(i:0<=st.cnt/\st.cnt<1000)(d:Purges st.acc ks (fH st.acc.aP ks.1 0 ks.2.2) C):iR pc im ps aq1 st (okT [120] []) true {st with cnt:=st.cnt+1,acc:=C,only:=false,vw:=none}:=by
 have:=iR.cmd (pc:=pc) (im:=im) (ps:=ps) (st:=st) (g:=aq1) (x:=⟨1,[120],.nil⟩) (y:=⟨1,[67,76,79,83,69],.nil⟩) (kk:=0) (tx:= []) (last:=false) (bare:=true) (s2:= []) (st2:={st with cnt:=st.cnt+1,acc:=C,only:=false,vw:=none}) rfl rfl rfl rfl rfl ⟨by decide,by decide⟩ ⟨by decide,by decide⟩ ⟨i.1,by omega⟩
  (rQ.of (n:=3) (f:=Tm) (u:=false) (by decide) rfl (.inr (.inr (.inr ⟨rfl,by rw[show({st with cnt:=st.cnt+1}:Sn).vw=st.vw from rfl,a];simp⟩))) (λbb ir vw P h0 Z h L F J pl ib cb fb vm vl vv I q=>by
   obtain⟨c,e,r⟩:=ayx q a j rfl d;exact⟨c,e,r⟩) rfl) (.inl rfl) ⟨by simp,by simp⟩ ⟨by simp,by simp⟩ (λ_ e=>by cases e) (by simp[kU,okT,lineS,dN])
 exact this
theorem ahl(i:st.vw=some ks)(d:st.only=true)(c:0<=st.cnt/\st.cnt<1000):iR pc im ps amf st (okT [121] []) true {st with cnt:=st.cnt+1,only:=false,vw:=none}:=by
 have:=iR.cmd (pc:=pc) (im:=im) (ps:=ps) (st:=st) (g:=amf) (x:=⟨1,[121],.nil⟩) (y:=⟨1,[67,76,79,83,69],.nil⟩) (kk:=0) (tx:= []) (last:=false) (bare:=true) (s2:= []) (st2:={st with cnt:=st.cnt+1,only:=false,vw:=none}) rfl rfl rfl rfl rfl ⟨by decide,by decide⟩ ⟨by decide,by decide⟩ ⟨c.1,by omega⟩
  (rQ.of (n:=3) (f:=Tm) (u:=false) (by decide) rfl (.inr (.inr (.inr ⟨rfl,by rw[show({st with cnt:=st.cnt+1}:Sn).vw=st.vw from rfl,i];simp⟩))) (λbb ir vw P h0 Z h L F J pl ib cb fb vm vl vv I q=>by
   obtain⟨a,e,r⟩:=ar2 q d rfl;exact⟨a,e,r⟩) rfl) (.inl rfl) ⟨by simp,by simp⟩ ⟨by simp,by simp⟩ (λ_ e=>by cases e) (by simp[kU,okT,lineS,dN])
 exact this
theorem apP(hi:st.inn=true)(i:0<=st.cnt/\st.cnt<1000)(a:CanBox st.acc k b):iR pc im ps ahI st (lK (Wn st.acc.aP b.id).length b.valid b.next st.acc.clock++okT [119] roS) true {st with cnt:=st.cnt+1,only:=true,vw:=some (dJ st.acc b.id)}:=by
 have c:=ajE (n:=(Wn st.acc.aP b.id).length) (by have:=a.few;omega) a.valid a.next ⟨a.small.clock.1,a.clock⟩;have:=iR.cmd (pc:=pc) (im:=im) (ps:=ps) (st:=st) (g:=ahI) (x:=⟨1,[119],.nil⟩) (y:=⟨1,[69,88,65,77,73,78,69],.nil⟩) (kk:=0) (tx:=roS) (last:=false) (bare:=true) (s2:=lK (Wn st.acc.aP b.id).length b.valid b.next st.acc.clock) (st2:={st with cnt:=st.cnt+1,only:=true,vw:=some (dJ st.acc b.id)}) rfl rfl rfl rfl rfl ⟨by decide,by decide⟩ ⟨by decide,by decide⟩ ⟨i.1,by omega⟩
  (rQ.of (n:=2) (f:=Uz) (u:=false) (by decide) rfl (.inr (.inr (.inl ⟨rfl,hi⟩))) (λbb ir vw P h0 Z h L F J pl ib cb fb vm vl vv I q=>by
   obtain⟨d,e,r⟩:=ar1 q rfl rfl rfl a (by simp);exact⟨d,e,r⟩) rfl) (.inl rfl) ⟨by decide,by decide⟩ ⟨by omega,c.2⟩ (λ_ e=>by cases e) (by simp[kU,okT,lineS,dN];omega)
 exact this
end
end Go.Proofs.Im
namespace Go.Im
structure Em where
 i:Nat
 mark:Bool
 mod:Int
def mkE(e:Em):Ml:={mlF e.i with keys:=if e.mark=true then [jR] else [],mod:=e.mod}
def keyE(e:Em):Int×Int×Int:=((e.i:Int)+1,(e.i:Int)+1,e.mod)
structure DAcc (A:Acc) (l:List Em):Prop where
 clock:0<=A.clock/\A.clock<90
 ents:(A.ents.length:Int)<=3*A.clock
 mods:∀e∈A.ents,e.mod<=A.clock
 boxes:∃nx md:Int,0<=nx/\nx<90/\A.boxes= [{id:=1,name:=iL,par:=0,valid:=1,next:=nx,mod:=md}]
 aP:A.aP=l.map mkE
 ord:l.Pairwise λa b=>a.i<b.i
 few:l.length<=20
 oct:A.octets=0
theorem qY(e:Em):(mkE e).mem= [(1,(e.i:Int)+1)]:=rfl
theorem aIB(l:List Em):Wn (l.map mkE) 1=l.map λe=>((e.i:Int)+1,mkE e):=by
 induction l with
 |nil=>rfl
 |cons e l a=>
  have:Wn ((e::l).map mkE) 1=((mkE e).mem.filter λx=>decide (x.1=1)).map (λx=>(x.2,mkE e))++Wn (l.map mkE) 1:=rfl;rw[this,a];rfl
theorem YH{α:Type}{f:α->Nat}{l:List α}(k:l.Pairwise λa b=>f a<f b){t:Nat}{x:α}(d:l[t]?=some x):∀{p:α->Bool},(∀y,p y=decide (f y=f x))->l.findIdx? p=some t/\l.find? p=some x:=by
 intro p g;have h:=(l!.1 d).1;have c:=(l!.1 d).2;have e:l.findIdx? p=some t:=by
  rw[List.findIdx?_eq_some_iff_getElem];refine⟨h,by rw[g,c];simp,λj i=>?_⟩;rw[g];have:=List.pairwise_iff_getElem.1 k j t (by omega) h i
  rw[c]at this;simp;omega
 exact⟨e,by rw[YI,e];exact d⟩
theorem erase_filter{α:Type}{f:α->Nat}:∀{l:List α},(l.Pairwise λa b=>f a<f b)->∀{t:Nat} {x:α},l[t]?=some x->l.eraseIdx t=l.filter λy=>decide (f y≠f x)
 | [],_,t,x,d=>by simp at d
 |a::l,c,0,x,d=>by
  simp at d;subst d;rw[r!]at c;rw[List.eraseIdx_cons_zero,I!];simp only[ne_eq,not_true,decide_false,Bool.false_eq_true,↓reduceIte];exact(C!.2 λy g=>by have:=c.1 y g;simp;omega).symm
 |a::l,c,t+1,x,d=>by
  rw[r!]at c;have e:l[t]?=some x:=by simpa using d
  rw[List.eraseIdx_cons_succ,I!,erase_filter c.2 e];have:=c.1 x (o! e);rw[if_pos (by simp;omega)]
theorem List.KW{α:Type}{p q:α->Bool}:∀{l:List α},(∀x∈l,p x=q x)->l.findIdx? p=l.findIdx? q
 | [],_=>rfl
 |a::l,h=>by
  rw[E!,E!,h a (by simp),List.KW λx b=>h x (by simp[b])]
theorem List.TB{α:Type}{p q:α->Bool}:∀{l:List α},(∀x∈l,p x=q x)->l.find? p=l.find? q
 | [],_=>rfl
 |a::l,h=>by
  rw[L!,L!,h a (by simp),List.TB λx b=>h x (by simp[b])]
end Go.Im
namespace Go.Im.DAcc
section
variable{A:Acc}{l:List Em}
theorem len(d:DAcc A l):A.aP.length=l.length:=by rw[d.aP,d!]
theorem small(d:DAcc A l):A.Small:=by
 obtain⟨nx,md,-,-,hb⟩:=d.boxes;refine⟨by have:=d.clock;omega,by rw[hb];simp,by rw[d.len];have:=d.few;omega,by have:=d.ents;have:=d.clock;omega,λm a=>?_⟩;rw[d.aP]at a;obtain⟨e,_,rfl⟩:=e!.1 a;refine⟨?_,by rw[qY];simp⟩;unfold mkE;simp only[];split<;>simp
theorem logged(d:DAcc A l):A.Logged:=⟨d.mods⟩
theorem inn(d:DAcc A l)(e:Em):(mkE e).In A:=by
 obtain⟨nx,md,-,-,hb⟩:=d.boxes;refine⟨by rw[qY];exact OL ltI (by simp),λk x y _ b=>?_,λid a=>?_,by rw[qY];simp⟩
 ·rw[qY]at b;simp at b
 ·rw[qY]at a;simp at a;subst a;exact⟨0,by rw[hb];simp⟩
theorem find(d:DAcc A l){t:Nat}{e:Em}(k:l[t]?=some e):A.aP[t]?=some (mkE e)/\A.aP.findIdx? (λx=>decide (x.id=(mkE e).id))=some t/\A.aP.find? (λx=>decide (x.id=(mkE e).id))=some (mkE e):=by
 have m:A.aP.Pairwise λa b=>a.id.toNat<b.id.toNat:=by
  rw[d.aP,n!];exact d.ord.imp λ{a b} h=>by show((a.i:Int)+1).toNat<((b.i:Int)+1).toNat;omega
 have j:A.aP[t]?=some (mkE e):=by rw[d.aP,F!,k];rfl
 have c:∀x∈A.aP,0<x.id:=λx g=>by
  rw[d.aP]at g;obtain⟨y,_,rfl⟩:=e!.1 g;show 0<(y.i:Int)+1;omega
 have key:∀x∈A.aP,decide (x.id=(mkE e).id)=decide (x.id.toNat=(mkE e).id.toNat):=λx g=>by
  have n:=c x g;have o:=c _ (o! j);exact decide_eq_decide.2 ⟨λh=>by rw[h],λh=>by omega⟩
 have h:=YH (f:=λx:Ml=>x.id.toNat) m j (p:=λx=>decide (x.id.toNat=(mkE e).id.toNat)) (λy=>rfl);refine⟨j,?_,?_⟩
 ·rw[<-h.1];exact List.KW key
 ·rw[<-h.2];exact List.TB key
end
end Go.Im.DAcc
namespace Go.Im
def emF(i:Nat):Em:={i:=i,mark:=false,mod:=(i:Int)+2}
def aiK:Nat->List Em->List Nat
 |_,[]=> []
 |k,e::l=>if e.mark=true then oW (k+1) [iF]++aiK k l else aiK (k+1) l
theorem aBD:J9 [jR]=false:=by decide
theorem ajl(e:Em):lJ (mkE e)=e.mark:=by
 unfold lJ mkE;cases e.mark<;>simp
end Go.Im
namespace Go.Im.DAcc
section
variable{A C:Acc}{l:List Em}{t:Nat}{e:Em}
theorem fill{n:Nat}(a:n<=20):DAcc (AO n) ((g! n).map emF) where
 clock:=by show 0<=(n:Int)+1/\(n:Int)+1<90;omega
 ents:=by show(((g! n).flatMap QK).length:Int)<=3*((n:Int)+1);rw[aq7];omega
 mods:=(acQ n).mods
 boxes:=⟨(n:Int)+1,(n:Int)+1,by omega,by omega,rfl⟩
 aP:=by
  show(g! n).map mlF=((g! n).map emF).map mkE;rw[O!];rfl
 ord:=by rw[n!];exact List.pairwise_lt_range
 few:=by simpa using a
 oct:=rfl
theorem keys(d:DAcc A l)(m:l[t]?=some e)(p:e.mark=false)(q:A.clock<80):DAcc (ajq A t (mkE e) [jR]) (l.set t {e with mark:=true,mod:=A.clock+1}):=by
 have g:jL (mkE e) [jR]= []:=by
  unfold jL;have:J9 (mkE e).keys=false:=by unfold mkE;rw[p];rfl
  rw[this,aBD,if_pos rfl]
 have j:(ajq A t (mkE e) [jR]).ents=A.ents++ [(⟨A.clock+1,2,(mkE e).id,2⟩:En)]:=by
  show A.ents++((jL (mkE e) [jR]).map (jV (A.clock+1))++_)=_;rw[g];rfl
 have h:=(l!.1 m).1;refine⟨?_,?_,?_,?_,?_,?_,?_,d.oct⟩
 ·have:=d.clock;show 0<=A.clock+1/\A.clock+1<90;omega
 ·rw[j,h!];have:=d.ents;show((A.ents.length+1:Nat):Int)<=3*(A.clock+1);omega
 ·intro x c;rw[j,c!]at c;show x.mod<=A.clock+1;rcases c with c|c
  ·have:=d.mods x c;omega
  ·simp at c;rw[c];exact p! _
 ·obtain⟨nx,md,n,o,hb⟩:=d.boxes;refine⟨nx,md,n,o,?_⟩;show jK (A.clock+1) (jL (mkE e) [jR]) A.boxes=_;rw[g];exact hb
 ·show A.aP.set t {mkE e with keys:= [jR],mod:=A.clock+1}=(l.set t {e with mark:=true,mod:=A.clock+1}).map mkE;rw[d.aP,N!];rfl
 ·have hi:(l.set t {e with mark:=true,mod:=A.clock+1}).map (·.i)=l.map (·.i):=by
   rw[N!];apply List.ext_getElem?;intro k;by_cases g:t=k
   ·subst g;rw[List.getElem?_set_self (by simpa using h),F!,m];rfl
   ·rw[List.getElem?_set_ne g]
  have:=d.ord;rw[<-n! (f:=λx:Em=>x.i) (R:=λa b:Nat=>a<b)]at this⊢;rw[hi];exact this
 ·rw[List.length_set];exact d.few
theorem destroy(d:DAcc A l)(g:l[t]?=some e)(f:A.clock<89):DAcc (Jl A t (mkE e)) (l.eraseIdx t) where
 clock:=by have:=d.clock;show 0<=A.clock+1/\A.clock+1<90;omega
 ents:=by
  have:=d.ents;show((A.ents++_:List En).length:Int)<=3*(A.clock+1);rw[h!,h!,d!,d!,qY];simp only[H!,List.length_nil];omega
 mods:=λx a=>by
  have a:x∈A.ents++(((mkE e).mem.map (·.1)).map (jV (A.clock+1))++ [(⟨A.clock+1,2,(mkE e).id,3⟩:En),⟨A.clock+1,3,(mkE e).thread,FD A t (mkE e)⟩]):=a;show x.mod<=A.clock+1;rw[c!]at a;rcases a with a|a
  ·have:=d.mods x a;omega
  ·rw[c!]at a;rcases a with a|a
   ·obtain⟨id,_,rfl⟩:=e!.1 a;exact p! _
   ·simp at a;rcases a with rfl|rfl<;>exact p! _
 boxes:=by
  obtain⟨nx,md,b,c,hb⟩:=d.boxes;refine⟨nx,A.clock+1,b,c,?_⟩;show jK (A.clock+1) ((mkE e).mem.map (·.1)) A.boxes=_;rw[hb,qY];simp[jK,updB]
 aP:=by
  show A.aP.eraseIdx t=_;rw[d.aP,u!,u!,x!,List.map_take,List.map_drop]
 ord:=d.ord.sublist (List.eraseIdx_sublist _ _)
 few:=Nat.le_trans (List.length_eraseIdx_le _ _) d.few
 oct:=by
  show A.octets - ((mkE e).text.length:Int)=0;rw[d.oct];rfl
theorem good(d:DAcc A l)(e:Em):DGood A (mkE e) where
 small:=d.small
 logged:=d.logged
 inn:=d.inn e
 ents:=by have:=d.ents;have:=d.clock;omega
 clock:=by have:=d.clock;omega
 oct:=by rw[d.oct];omega
 text:=by show 0<1000000000;omega
theorem ax7:∀(c:List Em) {A:Acc} {cur:List Em},DAcc A cur->(∀x∈c,x∈cur)->(c.Pairwise λa b=>a.i<b.i)->A.clock+c.length<89->
  ∃C,Ds A (c.map mkE) C/\DAcc C (cur.filter λy=>!(c.any λx=>decide (x.i=y.i)))
 | [],A,cur,d,_,_,_=>⟨A,.nil A,by
  have:(cur.filter λy=>!(([]:List Em).any λx=>decide (x.i=y.i)))=cur:=C!.2 (by simp);rw[this];exact d⟩
 |x::rest,A,cur,d,n,g,q=>by
  simp only[H!]at q;rw[r!]at g;obtain⟨t,j⟩:=j!.1 (n x (by simp));obtain⟨f1,f2,-⟩:=d.find j;have k:=d.destroy j (by omega);have f:(Jl A t (mkE x)).clock=A.clock+1:=rfl;rw[erase_filter d.ord j]at k;obtain⟨C,p,m⟩:=ax7 rest k (λy o=>i!.2 ⟨n y (by simp[o]),by have:=g.1 y o;simp;omega⟩) g.2 (by rw[f];omega);refine⟨C,.cons f1 rfl f2 (d.good x) p,?_⟩;rw[List.filter_filter]at m;have r:(cur.filter λy=>!((x::rest).any λx=>decide (x.i=y.i)))=cur.filter λa=>(!(rest.any λx=>decide (x.i=a.i)))&&decide (a.i≠x.i):=by
   apply t!;intro y _;rw[List.any_cons];by_cases h:x.i=y.i
   ·simp[h]
   ·have h':y.i≠x.i:=λe=>h e.symm;simp[h,h']
  rw[r];exact m
theorem wn(d:DAcc A l):Wn A.aP 1=l.map λe=>((e.i:Int)+1,mkE e):=by rw[d.aP,aIB]
theorem sorted(d:DAcc A l):(Wn A.aP 1).Pairwise λx y=>x.1<y.1:=by
 rw[d.wn,n!];exact d.ord.imp λ{a b} h=>by show((a.i:Int)+1)<((b.i:Int)+1);omega
theorem chosen(d:DAcc A l):(dJ A 1).2.2=l.map keyE:=by
 show(Wn A.aP 1).map thK=_;rw[d.wn,O!];rfl
theorem aqG(d:DAcc A l)(b:e∈l)(i:Nat):yt A.aP 1 i (keyE e)= [((i:Int)+1,(e.i:Int)+1,mkE e)]:=by
 obtain⟨t,c⟩:=j!.1 b;have h:=(d.find c).2.2;have h':A.aP.find? (λm=>decide (m.id=(keyE e).2.1))=some (mkE e):=h;have a:((mkE e).mem.any λy=>decide ((1,(keyE e).1)=y))=true:=by rw[qY];simp[keyE]
 unfold yt;rw[h'];show(if((mkE e).mem.any λy=>decide ((1,(keyE e).1)=y))=true then _ else _)=_;rw[if_pos a];rfl
theorem msgs(d:DAcc A l):∀(s:List Em) (i:Nat),(∀e∈s,e∈l)->(fH A.aP 1 i (s.map keyE)).map (·.2.2)=s.map mkE
 | [],_,_=>rfl
 |e::s,i,h=>by
  rw[z!];show(yt A.aP 1 i (keyE e)++fH A.aP 1 (i+1) (s.map keyE)).map (·.2.2)=_;rw[d.aqG (h e (by simp)),x!,d.msgs s (i+1) λx a=>h x (by simp[a])];rfl
theorem same(d:DAcc A l){a b:Em}(j:a∈l)(hb:b∈l)(h:a.i=b.i):a=b:=by
 obtain⟨t,k⟩:=j!.1 j;obtain⟨u,m⟩:=j!.1 hb;have g:=(YH (f:=λe:Em=>e.i) d.ord k (p:=λy=>decide (y.i=a.i)) (λ_=>rfl)).2;have c:=(YH (f:=λe:Em=>e.i) d.ord m (p:=λy=>decide (y.i=a.i)) (λy=>by rw[h])).2;rw[g]at c;exact Option.some.inj c
theorem ai7(d:DAcc A l)(u:A.clock<60):∃C,Purges A (dJ A 1) (fH A.aP (dJ A 1).1 0 (dJ A 1).2.2) C/\DAcc C (l.filter λe=>!e.mark):=by
 have m:(l.filter λe=>e.mark).length<=l.length:=List.length_filter_le _ _;have k:=d.few;obtain⟨C,q,g⟩:=ax7 (l.filter λe=>e.mark) d (λx a=>(i!.1 a).1) (d.ord.sublist List.filter_sublist) (by omega);have s:(l.filter λy=>!((l.filter λe=>e.mark).any λx=>decide (x.i=y.i)))=l.filter λe=>!e.mark:=by
  apply t!;intro y c;congr 1;cases n:y.mark with
  |true=>exact List.any_eq_true.2 ⟨y,i!.2 ⟨c,n⟩,by simp⟩
  |false=>
   rw[List.any_eq_false];intro x a;obtain⟨j,b⟩:=i!.1 a;simp only[decide_eq_true_eq];intro e;have:=d.same j c e;rw[this]at b;rw[n]at b;cases b
 rw[s]at g;refine⟨C,⟨d.small,by rw[d.chosen,d!];omega,λx a=>a,?_,?_,g.small,?_⟩,g⟩
 ·have:=KU A.aP (dJ A 1).1 (dJ A 1).2.2 0;rw[d.chosen,d!]at this;rw[d.chosen];omega
 ·have o:((fH A.aP (dJ A 1).1 0 (dJ A 1).2.2).filter λx=>lJ x.2.2).map (·.2.2)=(l.filter λe=>e.mark).map mkE:=by
   have p:((fH A.aP (dJ A 1).1 0 (dJ A 1).2.2).map (·.2.2)).filter lJ=((fH A.aP (dJ A 1).1 0 (dJ A 1).2.2).filter λx=>lJ x.2.2).map (·.2.2):=M!;rw[<-p,d.chosen];show((fH A.aP 1 0 (l.map keyE)).map (·.2.2)).filter lJ=_;rw[d.msgs l 0 λ_ h=>h,M!];congr 1;apply t!;intro e _;exact ajl e
  rw[o];exact q
 ·intro x a;have f:x.2.2∈l.map mkE:=by
   rw[<-d.msgs l 0 λ_ h=>h];rw[d.chosen]at a;exact List.mem_map_of_mem a
  obtain⟨e,_,r⟩:=e!.1 f;rw[<-r];refine⟨?_,by rw[qY];simp,λy c=>?_⟩
  ·unfold mkE;simp only[];split<;>simp
  ·rw[qY]at c;simp at c;rw[c];rfl
theorem azN(d:DAcc A l):∃b,CanBox A 0 b/\b.id=1:=by
 obtain⟨nx,md,f,g,hb⟩:=d.boxes;refine⟨{id:=1,name:=iL,par:=0,valid:=1,next:=nx,mod:=md},⟨d.small,?_,by rw[hb];rfl,?_,d.sorted,?_,by simp,⟨f,by show nx<100;omega⟩,by have:=d.clock;omega⟩,rfl⟩
 ·rw[hb];refine⟨by simp,λb hb=>by simp at hb;rw[hb],λb hb=>by simp at hb;rw[hb];exact⟨by simp,by show ∀c∈iL,c<256;decide⟩,λk b a=>?_⟩;cases k with
  |zero=>simp at a;subst a;simp
  |succ k=>simp at a
 ·rw[hb];unfold tX;have:Yx iL=iL:=by unfold Yx;rw[if_pos rfl]
  rw[this];simp
 ·show(Wn A.aP 1).length<50;rw[d.wn,d!];have:=d.few;omega
theorem foldl_max:∀(l:List (Int×Ml)) (a:Int),a<=l.foldl (λa x=>max a x.1) a/\∀y∈l,y.1<=l.foldl (λa x=>max a x.1) a
 | [],a=>⟨p! _,λ_ h=>by cases h⟩
 |x::l,a=>by
  have h:=foldl_max l (max a x.1);rw[List.foldl_cons];refine⟨Q! (Int.le_max_left _ _) h.1,λy b=>?_⟩;rcases y!.1 b with rfl|b
  ·exact Q! (Int.le_max_right _ _) h.1
  ·exact h.2 y b
theorem azM(d:DAcc A l){p:Em->Bool}(f:DAcc C (l.filter p)):CanUpd C (dJ A 1):=by
 have n:=d.few;refine⟨f.small,by rw[d.chosen,d!];omega,f.sorted,?_,?_,?_⟩
 ·show(Wn C.aP 1).length<50;rw[f.wn,d!];have:=f.few;omega
 ·intro x o y k;rw[d.chosen]at o;obtain⟨e,q,rfl⟩:=e!.1 o;have m:=List.mem_of_find?_eq_some k;have j:=List.find?_some k;have a:y∈Wn C.aP 1:=m;rw[f.wn]at a;obtain⟨g,b,rfl⟩:=e!.1 a;obtain⟨c,-⟩:=i!.1 b;rw[Bool.and_eq_true,decide_eq_true_eq]at j;have r:(g.i:Int)+1=(e.i:Int)+1:=j.1;have:g=e:=d.same c q (by omega);rw[this];exact p! _
 ·intro y k;have h:y∈Wn C.aP 1:=k;rw[f.wn]at h;obtain⟨g,b,rfl⟩:=e!.1 h;obtain⟨c,-⟩:=i!.1 b;have:=(foldl_max (Wn A.aP 1) 0).2 ((g.i:Int)+1,mkE g) (by rw[d.wn];exact e!.2 ⟨g,c,rfl⟩);exact this
theorem anU(d:DAcc A l){p:Em->Bool}(k:DAcc C (l.filter p))(g:e∈l):((Wn C.aP 1).find? λy=>decide (y.1=(keyE e).1)&&decide (y.2.id=(keyE e).2.1)).isSome=p e:=by
 rw[k.wn];cases j:p e with
 |true=>
  rw[List.find?_isSome];exact⟨((e.i:Int)+1,mkE e),e!.2 ⟨e,i!.2 ⟨g,j⟩,rfl⟩,by simp[keyE,mkE,mlF]⟩
 |false=>
  rw[Option.isSome_eq_false_iff,Option.isNone_iff_eq_none,List.find?_eq_none];intro y m;obtain⟨f,b,rfl⟩:=e!.1 m;obtain⟨c,a⟩:=i!.1 b;rw[Bool.and_eq_true,decide_eq_true_eq];intro h;have n:(f.i:Int)+1=(e.i:Int)+1:=h.1;have:f=e:=d.same c g (by omega);rw[this]at a;rw[j]at a;cases a
theorem acO(d:DAcc A l)(a:DAcc C (l.filter λe=>!e.mark)):∀(s:List Em) (k:Nat),(∀e∈s,e∈l)->yA (Wn C.aP 1) k (s.map keyE)=aiK k s
 | [],_,_=>rfl
 |e::s,k,h=>by
  have c:=d.anU a (h e (by simp));rw[z!];show(if((Wn C.aP 1).find? λy=>decide (y.1=(keyE e).1)&&decide (y.2.id=(keyE e).2.1)).isSome=true then _ else _)=(if e.mark=true then _ else _);rw[c,d.acO a s k λx b=>h x (by simp[b]),d.acO a s (k+1) λx b=>h x (by simp[b])];cases e.mark<;>simp
theorem ayZ(d:DAcc A l)(a:DAcc C (l.filter λe=>!e.mark)):uI C (some (dJ A 1))=aiK 0 l:=by
 show yA (Wn C.aP 1) 0 (dJ A 1).2.2=_;rw[d.chosen];exact d.acO a l 0 λ_ h=>h
end
end Go.Im.DAcc
