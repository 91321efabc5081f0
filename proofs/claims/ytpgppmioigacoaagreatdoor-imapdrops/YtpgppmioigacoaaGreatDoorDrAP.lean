/- Lemmas that the claim's last text uses. No conditions. -/
import Derived.Test.YtpgppmioigacoaaGreatDoorDrAO
import Derived.Test.YtpgppmioigacoaaGreatDoorDrAN
set_option linter.all false
set_option maxRecDepth 100000
open Nat renaming reduceEqDiff→a!,ble→q!,le_refl→u!,ble_eq→w!,zero_add→y!,le_of_ble_eq_true→z!,ble_eq_true_of_le→A!,zero_le→C!
open List renaming getElem?_eq_some_iff→b!,getElem?_eq_getElem→c!,mem_of_getElem?→d!,take_length→e!,length_map→h!,findIdx?_cons→i!,length_append→l!,mem_or_eq_of_mem_set→n!,getElem?_append_left→o!,take_add_one→p!,getElem?_take→r!,getElem?_drop→t!,length_set→v!,mem_map→x!,findIdx?_append→B!,getElem?_map→D!,mem_append→F!,any→H!
open Go.Vm.Pos renaming of→g!
open Bool renaming and_eq_true→j!,not_eq_true→E!
open Go.Proofs.Tryz renaming prog→k!
open Go.Vm.V renaming int→Y,ptr→X,bool→K,str→H
open Go.IntKind renaming i64→U
open Go.Vm.Ob renaming cells→O
open Go.Vm.Wr renaming rw→N
open Go.Vm.R renaming ok→D
noncomputable section
open Go Go.Proofs Go.Vm Go.Im
namespace Go.Proofs.Im
section
variable{h h' g:Hp}{F I:Pos->Prop}{ps pl ib:Pos}{A:Acc}{cb:Cap}{fb:Bool}{vm vl:V}
theorem aK3(m:Ml)(vk vm:V)(h:Hp):bY tMl zMl 1 [(0,8,.agg (V.ofList (dB m vk vm)))] h=D (.slice h.next 0 1 (.kn 1)) (h.new (O (N tMl true) (dB m vk vm))):=(rfl)
theorem OT(a:dG h F ps A pl ib cb fb vm vl I)(M:A.Small):
  ∃r h',jO [X ps 0] h=D r h'/\gY h.next.nat jf tMl 8 h' r A.aP/\Nw h h':=by
 have L:=a.st.ld (q:=11) (x:=vm) rfl;have R:=a.ml.rws;have hn:=M.aP;rw[aoY];show aX k! _ (λr h'=>gY h.next.nat jf tMl 8 h' r A.aP/\Nw h h') _;simp only[vvB,a!,reduceCtorEq,↓reduceIte,ZA,ade,adb,ada,ac9,aef,eG,L,R.len];refine Oc.then (dS (σ:=V) (n:=A.aP.length) (pi:=13) (pn:=12) (pc:=14) [3,11] (λv=> [v,vm]) (λk v g=>Nw h g/\gY h.next.nat jf tMl 8 g v (A.aP.take k))
  (A:=λfr g=>∃v,fr.get (g! 3)=some v/\Nw h g/\gY h.next.nat jf tMl 8 g v A.aP) (B:=λfr g=>False) (s:=.aQ)
  (λfr h _ k e1 e2=>by simp only[vvB,a!,reduceCtorEq,↓reduceIte,ac8,e1,e2]) (λfr h k _ e1=>by simp(disch:=omega)only[vvB,a!,reduceCtorEq,↓reduceIte,ac5,e1]) (by decide) (by rw[dW];omega) (qK0) (qK0) (by simp only[Fa,vvB,a!,reduceCtorEq,↓reduceIte,and_self]) ⟨Nw.refl _,gY.nil _ _ _ _ _⟩ ?_ ?_) ?_ ?_
 ·intro k v fr g hk l y z C;obtain⟨f3,d,-⟩:=z;obtain⟨c,o⟩:=C;obtain⟨m,E⟩:∃m,A.aP[k]?=some m:=⟨_,c! hk⟩
  obtain⟨i,q,cs,e1,⟨vk,vs,rfl,rk,rs⟩,-,-,-,-,S⟩:=(R.nw dw c).elt E;have w:=S g rfl;have p:=M.each m (d! E);obtain⟨f,b⟩:∃f,f=g.new (O (N tMl true) (dB m vk vs)):=⟨_,rfl⟩
  have P:aT 8 (X g.next 0) (.agg (V.ofList (dB m vk vs))) (g.new (O (N tMl true) zMl))=D V.undef f:=by rw[b];exact iT (V.dO _) rfl rfl
  have t:Nw g f:=by rw[b];exact Nw.new _ _
  have k2:Kn f g.next (O (N tMl true) (dB m vk vs)):=by rw[b];exact Kn.new _ _
  have n2:f.next.nat=g.next.nat+1:=by rw[b,bD]
  obtain⟨g3,G,J,W,u,x3⟩:=azG (show jf _ f m (dB m vk vs) from⟨vk,vs,rfl,rk.nw (aK _) t,rs.nw (aK _) t⟩) p.1 p.2;have o3:=o.nw dw (t.trans u);have aa:=c.next;have ab:=u.next;obtain⟨v',g4,Z,o5,Q,n5,-⟩:=o3.app (bt:=104) dw (by omega) (cs:=dB m G J) rfl x3 (λj _ q=>⟨by omega,λe=>by have:=(o.eu e).2;omega⟩) (by rw[List.length_take];omega);simp only[vvB,a!,reduceCtorEq,↓reduceIte,ac7,ac6,f3,d,l,e1,w,P,k2.ldN (n:=8) rfl,W,aK3,Z];refine⟨qK2 l,qK2 y,v',by simp only[Fa,vvB,a!,reduceCtorEq,↓reduceIte,d,and_self],?_,?_⟩
  ·exact((c.trans t).trans u).own Q λj e=>(o.eu e).1
  ·rw[take_snoc E];exact o5
 ·intro v fr g z C;obtain⟨f3,d,-⟩:=z;obtain⟨c,o⟩:=C;rw[e!]at o;exact⟨v,f3,c,o⟩
 ·rintro fr g ⟨v,f3,c,o⟩;simp only[vvB,a!,reduceCtorEq,↓reduceIte,ac4,f3];exact aX.ret (r:=v) (qT0) ⟨o,c⟩
 ·intro fr g q;exact q.elim
theorem afv{P:Pos->Prop}{m:Ml}{vk vs:V}(e:jf P h m (dB m vk vs))(hm:m.mem.length<=1000):
  ∃r h',xW [.agg (V.ofList (dB m vk vs))] h=D r h'/\gY h.next.nat (flat gV) iW 1 h' r (m.mem.map (·.1))/\Nw h h':=by
 obtain⟨G,J,d,-,rm⟩:=e;obtain⟨rfl,rfl⟩:vk=G/\vs=J:=by unfold dB at d;injection d with _ d;injection d with _ d;injection d with _ d;injection d with _ d;injection d with a d;injection d with b d;exact⟨a,b⟩
 obtain⟨p,E,t,k1⟩:=mkW h (O (N tMl true) (dB m vk vs));have L:=k1.ld (q:=5) (x:=vs) rfl;have n1:=t.next;have R:=rm.nw (aK _) t;rw[am5];show aX k! _ (λr h'=>gY h.next.nat (flat gV) iW 1 h' r (m.mem.map (·.1))/\Nw h h') _;simp only[vvB,a!,reduceCtorEq,↓reduceIte,U2,aaE,aaD,aaC,abJ,V.dD,<-E,L,R.len];refine Oc.then (dS (σ:=V) (n:=m.mem.length) (pi:=9) (pn:=8) (pc:=10) [3,7] (λv=> [v,vs]) (λk v g=>Nw p g/\gY p.next.nat (flat gV) iW 1 g v ((m.mem.map (·.1)).take k))
  (A:=λfr g=>∃v,fr.get (g! 3)=some v/\Nw p g/\gY p.next.nat (flat gV) iW 1 g v (m.mem.map (·.1))) (B:=λfr g=>False) (s:=.aQ)
  (λfr h _ k e1 e2=>by simp only[vvB,a!,reduceCtorEq,↓reduceIte,aaB,e1,e2]) (λfr h k _ e1=>by simp(disch:=omega)only[vvB,a!,reduceCtorEq,↓reduceIte,aay,e1]) (by decide) (by rw[dW];omega) (qK0) (qK0) (by simp only[Fa,vvB,a!,reduceCtorEq,↓reduceIte,and_self]) ⟨Nw.refl _,gY.nil _ _ _ _ _⟩ ?_ ?_) ?_ ?_
 ·intro k v fr g hk Q f8 z C;obtain⟨f3,M,-⟩:=z;obtain⟨c,o⟩:=C;obtain⟨x,S⟩:∃x,m.mem[k]?=some x:=⟨_,c! hk⟩
  obtain⟨i,q,cs,e1,e2,-,-,-,-,e3⟩:=(R.nw (aK _) c).elt S;obtain rfl:cs=fD x:=e2;have w:=e3 g rfl;obtain⟨f,l⟩:∃f,f=g.new (O (N tMb true) (fD x)):=⟨_,rfl⟩
  have Z:aT 2 (X g.next 0) (.agg (V.ofList (fD x))) (g.new (O (N tMb true) [(Y U 0),(Y U 0)]))=D V.undef f:=by rw[l];exact iT (V.dO _) rfl rfl
  have u:Nw g f:=by rw[l];exact Nw.new _ _
  have k2:Kn f g.next (O (N tMb true) (fD x)):=by rw[l];exact Kn.new _ _
  have ab:=c.next;have ac:=u.next;obtain⟨W,g4,y,o5,c5,n5,-⟩:=(o.nw (aK _) u).app (bt:=8) (x:=x.1) (cs:=gV x.1) (P0:=λ_=>False) (aK _) (by omega) rfl rfl (λj _ q=>q.elim) (by simp;omega);have y:cZ iW 1 8 v (.slice f.next 0 1 (.kn 1)) (f.new (O (N iW true) [iV x.1]))=D W g4:=y;simp only[vvB,a!,reduceCtorEq,↓reduceIte,aaA,aaz,f3,M,Q,e1,w,Z,k2.ld (q:=0) (x:=iV x.1) rfl,qX,y];refine⟨qK2 Q,qK2 f8,W,by simp only[Fa,vvB,a!,reduceCtorEq,↓reduceIte,M,and_self],?_,?_⟩
  ·exact(c.trans u).own c5 λj e=>(o.eu e).1
  ·rw[take_snoc (show(m.mem.map (·.1))[k]?=some x.1 by rw[D!,S];rfl)];exact o5
 ·intro v fr g z C;obtain⟨f3,aa,-⟩:=z;obtain⟨c,o⟩:=C;rw[List.take_of_length_le (by simp)]at o;exact⟨v,f3,c,o⟩
 ·rintro fr g ⟨v,f3,c,o⟩;simp only[vvB,a!,reduceCtorEq,↓reduceIte,aax,f3];exact aX.ret (r:=v) (qT0) ⟨o.lower (by omega),t.trans c⟩
 ·intro fr g q;exact q.elim
end
section
variable{h h' g:Hp}{P:Pos->Prop}{pl p:Pos}{A:Acc}{vl:V}
abbrev zEn:List V:= [(Y U 0),(Y U 0),(Y U 0),(Y U 0)]
theorem aLb(x:En):eH tEn zEn 1 [(0,4,.agg (V.ofList (gu x)))]=some (O (N tEn true) (gu x),λp=>.slice p 0 1 (.kn 1)):=(rfl)
theorem arY{v:V}{f c:Int}{ents es:List En}(lg:Kn h pl (O (N tLg true) [iV 10000,vl,iV f]))(o:dH 0 (λ_=>False) (flat gu) tEn 4 h vl ents)(r:Rws P (flat gu) 4 h v es)
  (ag:∀j,bH vl=some j->j≠pl) (hP:∀j:Pos,j.nat<h.next.nat->P j->j≠pl/\bH vl≠some j) (hc:∀e∈es,e.mod=c) (hl:∀e∈ents,e.mod<=c) (hn:ents.length+es.length<=10000):
  ∃u h' a,Eb [X pl 0,v] h=D u h'/\Kn h' pl (O (N tLg true) [iV 10000,a,iV f])/\dH 0 (λ_=>False) (flat gu) tEn 4 h' a (ents++es)/\Ch (λj=>j=pl\/bH vl=some j) h h'/\
   (∀j,bH a=some j->bH vl=some j\/h.next.nat<=j.nat):=by
 rw[auz]
 suffices T:aX k! [] (λu h'=>∃a,Kn h' pl (O (N tLg true) [iV 10000,a,iV f])/\dH 0 (λ_=>False) (flat gu) tEn 4 h' a (ents++es)/\Ch (λj=>j=pl\/bH vl=some j) h h'/\(∀j,bH a=some j->bH vl=some j\/h.next.nat<=j.nat))
   (ZH (T.set (some v) (g! 1) (T.set (some (X pl 0)) (g! 0) T.nil)) h) by
  obtain⟨u,h',e,a,q⟩:=T;exact⟨u,h',a,e,q⟩
 simp only[vvB,a!,reduceCtorEq,↓reduceIte,ZH,ak1,ak0,alo,eG,r.len];have aj:=lg.2;refine Oc.then (dS (σ:=V) (n:=es.length) (pi:=12) (pn:=11) (pc:=13) [0,10] (λ_=> [X pl 0,v])
  (λk w g=>Kn g pl (O (N tLg true) [iV 10000,w,iV f])/\dH 0 (λ_=>False) (flat gu) tEn 4 g w (ents++es.take k)/\Ch (λj=>j=pl\/bH vl=some j) h g/\(∀j,bH w=some j->(bH vl=some j\/h.next.nat<=j.nat)/\j≠pl))
  (A:=λfr g=>fr.get (g! 0)=some (X pl 0)/\∃w,Kn g pl (O (N tLg true) [iV 10000,w,iV f])/\dH 0 (λ_=>False) (flat gu) tEn 4 g w (ents++es)/\Ch (λj=>j=pl\/bH vl=some j) h g/\(∀j,bH w=some j->bH vl=some j\/h.next.nat<=j.nat)) (B:=λ_ _=>False) (s:=vl)
  (λfr h _ k e1 e2=>by simp only[vvB,a!,reduceCtorEq,↓reduceIte,akZ,e1,e2]) (λfr h k _ e1=>by simp(disch:=omega)only[vvB,a!,reduceCtorEq,↓reduceIte,akY,e1]) (by decide) (by rw[dW];omega) (qK0) (qK0) (by simp only[Fa,vvB,a!,reduceCtorEq,↓reduceIte,and_self])
  ⟨lg,by simpa using o,Ch.refl _ _,λj q=>⟨.inl q,ag j q⟩⟩ ?_ ?_) ?_ ?_
 ·intro k w fr g hk t af fa hI;obtain⟨f0,d,-⟩:=fa;obtain⟨G,J,m,L⟩:=hI;obtain⟨x,hx⟩:∃x,es[k]?=some x:=⟨_,c! hk⟩
  have ak:=hc x (d! hx);obtain⟨i,q,cs,e1,e2,-,-,-,-,e3⟩:=(r.ch (P':=P) (aK _) m λj W pj=>⟨pj,λe=>e.elim (hP j W pj).1 (hP j W pj).2⟩).elt hx;obtain rfl:cs=gu x:=e2;have Q:=e3 g rfl;obtain⟨l,C⟩:∃l,l=g.new (O (N tEn true) (gu x)):=⟨_,rfl⟩
  have S2:aT 4 (X g.next 0) (.agg (V.ofList (gu x))) (g.new (O (N tEn true) zEn))=D V.undef l:=by rw[C];exact iT (V.dO _) rfl rfl
  have c2:Nw g l:=by rw[C];exact Nw.new _ _
  have k2:Kn l g.next (O (N tEn true) (gu x)):=by rw[C];exact Kn.new _ _
  have I:=G.nw c2;have L2:=I.ld (q:=1) (x:=w) rfl;have M2:=k2.ld (q:=0) (x:=iV x.mod) rfl;have o2:=J.nw (aK _) c2;have b:(ents++es.take k).length=ents.length+k:=by simp;omega
  have M:=o2.len l;rw[b]at M;obtain⟨w',g3,e5,o5,c5,n5,Z⟩:=o2.aCu (bt:=32) (x:=x) (C! _) rfl (by rw[b];omega);have k5:=I.ch c5 λe=>(L pl e).2 rfl;obtain⟨S,E⟩:∃S,S=g3.put pl (some (O (N tLg true) [iV 10000,w',iV f])):=⟨_,rfl⟩
  have S4:aT 1 (X pl 1) w' g3=D V.undef S:=by rw[E];exact k5.st (q:=1) o5.cell (show 1<3 by omega)
  have k4:Kn S pl (O (N tLg true) [iV 10000,w',iV f]):=by rw[E];exact k5.put _
  have c4:Ch (λj=>j=pl) g3 S:=by rw[E];exact Ch.put _ _ rfl
  have ai:=m.next;have n2:=c2.next;have aa:=(I.bump 1).ld (q:=1) (x:=w) rfl;have ab:=(k2.bump 1).ldN (n:=4) rfl;have fin:Rd [0,10] (λ(_:V)=> [X pl 0,v]) 12 11 k es.length (λw g=>Kn g pl (O (N tLg true) [iV 10000,w,iV f])/\dH 0 (λ_=>False) (flat gu) tEn 4 g w (ents++es.take (k+1))/\Ch (λj=>j=pl\/bH vl=some j) h g/\(∀j,bH w=some j->(bH vl=some j\/h.next.nat<=j.nat)/\j≠pl))
    (λfr g=>fr.get (g! 0)=some (X pl 0)/\∃w,Kn g pl (O (N tLg true) [iV 10000,w,iV f])/\dH 0 (λ_=>False) (flat gu) tEn 4 g w (ents++es)/\Ch (λj=>j=pl\/bH vl=some j) h g/\(∀j,bH w=some j->bH vl=some j\/h.next.nat<=j.nat)) (λ_ _=>False) 0
    (BK 1 (Y5 (T.set (some (K false)) (g! 36) (T.set (some (Y U ((ents.length+k:Nat):Int))) (g! 6) (T.set (some (X g.next 0)) (g! 5) fr))) l)):=by
   simp only[vvB,a!,reduceCtorEq,↓reduceIte,Y5,f0,aa,ab,aLb,e5,S4];refine⟨qK2 t,qK2 af,w',by simp only[Fa,vvB,a!,reduceCtorEq,↓reduceIte,f0,d,and_self],k4,?_,?_,?_⟩
   ·rw[take_snoc hx,<-List.append_assoc];exact o5.ch (aK _) c4 (λj W e=>by have:=Z j W;rw[e]at this;omega) λ_ _ q=>q.elim
   ·exact((m.nw c2).trans c5 λj W e=>by have:=(L j e).1;rcases this with q|q;exact .inr q;omega).trans c4 λj _ e=>.inl e
   ·intro j e;have:=Z j e;exact⟨.inr (by omega),λe'=>by rw[e']at this;omega⟩
  by_cases hz:ents.length+k=0
  ·simp(disch:=omega)only[vvB,a!,reduceCtorEq,↓reduceIte,Y8,Y7,Y6,f0,d,t,e1,Q,S2,L2,M];exact fin
  ·obtain⟨y,hy⟩:∃y,(ents++es.take k)[ents.length+k - 1]?=some y:=⟨_,c! (by rw[b];omega)⟩
   have al:y.mod<=c:=by
    rcases F!.1 (d! hy) with q|q
    ·exact hl y q
    ·rw[hc y (List.mem_of_mem_take q)];omega
   obtain⟨i',q',ac,ad,ae,-,-,-,ah,-⟩:=o2.aHZ.elt hy;obtain rfl:ac=gu y:=ae;have l3:=ah l rfl 0 (iV y.mod) rfl;have hd:decide (x.mod<y.mod)=false:=decide_eq_false (by omega);have z:((ents.length+k:Nat):Int) - 1=((ents.length+k - 1:Nat):Int):=by omega
   simp(disch:=omega)only[vvB,a!,reduceCtorEq,↓reduceIte,Y8,Y7,Y6,f0,d,t,e1,Q,S2,L2,M2,M,z,ad,l3,hd];exact fin
 ·intro w fr g fa hI;obtain⟨f0,d,-⟩:=fa;obtain⟨G,J,m,L⟩:=hI;rw[e!]at J;exact⟨f0,w,G,J,m,λj e=>(L j e).1⟩
 ·rintro fr g ⟨f0,w,G,J,m,L⟩;have L1:=G.ld (q:=1) (x:=w) rfl;have L0:=G.ld (q:=0) (x:=iV 10000) rfl;have M:=J.len g;rw[l!]at M;simp(disch:=omega)only[vvB,a!,reduceCtorEq,↓reduceIte,akX,akW,f0,L1,L0,M];exact⟨_,g,rfl,w,G,J,m,L⟩
 ·intro fr g q;exact q.elim
end
end Go.Proofs.Im
namespace Go.Vm
theorem aKs{h:Hp}(x y:Int×Int):aeG .eql [((.int U),0),((.int U),1)] (.agg (V.ofList (Go.Im.fD x))) (.agg (V.ofList (Go.Im.fD y))) h=D (K (decide (x=y))) h:=by
 refine(QD _ _ _ _).trans ?_;congr 2;obtain⟨a,b⟩:=x;obtain⟨c,d⟩:=y;simp[Prod.ext_iff]
end Go.Vm
namespace Go.Proofs.Im
section
variable{h h' g:Hp}{P:Pos->Prop}{A:Acc}{v:V}
theorem amL{P:Pos->Prop}{h:Hp}{v:V}{l:List (List Nat)}(r:Rws P (flat ji) 1 h v l)(x:(List Nat))(J:l.length<=1000000000):
  ∃h',wV [v,H x] h=D (Y U (gK (l.findIdx? λa=>decide (x=a)))) h'/\Nw h h':=by
 rw[abT]
 suffices T:aX k! [.tmp 4] (λr h'=>r=Y U (gK (l.findIdx? λa=>decide (x=a)))/\Nw h h') (wO (T.set (some (H x)) (g! 1) (T.set (some v) (g! 0) T.nil)) h) by
  obtain⟨r,h',e,rfl,c⟩:=T;exact⟨h',e,c⟩
 obtain⟨d,f⟩:∃d,d=h:=⟨_,rfl⟩
 have m:Nw h d:=by rw[f];exact Nw.refl _
 subst f;simp(disch:=omega)only[vvB,a!,reduceCtorEq,↓reduceIte,wO,Lr,Lm,r.len,MI,y!];refine Oc.then (dS (σ:=Unit) (n:=l.length) (pi:=8) (pn:=7) (pc:=9) [0,1] (λ_=> [v,H x]) (λk _ g=>g=d/\(l.take k).findIdx? (λa=>decide (x=a))=none)
  (A:=λfr g=>g=d/\l.findIdx? (λa=>decide (x=a))=none) (B:=λfr g=>fr.get (g! 4)=some (Y U (gK (l.findIdx? λa=>decide (x=a))))/\g=d) (s:=())
  (λfr h _ k e1 e2=>by simp only[vvB,a!,reduceCtorEq,↓reduceIte,Ll,e1,e2]) (λfr h k _ e1=>by simp(disch:=omega)only[vvB,a!,reduceCtorEq,↓reduceIte,Lc,e1]) (by decide) (by rw[dW];omega) (qK0) (qK0) (by simp only[Fa,vvB,a!,reduceCtorEq,↓reduceIte,and_self]) ⟨rfl,by simp⟩ ?_ ?_) ?_ ?_
 ·intro k _ fr g E o C u p;obtain⟨f0,f1,-⟩:=u;obtain⟨rfl,b⟩:=p;obtain⟨y,t⟩:∃y,l[k]?=some y:=⟨_,c! E⟩
  obtain⟨i,q,cs,e1,ex,I,hi,-,e2,G⟩:=(r.nw (aK _) m).elt t;obtain rfl:cs=ji y:=ex;have w:aF (X i q) g=D (H y) g:=e2 g rfl 0 _ rfl;simp(disch:=omega)only[vvB,a!,reduceCtorEq,↓reduceIte,Lh,Le,f0,f1,o,e1,w,y!];by_cases j:x=y
  ·simp only[vvB,a!,reduceCtorEq,↓reduceIte,j,Ld,o,decide_true];refine⟨?_,rfl⟩;simp only[vvB,a!,reduceCtorEq,↓reduceIte];rw[o8 t (by rw[<-j];exact b) (by simp)];rfl
  ·simp only[vvB,a!,reduceCtorEq,↓reduceIte,j,decide_false];refine⟨qK2 o,qK2 C,(),by simp only[Fa,vvB,a!,reduceCtorEq,↓reduceIte,f0,f1,and_self],rfl,?_⟩;rw[p!,t];simp[B!,b,j]
 ·intro _ fr g u p;obtain⟨rfl,b⟩:=p;rw[e!]at b;exact⟨rfl,b⟩
 ·rintro fr g ⟨rfl,b⟩;simp only[vvB,a!,reduceCtorEq,↓reduceIte,La];exact aX.ret (qT0) ⟨by rw[b];rfl,m⟩
 ·rintro fr g ⟨z,rfl⟩;exact aX.ret (qT1 z) ⟨rfl,m⟩
theorem amM{P:Pos->Prop}{h:Hp}{v:V}{l:List (Int×Int)}(r:Rws P (flat fD) 2 h v l)(x:(Int×Int))(M:l.length<=1000000000):
  ∃h',wW [v,.agg (V.ofList (fD x))] h=D (Y U (gK (l.findIdx? λa=>decide (x=a)))) h'/\Nw h h':=by
 rw[abU]
 suffices T:aX k! [.tmp 4] (λr h'=>r=Y U (gK (l.findIdx? λa=>decide (x=a)))/\Nw h h') (wP (T.set (some (V.agg (V.ofList (fD x)))) (g! 1) (T.set (some v) (g! 0) T.nil)) h) by
  obtain⟨r,h',e,rfl,c⟩:=T;exact⟨h',e,c⟩
 obtain⟨m,p,f,J⟩:=mkW h (O (N tMb true) (fD x));have w:=J.ldN (n:=2) rfl;simp(disch:=omega)only[vvB,a!,reduceCtorEq,↓reduceIte,wP,LK,LJ,r.len,MJ,V.dD,<-p];refine Oc.then (dS (σ:=Unit) (n:=l.length) (pi:=8) (pn:=7) (pc:=9) [0,3] (λ_=> [v,X h.next 0]) (λk _ g=>g=m/\(l.take k).findIdx? (λa=>decide (x=a))=none)
  (A:=λfr g=>g=m/\l.findIdx? (λa=>decide (x=a))=none) (B:=λfr g=>fr.get (g! 4)=some (Y U (gK (l.findIdx? λa=>decide (x=a))))/\g=m) (s:=())
  (λfr h _ k e1 e2=>by simp only[vvB,a!,reduceCtorEq,↓reduceIte,LH,e1,e2]) (λfr h k _ e1=>by simp(disch:=omega)only[vvB,a!,reduceCtorEq,↓reduceIte,Lu,e1]) (by decide) (by rw[dW];omega) (qK0) (qK0) (by simp only[Fa,vvB,a!,reduceCtorEq,↓reduceIte,and_self]) ⟨rfl,by simp⟩ ?_ ?_) ?_ ?_
 ·intro k _ fr g I j G u o;obtain⟨f0,f1,-⟩:=u;obtain⟨rfl,b⟩:=o;obtain⟨y,t⟩:∃y,l[k]?=some y:=⟨_,c! I⟩
  obtain⟨i,q,cs,e1,ex,L,hi,-,e2,z⟩:=(r.nw (aK _) f).elt t;obtain rfl:cs=fD y:=ex;have C:=z g rfl;simp(disch:=omega)only[vvB,a!,reduceCtorEq,↓reduceIte,LG,LD,f0,f1,j,e1,C,w,aKs];by_cases d:x=y
  ·simp only[vvB,a!,reduceCtorEq,↓reduceIte,d,LC,j,decide_true];refine⟨?_,rfl⟩;simp only[vvB,a!,reduceCtorEq,↓reduceIte];rw[o8 t (by rw[<-d];exact b) (by simp)];rfl
  ·simp only[vvB,a!,reduceCtorEq,↓reduceIte,d,decide_false];refine⟨qK2 j,qK2 G,(),by simp only[Fa,vvB,a!,reduceCtorEq,↓reduceIte,f0,f1,and_self],rfl,?_⟩;rw[p!,t];simp[B!,b,d]
 ·intro _ fr g u o;obtain⟨rfl,b⟩:=o;rw[e!]at b;exact⟨rfl,b⟩
 ·rintro fr g ⟨rfl,b⟩;simp only[vvB,a!,reduceCtorEq,↓reduceIte,Ls];exact aX.ret (qT0) ⟨by rw[b];rfl,f⟩
 ·rintro fr g ⟨E,rfl⟩;exact aX.ret (qT1 E) ⟨rfl,f⟩
theorem CP{l:List (List Nat)}(r:Rws P (flat ji) 1 h v l)(x:List Nat)(d:l.length<=1000000000):∃h',jZ [v,H x] h=D (K (l.any λa=>decide (x=a))) h'/\Nw h h':=by
 obtain⟨c,e1,b⟩:=amL r x d;rw[VI];simp(disch:=omega)only[vvB,a!,reduceCtorEq,↓reduceIte,yc,ES,ER,e1];exact⟨c,by simp only[aU,bW,vvB,a!,reduceCtorEq,↓reduceIte,bZ];rw[DU],b⟩
theorem afi{l:List (Int×Int)}(r:Rws P (flat fD) 2 h v l)(x:Int×Int)(f:l.length<=1000000000):∃h',ku [v,.agg (V.ofList (fD x))] h=D (K (l.any λa=>decide (x=a))) h'/\Nw h h':=by
 obtain⟨h0,b,c,i⟩:=mkW h (O (N tMb true) (fD x));obtain⟨e,e1,d⟩:=amM (r.nw (aK _) c) x f;rw[VJ];simp(disch:=omega)only[vvB,a!,reduceCtorEq,↓reduceIte,yg,EU,ET,V.dD,<-b,i.ldN (n:=2) rfl,e1];exact⟨e,by simp only[aU,bW,vvB,a!,reduceCtorEq,↓reduceIte,bZ];rw[DU],c.trans d⟩
theorem anj{P':Pos->Prop}{w:V}{l m:List (List Nat)}(r:Rws P (flat ji) 1 h v l)(s:Rws P' (flat ji) 1 h w m)(Q:l.length<=1000000000):wX [v,w] h=D (K (decide (l=m))) h:=by
 rw[abV]
 suffices T:aX k! [.tmp 4] (λr h'=>r=K (decide (l=m))/\h'=h) (qp (T.set (some w) (g! 1) (T.set (some v) (g! 0) T.nil)) h) by
  obtain⟨r,h',e,rfl,rfl⟩:=T;exact e
 by_cases a:l.length=m.length
 ·have d:¬((l.length:Int)≠(m.length:Int)):=by omega
  simp(disch:=omega)only[vvB,a!,reduceCtorEq,↓reduceIte,qp,zO,zN,LY,r.len,s.len,MK,a];refine Oc.then (dS (σ:=Unit) (n:=m.length) (pi:=13) (pn:=12) (pc:=14) [0,1] (λ_=> [v,w]) (λk _ g=>g=h/\l.take k=m.take k)
   (A:=λfr g=>g=h/\l=m) (B:=λfr g=>fr.get (g! 4)=some (K (decide (l=m)))/\g=h) (s:=())
   (λfr h _ k e1 e2=>by simp only[vvB,a!,reduceCtorEq,↓reduceIte,LX,e1,e2]) (λfr h k _ e1=>by simp(disch:=omega)only[vvB,a!,reduceCtorEq,↓reduceIte,LQ,e1]) (by decide) (by rw[dW];omega) (qK0) (qK0) (by simp only[Fa,vvB,a!,reduceCtorEq,↓reduceIte,and_self]) ⟨rfl,by simp⟩ ?_ ?_) ?_ ?_
  ·intro k _ fr g L c u C b;obtain⟨f0,f1,-⟩:=C;obtain⟨rfl,b⟩:=b;obtain⟨x,j⟩:∃x,l[k]?=some x:=⟨_,c! (by omega)⟩
   obtain⟨y,z⟩:∃y,m[k]?=some y:=⟨_,c! L⟩
   obtain⟨i,q,cs,e1,ex,-,-,-,e2,-⟩:=r.elt j;obtain rfl:cs=ji x:=ex;obtain⟨i',M,o,p,I,-,-,-,t,-⟩:=s.elt z;obtain rfl:o=ji y:=I;have E:aF (X i q) g=D (H x) g:=e2 g rfl 0 _ rfl;have G:aF (X i' M) g=D (H y) g:=t g rfl 0 _ rfl;simp(disch:=omega)only[vvB,a!,reduceCtorEq,↓reduceIte,LW,LV,f0,f1,c,e1,p,E,G];by_cases f:x=y
   ·have S:¬(x≠y):=λq=>q f;simp only[vvB,a!,reduceCtorEq,↓reduceIte,f];refine⟨qK2 c,qK2 u,(),by simp only[Fa,vvB,a!,reduceCtorEq,↓reduceIte,f0,f1,and_self],rfl,?_⟩;rw[p!,p!,j,z,b,f]
   ·simp only[vvB,a!,reduceCtorEq,↓reduceIte,f,LU];refine⟨?_,rfl⟩;simp only[vvB,a!,reduceCtorEq,↓reduceIte];rw[decide_eq_false];intro e;rw[e,z]at j;exact f (Option.some.inj j).symm
  ·intro _ fr g C b;obtain⟨rfl,b⟩:=b;rw[e!,<-a,e!]at b;exact⟨rfl,b⟩
  ·rintro fr g ⟨rfl,b⟩;simp only[vvB,a!,reduceCtorEq,↓reduceIte,LP];exact aX.ret (qT0) ⟨by rw[decide_eq_true b],rfl⟩
  ·rintro fr g ⟨J,rfl⟩;exact aX.ret (qT1 J) ⟨rfl,rfl⟩
 ·have d:((l.length:Int)=(m.length:Int))=False:=eq_false (by omega);simp(disch:=omega)only[vvB,a!,reduceCtorEq,↓reduceIte,qp,zO,zN,LZ,r.len,s.len,d];exact aX.ret (qT0) ⟨by rw[decide_eq_false λe=>a (by rw[e])],rfl⟩
end
end Go.Proofs.Im
namespace Go.Vm
def FN(c:Nat):Bool:=q! 33 c&&q! c 126&&!decide (DW c [40,41,123,125,37,42,34,92,93]>=0)
def TG(s:List Nat):Bool:=s.all FN&&!decide (s= [])
def ai3(s:List Nat):Bool:=TG s&&q! s.length 64&&decide (foldM s=s)
end Go.Vm
namespace Go.Proofs.Im
section
variable{h h' g:Hp}{P:Pos->Prop}{A:Acc}{v:V}
theorem Ws{s:List Nat}{c:Nat}(a:c<256):Bc [H s,Y .u8 (c:Int)] h=D (Y U (DW c s)) h:=by
 have e:wZ [H s,Y .u8 (c:Int)] h=D (Y U (DW c s)) h:=by
  show(match Nat.blt c 256 with|true=>iy U (DW c s) h|false=>.bad)=_;rw[show Nat.blt c 256=true by rw[Nat.blt_eq];exact a];exact fU _ _ _
 rw[aff];have e2:Ba [H s,Y .u8 (c:Int)] h=D (Y U (DW c s)) h:=by
  rw[afe];simp only[vvB,a!,reduceCtorEq,↓reduceIte,JU,QW,QV,e];simp only[aU,bW,vvB,a!,reduceCtorEq,↓reduceIte,bZ]
 simp only[vvB,a!,reduceCtorEq,↓reduceIte,JV,Rj,Rh,e2];simp only[aU,bW,vvB,a!,reduceCtorEq,↓reduceIte,bZ]
theorem acY{s:List Nat}(hl:s.length<1000000000)(u:∀c∈s,c<256):vM [H s] h=D (K (TG s)) h:=by
 rw[asY]
 suffices T:aX k! [.tmp 2] (λr h'=>r=K (TG s)/\h'=h) (Ud (T.set (some (H s)) (g! 0) T.nil) h) by
  obtain⟨r,h',e,rfl,rfl⟩:=T;exact e
 simp(disch:=omega)only[vvB,a!,reduceCtorEq,↓reduceIte,Ud,afQ,afP,ahc];refine Oc.then (dS (σ:=Unit) (n:=s.length) (pi:=6) (pn:=5) (pc:=7) [0] (λ_=> [H s]) (λk _ g=>g=h/\(s.take k).all FN=true)
  (A:=λfr g=>fr.get (g! 0)=some (H s)/\g=h/\s.all FN=true) (B:=λfr g=>fr.get (g! 2)=some (K (TG s))/\g=h) (s:=())
  (λfr h _ k e1 e2=>by simp only[vvB,a!,reduceCtorEq,↓reduceIte,afO,e1,e2]) (λfr h k _ e1=>by simp(disch:=omega)only[vvB,a!,reduceCtorEq,↓reduceIte,afN,e1]) (by decide) (by rw[dW];omega) (qK0) (qK0) (by simp only[Fa,vvB,a!,reduceCtorEq,↓reduceIte,and_self]) ⟨rfl,by simp⟩ ?_ ?_) ?_ ?_
 ·intro k _ fr g t d q m b;obtain⟨f0,-⟩:=m;obtain⟨rfl,b⟩:=b;obtain⟨c,j⟩:∃c,s[k]?=some c:=⟨_,c! t⟩
  have a:=u c (d! j);have ex:mX (H s) (Y U (k:Int)) g=D (Y .u8 (c:Int)) g:=Yt j;have bad:FN c=false->fr.get (g! 6)=fr.get (g! 6)->TG s=false:=λe _=>by
   unfold TG;rw[show s.all FN=false from ?_];rfl;rw[List.all_eq_false];exact⟨c,d! j,by rw[e];simp⟩
  by_cases x:c<33
  ·have f:((c:Int)<33)=True:=eq_true (by omega);simp(disch:=omega)only[vvB,a!,reduceCtorEq,↓reduceIte,CY,CX,Ku,f0,d,ex,f];exact⟨by simp only[vvB,a!,reduceCtorEq,↓reduceIte];rw[bad (by unfold FN;rw[show q! 33 c=false by rw[<-E!,w!];omega];rfl) rfl],rfl⟩
  ·have f:((c:Int)<33)=False:=eq_false (by omega);by_cases y:126<c
   ·have l:((c:Int)>126)=True:=eq_true (by omega);simp(disch:=omega)only[vvB,a!,reduceCtorEq,↓reduceIte,CY,CX,Ku,f0,d,ex,f,l];exact⟨by simp only[vvB,a!,reduceCtorEq,↓reduceIte];rw[bad (by unfold FN;rw[show q! c 126=false by rw[<-E!,w!];omega];simp) rfl],rfl⟩
   ·have l:((c:Int)>126)=False:=eq_false (by omega);have p:FN c=!decide (DW c [40,41,123,125,37,42,34,92,93]>=0):=by
     unfold FN;rw[show q! 33 c=true by rw[w!];omega,show q! c 126=true by rw[w!];omega];rfl
    by_cases i:DW c [40,41,123,125,37,42,34,92,93]>=0
    ·have o:=eq_true i;simp(disch:=omega)only[vvB,a!,reduceCtorEq,↓reduceIte,CY,CX,Ku,f0,d,ex,f,l,Ws a,o];exact⟨by simp only[vvB,a!,reduceCtorEq,↓reduceIte];rw[bad (by rw[p,decide_eq_true i];rfl) rfl],rfl⟩
    ·have o:=eq_false i;simp(disch:=omega)only[vvB,a!,reduceCtorEq,↓reduceIte,CY,CX,f0,d,ex,f,l,Ws a,o];refine⟨qK2 d,qK2 q,(),by simp only[Fa,vvB,a!,reduceCtorEq,↓reduceIte,f0,and_self],rfl,?_⟩;rw[take_snoc j,List.all_append,b];simp[p,i]
 ·intro _ fr g m b;obtain⟨f0,-⟩:=m;obtain⟨rfl,b⟩:=b;rw[e!]at b;exact⟨f0,rfl,b⟩
 ·rintro fr g ⟨f0,rfl,b⟩;simp(disch:=omega)only[vvB,a!,reduceCtorEq,↓reduceIte,afM,f0];refine aX.ret (qT0) ⟨?_,rfl⟩;unfold TG;rw[b];by_cases w:s= []<;>simp[w]
 ·rintro fr g ⟨f2,rfl⟩;exact aX.ret (qT1 f2) ⟨rfl,rfl⟩
theorem ayV{s:List Nat}(d:ai3 s=true):∃h',O7 [H s] h=D (K true) h'/\Nw h h':=by
 unfold ai3 at d;rw[j!,j!]at d;obtain⟨⟨a,hl⟩,k⟩:=d;have l:s.length<=64:=z! hl;have b:foldM s=s:=of_decide_eq_true k;have e:∀c∈s,c<256:=λc j=>by
  unfold TG at a;rw[j!]at a;have:=List.all_eq_true.1 a.1 c j;unfold FN at this;rw[j!,j!]at this;have:=z! this.1.2;omega
 obtain⟨i,e1,f⟩:=amg (h:=h) (s:=s) (by omega) e;rw[b]at e1;rw[ao4];simp(disch:=omega)only[vvB,a!,reduceCtorEq,↓reduceIte,ZK,adB,adA,acY (h:=h) (s:=s) (by omega) e,a,e1];exact⟨i,by simp only[aU,bW,vvB,a!,reduceCtorEq,↓reduceIte,bZ]<;>rfl,f⟩
theorem atO(x:V)(g:Hp):dK pz (.func (.func anv) .nil .nil) [x] g=O8 [x] g:=(rfl)
theorem aoB{l:List (List Nat)}(r:Rws P (flat ji) 1 h v l)(I:∀k∈l,ai3 k=true)(t:l.length<=1):
  ∃w h',MX [v] h=D (.tuple (.cons w (.cons (iV 0) .nil))) h'/\Rws (λj=>h.next.nat<=j.nat) (flat ji) 1 h' w l/\Nw h h':=by
 obtain⟨C,e1,c⟩:=XL r (aK _) (λ_=>false) (by omega) (f:=.func (.func anv) .nil .nil) (λa x g E J e=>by
  cases(show [x]= [H a] from e);obtain⟨B,e2,d⟩:=ayV (h:=g) (I a E);refine⟨B,?_,d⟩;rw[atO,ao5];simp only[vvB,a!,reduceCtorEq,↓reduceIte,ZL,adD,adC,e2];simp only[aU,bW,vvB,a!,reduceCtorEq,↓reduceIte,bZ])
 rw[show(l.any λ_=>false)=false by simp]at e1;obtain⟨w,o,e2,r2,d,i⟩:=XM (r.nw (aK _) c) (by omega);have G:=c.next;have s:∃u b,lG [w] o=D u b/\Rws (λj=>C.next.nat<=j.nat) (flat ji) 1 b w l/\Nw h b:=by
  rcases i with rfl|i
  ·exact⟨_,o,Wv (r2.len o),r2,c.trans d⟩
  ·obtain⟨b,n,y,m⟩:=aoO i (by omega);rw[OL _ t]at y;exact⟨_,b,n,y.rows (aK _) (λ_ _ q=>q.elim) λ_ q _=>q,(c.trans d).then m λj L e=>by have:=(i.eu e).1;omega⟩
 obtain⟨u,b,n,p,m⟩:=s;have z:=aiG p t;rw[atg];simp(disch:=omega)only[vvB,a!,reduceCtorEq,↓reduceIte,ad3,ag0,agZ,agY,agX,agW,agV,agU,e1,e2,n,z,p.len];exact⟨w,b,by simp only[aU,bW,vvB,a!,reduceCtorEq,↓reduceIte,bZ]<;>rfl,p.mono (aK _) λj _ q=>by omega,m⟩
end
end Go.Proofs.Im
namespace Go.Im
def updB(id:Int)(f:Bx->Bx):List Bx->List Bx
 | []=> []
 |b::l=>if b.id=id then f b::l else b::updB id f l
theorem ahh{id:Int}{f:Bx->Bx}:∀{l:List Bx} {i:Nat},l.findIdx? (λb=>decide (b.id=id))=some i->∃b,l[i]?=some b/\updB id f l=l.set i (f b)
 | [],i,e=>by simp at e
 |b::l,i,e=>by
  rw[i!]at e;by_cases hb:b.id=id
  ·rw[if_pos (by simpa using hb)]at e;cases e;exact⟨b,rfl,by simp[updB,hb]⟩
  ·rw[if_neg (by simpa using hb)]at e;cases a:l.findIdx? (λb=>decide (b.id=id)) with
   |none=>rw[a]at e;cases e
   |some k=>
    rw[a]at e;cases e;obtain⟨c,d,j⟩:=ahh (f:=f) a;exact⟨c,d,by simp[updB,hb,j]⟩
theorem apx(id:Int)(f:Bx->Bx)(l:List Bx):(updB id f l).length=l.length:=by
 induction l with
 |nil=>rfl
 |cons b l a=>unfold updB;split<;>simp[a]
theorem ann{id k:Int}{f:Bx->Bx}(a:∀b,(f b).id=b.id)(l:List Bx):(updB id f l).findIdx? (λb=>decide (b.id=k))=l.findIdx? (λb=>decide (b.id=k)):=by
 induction l with
 |nil=>rfl
 |cons b l c=>
  unfold updB;split
  ·rw[i!,i!,a]
  ·rw[i!,i!,c]
def jK(mod:Int):List Int->List Bx->List Bx
 | [],l=>l
 |id::r,l=>jK mod r (updB id (λb=>{b with mod:=mod}) l)
theorem aiL(mod id:Int):∀(r:List Int) (l:List Bx),jK mod (r++ [id]) l=updB id (λb=>{b with mod:=mod}) (jK mod r l)
 | [],_=>rfl
 |_::r,l=>aiL mod id r _
theorem aiM{k mod:Int}:∀(r:List Int) (l:List Bx),(jK mod r l).findIdx? (λb=>decide (b.id=k))=l.findIdx? (λb=>decide (b.id=k))
 | [],_=>rfl
 |id::r,l=>(aiM r _).trans (ann (f:=λb=>{b with mod:=mod}) (λ_=>rfl) l)
theorem ano(mod:Int):∀(r:List Int) (l:List Bx),(jK mod r l).length=l.length
 | [],_=>rfl
 |id::r,l=>(ano mod r _).trans (apx _ _ l)
def jV(mod id:Int):En:={mod:=mod,kind:=1,id:=id,how:=2}
end Go.Im
namespace Go.Proofs.Im
section
variable{h h' g:Hp}{F I P:Pos->Prop}{ps pl ib:Pos}{A:Acc}{cb:Cap}{fb:Bool}{v vm vl:V}
theorem dG.aDQ(a:dG h F ps A pl ib cb fb vm vl I){B:List Bx}(hl:B.length=A.boxes.length):dG (h.put ib (some (O (N tBx fb) (B.map fF).flatten))) F ps {A with boxes:=B} pl ib cb fb vm vl I:=by
 have c:Ch (λj=>j=ib) h (h.put ib (some (O (N tBx fb) (B.map fF).flatten))):=Ch.put _ _ rfl;have ne:=a.ne;refine⟨?_,a.lg.ch c λe=>ne.2.2 e,a.bx.put _,by show yB 6 (.slice ib 0 B.length cb);rw[hl];exact a.cap,?_,?_,a.ne,a.nm,a.nl,a.inn,a.foot,a.lt,a.enil⟩
 ·have e:stC {A with boxes:=B} ib cb vm pl=stC A ib cb vm pl:=by unfold stC;simp only[hl]
  rw[e];exact a.st.ch c λe=>ne.2.1 e
 ·obtain⟨b,x,d,r⟩:=a.ml;refine⟨b,x.mono λ_ _ e=>dw e c λj _ q=>⟨q,λe=>(a.inn j q).2.2.2.1 e⟩,d,r.imp id λ⟨i,f,rest,e,k⟩=>⟨i,f,rest,e,k.ch c λl=>?_⟩⟩;exact(a.nm i (by rw[e];rfl)).2.2.1 l
 ·obtain⟨b,x,d,s⟩:=a.en;exact⟨b,x.mono λ_ _ e=>e,d,s.ch c λj m e=>(a.nl j m).2.2 e⟩
theorem uV{sz:Nat}{i:Pos}{n m:Nat}{c:Cap}(a:m<n)(g:Hp):bJ sz (.slice i 0 n c) (Y U (m:Int)) g=D (X i (m*sz)) g:=by rw[xQ a,y!]
theorem aK4(x:En)(h:Hp):bY tEn zEn 1 [(0,4,.agg (V.ofList (gu x)))] h=D (.slice h.next 0 1 (.kn 1)) (h.new (O (N tEn true) (gu x))):=(rfl)
theorem alT(a b c d:Int)(h:Hp):bQ zEn [(0,1,Y U a),(1,1,Y U b),(2,1,Y U c),(3,1,Y U d)] h=D (.agg (V.ofList (gu {mod:=a,kind:=b,id:=c,how:=d}))) h:=(rfl)
theorem dG.aIr(a:dG h F ps A pl ib cb fb vm vl I){k f:Nat}{b:Bx}(i:A.boxes[k]?=some b)(l:f<6){y:Int}{b':Bx}(hb:(fF b).set f (iV y)=fF b'):
  aT 1 (X ib (k*6+f)) (iV y) h=D V.undef (h.put ib (some (O (N tBx fb) ((A.boxes.set k b').map fF).flatten))):=by
 have m:=(b!.1 i).1;have e:∀d∈A.boxes.map fF,d.length=6:=λd j=>by obtain⟨x,_,rfl⟩:=x!.1 j;rfl
 have c:(A.boxes.map fF).flatten.length=A.boxes.length*6:=by rw[gW e,h!]
 rw[a.bx.st ⟨rfl,rfl⟩ (by rw[c];omega),ahK e (by rw[D!,i];rfl) l,hb,List.map_set]
theorem UE(a:dG h F ps A pl ib cb fb vm vl I)(hA:A.Small){p l:List Int}(r:Rws P (flat gV) 1 h v p)(hn:p.length<=12)(mod:Int)(hl:iC ltI p.length p=l)(ai:∀(k:Nat) x y,l[k]?=some x->l[k+1]?=some y->x≠y)
  (hb:∀id∈l,∃i,A.boxes.findIdx? (λb=>decide (b.id=id))=some i):
  ∃w h',xX [X ps 0,iV mod,v] h=D w h'/\dG h' F ps {A with boxes:=jK mod l A.boxes} pl ib cb fb vm vl I/\Rws (λj=>h.next.nat<=j.nat) (flat gu) 4 h' w (l.map (jV mod))/\aaf w l.length/\Ch (λj=>j=ib) h h':=by
 obtain⟨w1,h1,e1,r1,c1,o1⟩:=ahf r (by omega);have aq:l.length=p.length:=by rw[<-hl,AB]
 have n1:=c1.next;have ap:=a.bx.2;have am:∃u m,nT [w1] h1=D u m/\Rws (λj=>h.next.nat<=j.nat) (flat gV) 1 m w1 l/\Nw h m:=by
  rcases o1 with rfl|o1
  ·have:l= []:=by rw[<-hl];rfl
   rw[this];exact⟨_,h1,afx (r1.len h1),r1,c1⟩
  ·obtain⟨m,e2,o2,c2⟩:=ajZ o1 (by omega);rw[hl]at o2;exact⟨_,m,e2,o2.rows (aK _) (λ_ _ q=>q.elim) λ_ q _=>q,c1.then c2 λj Z e=>by have:=(o1.eu e).1;omega⟩
 obtain⟨u,m,e2,r2,c2⟩:=am;have e3:=ao8 r2 (by omega) ai;have a2:=a.nw c2;have n2:=c2.next;rw[am7];show aX k! _ (λw h'=>dG h' F ps {A with boxes:=jK mod l A.boxes} pl ib cb fb vm vl I/\Rws (λj=>h.next.nat<=j.nat) (flat gu) 4 h' w (l.map (jV mod))/\aaf w l.length/\Ch (λj=>j=ib) h h') _;simp(disch:=omega)only[vvB,a!,reduceCtorEq,↓reduceIte,U4,aaT,aaS,aaR,aaQ,aaP,e1,e2,e3,r2.len,abK];refine Oc.then (dS (σ:=V) (n:=l.length) (pi:=18) (pn:=17) (pc:=19) [0,1,8,16] (λo=> [X ps 0,iV mod,o,w1])
  (λk o g=>dG g F ps {A with boxes:=jK mod (l.take k) A.boxes} pl ib cb fb vm vl I/\dH m.next.nat (λ_=>False) (flat gu) tEn 4 g o ((l.take k).map (jV mod))/\Ch (λj=>j=ib) m g)
  (A:=λfr g=>∃o,fr.get (g! 8)=some o/\dG g F ps {A with boxes:=jK mod l A.boxes} pl ib cb fb vm vl I/\dH m.next.nat (λ_=>False) (flat gu) tEn 4 g o (l.map (jV mod))/\Ch (λj=>j=ib) m g) (B:=λ_ _=>False) (s:=.aQ)
  (λfr h _ k e1 e2=>by simp only[vvB,a!,reduceCtorEq,↓reduceIte,aaO,e1,e2]) (λfr h k _ e1=>by simp(disch:=omega)only[vvB,a!,reduceCtorEq,↓reduceIte,aaK,e1]) (by decide) (by rw[dW];omega) (qK0) (qK0) (by simp only[Fa,vvB,a!,reduceCtorEq,↓reduceIte,and_self])
  ⟨a2,dH.nil _ _ _ _ _ _,Ch.refl _ _⟩ ?_ ?_) ?_ ?_
 ·intro k o fr g hk aa ae fa hI;obtain⟨f0,f1,f8,Q,-⟩:=fa;obtain⟨C,t,M⟩:=hI;obtain⟨id,z⟩:∃id,l[k]?=some id:=⟨_,c! hk⟩
  obtain⟨i,q,cs,e4,ex,-,-,-,l4,-⟩:=(r2.ch (P':=λ_=>True) (aK _) M λj Z pj=>⟨trivial,λe=>by rw[e]at pj;omega⟩).elt z;obtain rfl:cs=gV id:=ex;have L4:aF (X i q) g=D (iV id) g:=l4 g rfl 0 _ rfl;obtain⟨bi,S⟩:=hb id (d! z);have G:(jK mod (l.take k) A.boxes).findIdx? (λb=>decide (b.id=id))=some bi:=by rw[aiM];exact S
  obtain⟨b,ab,af⟩:=ahh (f:=λb=>{b with mod:=mod}) G;have aj:({A with boxes:=jK mod (l.take k) A.boxes}:Acc).Small:=⟨hA.clock,by show 0<(jK mod (l.take k) A.boxes).length/\_;rw[ano];exact hA.boxes,hA.aP,hA.ents,hA.each⟩
  obtain⟨g2,e5,c5⟩:=YX C aj id;simp only[G,gK]at e5;have J:=C.nw c5;have Lb:=J.st.ld (q:=10) (x:=.slice ib 0 (jK mod (l.take k) A.boxes).length cb) rfl;have ac:=C.st.ld (q:=10) (x:=.slice ib 0 (jK mod (l.take k) A.boxes).length cb) rfl;have ah:=(b!.1 ab).1;obtain⟨E,W⟩:∃E,E=g2.put ib (some (O (N tBx fb) (((jK mod (l.take k) A.boxes).set bi {b with mod:=mod}).map fF).flatten)):=⟨_,rfl⟩
  have S3:aT 1 (X ib (bi*6+5)) (iV mod) g2=D V.undef E:=by rw[W];exact J.aIr ab (by omega) rfl
  have ad:dG E F ps {A with boxes:=jK mod (l.take (k+1)) A.boxes} pl ib cb fb vm vl I:=by
   rw[take_snoc z,aiL,af,W];exact J.aDQ (by rw[v!])
  have L:Ch (λj=>j=ib) g2 E:=by rw[W];exact Ch.put _ _ rfl
  have ao:=M.next;have n5:=c5.next;have av:=L.next;have al:dH m.next.nat (λ_=>False) (flat gu) tEn 4 E o ((l.take k).map (jV mod)):=(t.nw (aK _) c5).ch (aK _) L (λj Z e=>by have:=(t.eu Z).1;rw[e]at this;omega) λ_ _ q=>q.elim;obtain⟨o',g4,e6,o6,c6,n6,ar⟩:=al.aCu (bt:=32) (x:=jV mod id) (by omega) rfl (by simp;omega);have e6:cZ tEn 4 32 o (.slice E.next 0 1 (.kn 1)) (E.new (O (N tEn true) (gu {mod:=mod,kind:=1,id:=id,how:=2})))=D o' g4:=e6;simp(disch:=omega)only[vvB,a!,reduceCtorEq,↓reduceIte,aaN,aaM,aaL,f0,f1,f8,Q,aa,e4,L4,e5,Lb,wG rfl ac,uV ah,S3,alT,aK4,e6];refine⟨qK2 aa,qK2 ae,o',by simp only[Fa,vvB,a!,reduceCtorEq,↓reduceIte,f0,f1,Q,and_self],ad.ch c6 λj f e=>by have:=a2.lt j f;have:=(t.eu e).1;omega,?_,?_⟩
  ·rw[take_snoc z,List.map_append];exact o6
  ·exact((M.nw c5).trans L λ_ _ q=>q).trans c6 λj Z e=>by have:=(t.eu e).1;omega
 ·intro o fr g fa hI;obtain⟨f0,f1,f8,Q,-⟩:=fa;obtain⟨C,t,M⟩:=hI;rw[e!]at C t;exact⟨o,f8,C,t,M⟩
 ·rintro fr g ⟨o,f8,C,t,M⟩;have ol:=t.len g;rw[h!]at ol;have fin:∃w,eY 4 o none (some (Y U (l.length:Int))) (some (Y U (l.length:Int))) g=D w g/\Rws (λj=>h.next.nat<=j.nat) (flat gu) 4 g w (l.map (jV mod))/\aaf w l.length:=by
   by_cases hz:l= []
   ·obtain⟨an,x,hw,s⟩:=t;rcases s.is with⟨_,rfl⟩|⟨i,rfl,S,hi,f,hg⟩
    ·subst hz;exact⟨.aQ,rfl,Rws.aQ _ _ _ _,.inl ⟨rfl,rfl⟩⟩
    ·subst hz;refine⟨.slice i 0 0 (.kn 0),by simp only[List.map_nil,List.length_nil];rfl,?_,.inr ⟨i,rfl⟩⟩;cases x;exact⟨[],.nil,λ_ q=>(by cases q),⟨by simp,.inr ⟨i,0,_,N tEn f,_,rfl,hi,by rw[hg];rfl,λk hk=>by simp at hk⟩⟩,λ_ _ _ _ e=>(by cases e;exact u! _),λj Z=>by cases Z;show h.next.nat<=i.nat;omega⟩
   ·have ak:l.map (jV mod)≠ []:=by simpa using hz
    obtain⟨i,f,rfl,S,kk⟩:=t.open ak;rw[h!] at*;refine⟨.slice i 0 l.length (.kn l.length),?_,?_,.inr ⟨i,rfl⟩⟩
    ·show(match q! l.length l.length,q! l.length l.length,q! 0 l.length with
      |true,true,true=>dY (moved 4 0 0 l.length) λq=>dY (l.length - 0) λn=>R.ok (V.slice i q n (.kn (l.length - 0))) g
      |_,_,_=>.bad)=_
     rw[A! (u! _),A! (C! _)];simp only[dF];have hm:moved 4 0 0 l.length=0:=by unfold moved;split<;>rfl
     rw[hm,Nat.sub_zero]
    ·have au:∀d∈(l.map (jV mod)).map gu,d.length=4:=λd hd=>by obtain⟨x,_,rfl⟩:=x!.1 hd;rfl
     have:=Kn.rws (c:=gu) (sz:=4) (l:=l.map (jV mod)) (cp:=.kn l.length) kk (λ_=>rfl) (λ_ _ _ _ e=>by cases e;simp);rw[h!]at this;exact this.mono (aK _) λj _ e=>by rw[e];omega
  obtain⟨w,e7,r7,f7⟩:=fin;simp(disch:=omega)only[vvB,a!,reduceCtorEq,↓reduceIte,WQ,f8,ol,e7];exact aX.ret (r:=w) (qT0) ⟨C,r7,f7,Ch.trans (c2.ch) M λ_ _ q=>q⟩
 ·intro fr g q;exact q.elim
end
end Go.Proofs.Im
namespace Go.Vm
theorem Rws.own{α:Type}{P:Pos->Prop}{c:α->List V}{w:Nat}{h:Hp}{v:V}{l:List α}(r:Rws P (flat c) w h v l):Rws (λj=>bH v=some j) (flat c) w h v l:=by
 obtain⟨b,a,f,s,k,p⟩:=r;exact⟨b,a.mono λ_ _ e=>e,f,s,k,λj d=>d⟩
theorem Rws.eu{α:Type}{P:Pos->Prop}{E:El α}{w:Nat}{h:Hp}{v:V}{l:List α}(r:Rws P E w h v l){j:Pos}(b:bH v=some j):P j/\j.nat<h.next.nat:=by
 obtain⟨c,a,d,s,k,p⟩:=r;exact⟨p j b,s.eu b⟩
end Go.Vm
namespace Go.Im
structure Acc.Logged (A:Acc):Prop where
 mods:∀e∈A.ents,e.mod<=A.clock
structure Ml.In (A:Acc) (m:Ml):Prop where
 sorted:iC ltI (m.mem.map (·.1)).length (m.mem.map (·.1))=m.mem.map (·.1)
 nodup:∀(k:Nat) x y,(m.mem.map (·.1))[k]?=some x->(m.mem.map (·.1))[k+1]?=some y->x≠y
 there:∀id∈m.mem.map (·.1),∃i,A.boxes.findIdx? (λb=>decide (b.id=id))=some i
 few:m.mem.length<=12
end Go.Im
namespace Go.Proofs.Im
section
variable{h h':Hp}{F I P:Pos->Prop}{ps pl ib:Pos}{A:Acc}{cb:Cap}{fb:Bool}{vm vl:V}
theorem dG.aDO(a:dG h F ps A pl ib cb fb vm vl I){es:List En}{b:V}(k:Kn h' pl (O (N tLg true) [iV 10000,b,iV A.floor]))(o:dH 0 (λ_=>False) (flat gu) tEn 4 h' b (A.ents++es))
  (c:Ch (λj=>j=pl\/bH vl=some j) h h') (m:∀j,bH b=some j->bH vl=some j\/h.next.nat<=j.nat) (l:es≠ []):dG h' (λj=>F j\/bH b=some j) ps {A with ents:=A.ents++es} pl ib cb fb vm b I where
 st:=a.st.ch c λe=>e.elim a.ne.1 λe=>(a.nl ps e).1 rfl
 lg:=k
 bx:=a.bx.ch c λe=>e.elim (λe=>a.ne.2.2 e.symm) λe=>(a.nl ib e).2.2 rfl
 cap:=a.cap
 ml:=by
  obtain⟨d,x,n,r⟩:=a.ml;exact⟨d,x.mono λ_ _ e=>dw e c λj _ q=>⟨q,λe=>e.elim (a.inn j q).2.2.1 (a.inn j q).2.2.2.2.2⟩,n,r.imp id λ⟨i,f,rest,e,k⟩=>⟨i,f,rest,e,k.ch c λg=>g.elim (a.nm i (by rw[e];rfl)).2.1 (a.nm i (by rw[e];rfl)).2.2.2⟩⟩
 en:=o
 ne:=a.ne
 nm:=λj e=>⟨(a.nm j e).1,(a.nm j e).2.1,(a.nm j e).2.2.1,λg=>(m j g).elim (a.nm j e).2.2.2 λq=>by have:=a.lt j (a.foot.2.2.2.1 j e);omega⟩
 nl:=λj e=>(m j e).elim (a.nl j) λq=>⟨λe=>by rw[e]at q;have:=a.st.2;omega,λe=>by rw[e]at q;have:=a.lg.2;omega,λe=>by rw[e]at q;have:=a.bx.2;omega⟩
 inn:=λj q=>⟨.inl (a.inn j q).1,(a.inn j q).2.1,(a.inn j q).2.2.1,(a.inn j q).2.2.2.1,(a.inn j q).2.2.2.2.1,λe=>(m j e).elim (a.inn j q).2.2.2.2.2 λp=>by have:=a.lt j (a.inn j q).1;omega⟩
 foot:=⟨.inl a.foot.1,.inl a.foot.2.1,.inl a.foot.2.2.1,λj e=>.inl (a.foot.2.2.2.1 j e),λj e=>.inr e⟩
 lt:=λj q=>q.elim (λq=>Nat.lt_of_lt_of_le (a.lt j q) c.next) λe=>(o.eu e).2
 enil:=λe=>absurd (List.append_eq_nil_iff.1 e).2 l
theorem dG.add(a:dG h F ps A pl ib cb fb vm vl I){es:List En}{w:V}(r:Rws P (flat gu) 4 h w es)(g:∀j:Pos,j.nat<h.next.nat->P j->¬F j){c:Int}(n:∀e∈es,e.mod=c)(hl:∀e∈A.ents,e.mod<=c)(p:A.ents.length+es.length<=10000)(d:es≠ []):
  ∃u h' b,Eb [X pl 0,w] h=D u h'/\dG h' (λj=>F j\/bH b=some j) ps {A with ents:=A.ents++es} pl ib cb fb vm b I/\Ch F h h'/\(∀j,bH b=some j->F j\/h.next.nat<=j.nat):=by
 obtain⟨u,h',b,e,k,o,f,l⟩:=arY a.lg a.en r (λj e=>(a.nl j e).2.1) (λj i m=>⟨λe=>g j i m (by rw[e];exact a.foot.2.1),λe=>g j i m (a.foot.2.2.2.2 j e)⟩) n hl p;exact⟨u,h',b,e,a.aDO k o f l d,f.mono λj _ q=>q.elim (λe=>by rw[e];exact a.foot.2.1) (a.foot.2.2.2.2 j),λj e=>(l j e).imp (a.foot.2.2.2.2 j) id⟩
theorem dG.aBT(a:dG h F ps A pl ib cb fb vm vl I){k:Nat}{m:Ml}(d:A.aP[k]?=some m):∃im f rest b vk vs,vm=.slice im 0 A.aP.length (.un 8)/\Kn h im (O (N tMl f) (b.flatten++rest))/\All2 (jf I h) A.aP b/\(∀c∈b,c.length=8)/\
  b[k]?=some (dB m vk vs)/\Rws I (flat ji) 1 h vk m.keys/\Rws I (flat fD) 2 h vs m.mem:=by
 obtain⟨b,x,i,r⟩:=a.ml;obtain⟨c,g,vk,vs,rfl,j,l⟩:=x.get d;rcases r with⟨h0,_⟩|⟨im,f,rest,e,kk⟩
 ·rw[h0]at d;simp at d
 ·exact⟨im,f,rest,b,vk,vs,e,kk,x,i,g,j,l⟩
theorem azi{a:List (List V)}{rest c:List V}{k f:Nat}{y:V}(d:∀c∈a,c.length=8)(b:a[k]?=some c)(e:f<8):(a.flatten++rest).set (k*8+f) y=(a.set k (c.set f y)).flatten++rest:=by
 have g:=(b!.1 b).1;have:=gW d;rw[List.set_append_left _ _ (by omega),ahK d b e]
def J9(l:List (List Nat)):Bool:=l.any λa=>decide (([36,115,101,101,110]:List Nat)=a)
def jL(m:Ml)(l:List (List Nat)):List Int:=if J9 l=J9 m.keys then [] else m.mem.map (·.1)
def ajq(A:Acc)(k:Nat)(m:Ml)(l:List (List Nat)):Acc:=
 {clock:=A.clock+1
  aP:=A.aP.set k {m with keys:=l,mod:=A.clock+1}
  boxes:=jK (A.clock+1) (jL m l) A.boxes
  ents:=A.ents++((jL m l).map (jV (A.clock+1))++ [(⟨A.clock+1,2,m.id,2⟩:En)])
  floor:=A.floor
  lastBox:=A.lastBox
  lastId:=A.lastId
  octets:=A.octets}
end
section
variable{h h' g:Hp}{F I P:Pos->Prop}{ps pl ib p:Pos}{A:Acc}{cb:Cap}{fb:Bool}{v vm vl:V}
theorem dG.aKi(a:dG h F ps A pl ib cb fb vm vl I){k:Nat}{m m':Ml}(B:A.aP[k]?=some m){im:Pos}{f:Bool}{rest:List V}{b:List (List V)}{vk vs w:V}(e:vm=.slice im 0 A.aP.length (.un 8))(x:All2 (jf I h) A.aP b)
  (J:∀c∈b,c.length=8) (Z:b[k]?=some (dB m vk vs)) (C:Rws (λj=>bH w=some j) (flat ji) 1 h w m'.keys) (Q:Rws I (flat fD) 2 h vs m'.mem) (y:∀j,bH w=some j->¬F j):
  dG (h.put im (some (O (N tMl f) ((b.set k (dB m' w vs)).flatten++rest)))) (λj=>F j\/bH w=some j) ps {A with aP:=A.aP.set k m'} pl ib cb fb vm vl (λj=>I j\/bH w=some j):=by
 have i:bH vm=some im:=by rw[e];rfl
 have r:=a.foot.2.2.2.1 im i;have c:Ch (λj=>j=im) h (h.put im (some (O (N tMl f) ((b.set k (dB m' w vs)).flatten++rest)))):=Ch.put _ _ rfl;have nm:=a.nm im i;have s:∀j,bH w=some j->j.nat<h.next.nat:=λj q=>(C.eu q).2;refine⟨?_,a.lg.ch c λe=>nm.2.1 e.symm,a.bx.ch c λe=>nm.2.2.1 e.symm,a.cap,?_,?_,a.ne,a.nm,a.nl,?_,?_,?_,a.enil⟩
 ·have e1:stC {A with aP:=A.aP.set k m'} ib cb vm pl=stC A ib cb vm pl:=rfl;rw[e1];exact a.st.ch c λe=>nm.1 e.symm
 ·have W:All2 (jf (λj=>I j\/bH w=some j) (h.put im (some (O (N tMl f) ((b.set k (dB m' w vs)).flatten++rest))))) A.aP b:=
   x.mono λ_ _ e=>dw e c λj _ q=>⟨.inl q,λe=>(a.inn j q).2.2.2.2.1 (by rw[e];exact i)⟩
  refine⟨b.set k (dB m' w vs),W.set ⟨w,vs,rfl,?_,?_⟩,?_,.inr ⟨im,f,rest,?_,?_⟩⟩
  ·exact C.ch (aK _) c λj _ q=>⟨.inr q,λe=>y j q (by rw[e];exact r)⟩
  ·exact Q.ch (aK _) c λj _ q=>⟨.inl q,λe=>(a.inn j q).2.2.2.2.1 (by rw[e];exact i)⟩
  ·intro d G;rcases n! G with q|q
   ·exact J d q
   ·rw[q];rfl
  ·rw[v!];exact e
  ·obtain⟨l,E,n,M⟩:=a.ml;rcases M with⟨h0,u⟩|⟨i0,f0,t,u,L⟩
   ·rw[h0]at B;simp at B
   ·rw[u]at e;injection e with e;subst e;exact L.put _
 ·obtain⟨l,E,n,S⟩:=a.en;exact⟨l,E.mono λ_ _ e=>e,n,S.ch c λj z e=>by rw[e]at z;exact nm.2.2.2 z⟩
 ·intro j q;rcases q with q|q
  ·exact⟨.inl (a.inn j q).1,(a.inn j q).2⟩
  ·have o:=y j q;exact⟨.inr q,λe=>o (by rw[e];exact a.foot.1),λe=>o (by rw[e];exact a.foot.2.1),λe=>o (by rw[e];exact a.foot.2.2.1),λe=>o (a.foot.2.2.2.1 j e),λe=>o (a.foot.2.2.2.2 j e)⟩
 ·exact⟨.inl a.foot.1,.inl a.foot.2.1,.inl a.foot.2.2.1,λj e=>.inl (a.foot.2.2.2.1 j e),λj e=>.inl (a.foot.2.2.2.2 j e)⟩
 ·intro j q;exact q.elim (a.lt j) (s j)
theorem azj{im:Pos}{w:Wr}{a:List (List V)}{rest c:List V}{k:Nat}(m:Kn h im (O w (a.flatten++rest)))(i:∀c∈a,c.length=8)(b:a[k]?=some c):bT 8 (X im (k*8)) h=D (.agg (V.ofList c)) h:=by
 have n:=(b!.1 b).1;have hl:=gW i;have e:=Ji i b;have d:=i c (d! b);show dP h im (λ_ cs=>match gm 8 (fB (k*8) cs) with|some l=>R.ok (V.agg (V.ofList l)) h|none=>.bad)=_;rw[dM (wr:=w) (all:=a.flatten++rest) (by rw[m.1];rfl),vP (cs:=c) (λf j=>?_) d];rw[o! (by omega),<-e,r!,if_pos j,t!]
theorem aDR(a b c d:Int):eH tEn zEn 1 [(0,4,.agg (V.ofList (gu {mod:=a,kind:=b,id:=c,how:=d})))]=some (O (N tEn true) (gu {mod:=a,kind:=b,id:=c,how:=d}),λp=>.slice p 0 1 (.kn 1)):=(rfl)
theorem aAJ(a:dG h F ps A pl ib cb fb vm vl I)(hA:A.Small)(hL:A.Logged){k:Nat}{m:Ml}(hm:A.aP[k]?=some m)(hf:A.aP.findIdx? (λx=>decide (x.id=m.id))=some k)(ac:m.In A){l:List (List Nat)}(r:Rws P (flat ji) 1 h v l)(hr:∀k∈l,ai3 k=true)(hn:l.length<=1)
  (bi:l≠m.keys) (bg:A.ents.length<=8000) (bA:A.clock<900000):
  ∃h' F' ag I',MO [X ps 0,iV m.id,v] h=D (iV 0) h'/\dG h' F' ps (ajq A k m l) pl ib cb fb vm ag I'/\Ch F h h'/\∀j,F' j->F j\/h.next.nat<=j.nat:=by
 have aE:=hA.each m (d! hm);obtain⟨h1,e1,c1⟩:=an4 a hA m.id;rw[hf]at e1;simp only[gK]at e1;obtain⟨w,h2,e2,r2,c2⟩:=aoB (r.nw (aK _) c1) hr hn;have a2:=(a.nw c1).nw c2;have bd:=c1.trans c2;obtain⟨im,f,rest,be,vk,vs,ae,km,x,hw,hc,rk,rs⟩:=a2.aBT hm;have L2:=a2.st.ld (q:=11) (x:=vm) rfl;have hk:=(b!.1 hm).1;have bx:=gW hw;have bB:=(b!.1 hc).1;have Ix:=λg=>uV (sz:=8) (i:=im) (c:=.un 8) hk g;rw[<-ae]at Ix;have cell:∀{q:Nat} {y:V},q<8->(dB m vk vs)[q]?=some y->(be.flatten++rest)[k*8+q]?=some y:=λ{q y} hq hy=>by
  rw[o! (by omega)];have e:=Ji hw hc;rw[<-e,r!,if_pos (by omega),t!]at hy;exact hy
 have au:aF (X im (k*8+4)) h2=D vk h2:=km.ld (cell (by omega) rfl);have e3:=anj r2 rk (by omega);rw[decide_eq_false bi]at e3;have e4:=ac0 a2 hA;have e5:=acZ a2 hA;obtain⟨Z,an⟩:∃Z,Z=h2.put ps (some (O (N tSt true) (stC {A with clock:=A.clock+1} ib cb vm pl))):=⟨_,rfl⟩
 rw[<-an]at e5;have a3:dG Z F ps {A with clock:=A.clock+1} pl ib cb fb vm vl I:=by rw[an];exact a2.aep rfl rfl rfl rfl
 have c3:Ch (λj=>j=ps) h2 Z:=by rw[an];exact Ch.put _ _ rfl
 have bw:=a.foot.1;have n1:=c1.next;have n2:=c2.next;have n3:=c3.next;have r3:Rws (λj=>bH w=some j) (flat ji) 1 Z w l:=r2.own.ch (aK _) c3 λj _ q=>⟨q,λe=>by have:=(r2.eu q).1;rw[e]at this;have:=a.st.2;omega⟩
 obtain⟨bk,f3,t,n,u,z,ai,aR,x3,M,L,af,ba⟩:=a3.aBT (m:=m) hm;obtain rfl:im=bk:=by rw[ae]at ai;injection ai
 have L3:=a3.st.ld (q:=11) (x:=vm) rfl;have S:∀{q:Nat} {y:V},q<8->(dB m u z)[q]?=some y->(n.flatten++t)[k*8+q]?=some y:=λ{q y} hq hy=>by
  have:=gW M;have:=(b!.1 L).1;rw[o! (by omega)];have e:=Ji M L;rw[<-e,r!,if_pos (by omega),t!]at hy;exact hy
 obtain⟨h4,e6,c4⟩:=CP r3 [36,115,101,101,110] (by omega);have a0:=aR.nw c4;have av:aF (X im (k*8+4)) Z=D u Z:=aR.ld (S (by omega) rfl);have aw:aF (X im (k*8+4)) h4=D u h4:=a0.ld (S (by omega) rfl);obtain⟨h5,e7,c5⟩:=CP (af.nw (aK _) c4) [36,115,101,101,110] (by omega);have a5:=(a3.nw c4).nw c5;have aq:=a0.nw c5;have J:=c4.trans c5;have bL:=J.next;obtain⟨wi,Q,e8,r8,c6⟩:∃wi Q,(if J9 l=J9 m.keys then wi=.aQ/\Q=h5 else xW [.agg (V.ofList (dB m u z))] h5=D wi Q)/\Rws (λj=>h5.next.nat<=j.nat) (flat gV) 1 Q wi (jL m l)/\Nw h5 Q:=by
  unfold jL;split
  ·exact⟨.aQ,h5,⟨rfl,rfl⟩,Rws.aQ _ _ _ _,Nw.refl _⟩
  ·obtain⟨wi,Q,e,o,c⟩:=afv (h:=h5) (show jf I h5 m (dB m u z) from⟨u,z,rfl,af.nw (aK _) J,ba.nw (aK _) J⟩) aE.2;exact⟨wi,Q,e,o.rws (aK _),c⟩
 have a6:=a5.nw c6;have a1:=aq.nw c6;have n6:=c6.next;have x6:All2 (jf I Q) A.aP n:=x3.mono λ_ _ e=>dw e (J.trans c6) λj _ q=>⟨q,λq=>q⟩
 obtain⟨h7,aa⟩:∃h7,h7=Q.put im (some (O (N tMl f3) ((n.set k ((dB m u z).set 4 w)).flatten++t))):=⟨_,rfl⟩
 have S7:aT 1 (X im (k*8+4)) w Q=D V.undef h7:=by
  rw[aa,<-azi M L (by omega)];exact a1.st r3.cell (by rw[l!,gW M];have:=(b!.1 L).1;omega)
 have bm:Kn h7 im (O (N tMl f3) ((n.set k ((dB m u z).set 4 w)).flatten++t)):=by rw[aa];exact a1.put _
 have aM:∀c∈n.set k ((dB m u z).set 4 w),c.length=8:=λd hd=>by
  rcases n! hd with q|q
  ·exact M d q
  ·rw[q];rfl
 have aD:(n.set k ((dB m u z).set 4 w))[k]?=some ((dB m u z).set 4 w):=by rw[List.getElem?_set_self (b!.1 L).1]
 obtain⟨m',W⟩:∃m':Ml,m'={m with keys:=l,mod:=A.clock+1}:=⟨_,rfl⟩
 obtain⟨E,ao⟩:∃E,E=Q.put im (some (O (N tMl f3) ((n.set k (dB m' w z)).flatten++t))):=⟨_,rfl⟩
 have S8:aT 1 (X im (k*8+6)) (iV (A.clock+1)) h7=D V.undef E:=by
  have e:=bm.st (q:=k*8+6) (y:=iV (A.clock+1)) ⟨rfl,rfl⟩ (by rw[l!,gW aM];have:=(b!.1 aD).1;omega);rw[azi aM aD (by omega),List.set_set,aa,aew]at e;rw[ao,W,aa];exact e
 have bj:∀j,bH w=some j->¬F j:=λj q fj=>by have:=(r2.eu q).1;have:=a.lt j fj;omega
 have a8:=a6.aKi (m:=m) (m':=m') hm ae x6 M L (by rw[W];exact r3.nw (aK _) (J.trans c6)) (by rw[W];exact ba.nw (aK _) (J.trans c6)) bj (rest:=t) (f:=f3);rw[<-ao]at a8;have c8:Ch (λj=>j=im) Q E:=by rw[ao];exact Ch.put _ _ rfl
 have n8:=c8.next;have bu:=r8.ch (P':=λj=>h5.next.nat<=j.nat) (aK _) c8 λj _ q=>⟨q,λe=>by have:=aq.2;rw[<-e]at this;omega⟩
 have ab:=a8.nw (Nw.bump 1 E);have bf:({A with clock:=A.clock+1,aP:=A.aP.set k m'}:Acc).Small:=⟨by have:=hA.clock;exact⟨by show 0<=A.clock+1;omega,by show A.clock+1<1000000;omega⟩,hA.boxes,by show(A.aP.set k m').length<=1000;rw[v!];exact hA.aP,hA.ents,λy hy=>by
  rcases n! hy with q|q
  ·exact hA.each y q
  ·rw[q,W];exact⟨by show l.length<=1000;omega,aE.2⟩⟩
 have C:iC ltI (jL m l).length (jL m l)=jL m l/\(∀(k:Nat) x y,(jL m l)[k]?=some x->(jL m l)[k+1]?=some y->x≠y)/\(∀id∈jL m l,∃i,A.boxes.findIdx? (λb=>decide (b.id=id))=some i)/\(jL m l).length<=12:=by
  unfold jL;split
  ·exact⟨rfl,λk x y e=>by simp at e,λid e=>by simp at e,by simp⟩
  ·exact⟨ac.sorted,ac.nodup,ac.there,by rw[h!];exact ac.few⟩
 obtain⟨w9,h9,e9,a9,r9,f9,c9⟩:=UE ab bf (bu.nw (aK _) (Nw.bump 1 E)) C.2.2.2 (A.clock+1) C.1 C.2.1 C.2.2.1;have nb:(aI 1 E).next.nat=E.next.nat+1:=wH _ _;have n9:=c9.next;obtain⟨s,G⟩:∃s,s=h9.put E.next (some (O (N tEn true) (gu {mod:=A.clock+1,kind:=2,id:=m.id,how:=2}))):=⟨_,rfl⟩
 have ak:Ch (λj=>j=E.next) h9 s:=by rw[G];exact Ch.put _ _ rfl
 have ar:s.next=h9.next:=by rw[G];rfl
 have bl:Kn s E.next (O (N tEn true) (gu {mod:=A.clock+1,kind:=2,id:=m.id,how:=2})):=by rw[G];exact⟨jE _ _ _,by rw[jQ];omega⟩
 have bb:=a9.ch ak λj f e=>by have:=a8.lt j f;rw[e]at this;omega
 have br:=r9.ch (P':=λj=>(aI 1 E).next.nat<=j.nat) (aK _) ak λj _ q=>⟨q,λe=>by rw[e]at q;omega⟩
 have bv:Rws (λj=>j=E.next) (flat gu) 4 s (.slice E.next 0 1 (.kn 1)) [({mod:=A.clock+1,kind:=2,id:=m.id,how:=2}:En)]:=Kn.rws (l:= [({mod:=A.clock+1,kind:=2,id:=m.id,how:=2}:En)]) (by simpa using bl) (λ_=>rfl) (λ_ _ _ _ e=>by cases e;exact u! _);have bh:aaf w9 ((jL m l).map (jV (A.clock+1))).length:=by rw[h!];exact f9
 obtain⟨bN,az,ax,bn,al⟩:=aeU (el:=tEn) (bt:=32) br bh bv (by simp) (by simp;have:=C.2.2.2;omega);have aj:=bb.nw al;have bE:=al.next;have Lp:∀{g:Hp} {F:Pos->Prop} {B:Acc} {vl:V} {I:Pos->Prop},dG g F ps B pl ib cb fb vm vl I->aF (X ps 12) g=D (X pl 0) g:=λa=>a.st.ld (q:=12) rfl;have a4:s.next.nat=h9.next.nat:=by rw[ar]
 have bs:=bn.rows (P':=λj=>s.next.nat<=j.nat) (aK _) (λ_ _ q=>q.elim) λ_ q _=>q;obtain⟨bM,am,ag,ay,bc,ah,aL⟩:=aj.add bs (λj _ pj fj=>by have:=a8.lt j fj;rw[ar]at pj;omega) (c:=A.clock+1) (λe he=>by
  rcases F!.1 he with q|q
  ·obtain⟨id,_,rfl⟩:=x!.1 q;rfl
  ·simp at q;rw[q]) (λe he=>by have:=hL.mods e he;omega) (by rw[l!,h!];have:=C.2.2.2;show A.ents.length+_<=10000;simp;omega) (by simp)
 have ap:(H! l λa=>decide (([36,115,101,101,110]:List Nat)=a))=J9 l:=rfl;have ad:(H! m.keys λa=>decide (([36,115,101,101,110]:List Nat)=a))=J9 m.keys:=rfl;rw[ap]at e6;rw[ad]at e7;have N5:=azj aq M L;have fin:MO [X ps 0,iV m.id,v] h=D (iV 0) am:=by
  rw[as4];by_cases hs:J9 l=J9 m.keys
  ·rw[if_pos hs]at e8;obtain⟨rfl,rfl⟩:=e8;simp(disch:=omega)only[vvB,a!,reduceCtorEq,↓reduceIte,Uf,UX,UW,UU,UR,UQ,UO,UN,Rf,Q9,Q8,Q7,Q5,QZ,QY,QX,eG,e1,e2,L2,Ix,au,e3,e4,e5,L3,e6,aw,wG af.noF av,e7,aal,hs,S7,S8,e9,alT,aDR,<-G,ax,Lp aj,ahP (v:=X pl 0) rfl (Lp a9) (Lp ab),ay];simp only[aU,bW,vvB,a!,reduceCtorEq,↓reduceIte,bZ]<;>rfl
  ·rw[if_neg hs]at e8;simp(disch:=omega)only[vvB,a!,reduceCtorEq,↓reduceIte,Uf,UX,UW,UU,UR,UQ,UO,UN,Rf,Q9,Q8,Q7,Q5,adh,QZ,QY,QX,eG,e1,e2,L2,Ix,au,e3,e4,e5,L3,e6,aw,wG af.noF av,e7,aal,hs,N5,e8,S7,S8,e9,alT,aDR,<-G,ax,Lp aj,ahP (v:=X pl 0) rfl (Lp a9) (Lp ab),ay];simp only[aU,bW,vvB,a!,reduceCtorEq,↓reduceIte,bZ]<;>rfl
 refine⟨am,λj=>(F j\/bH w=some j)\/bH ag=some j,ag,λj=>I j\/bH w=some j,fin,?_,?_,?_⟩
 ·have:ajq A k m l={({A with clock:=A.clock+1,aP:=A.aP.set k m',boxes:=jK (A.clock+1) (jL m l) A.boxes}:Acc) with ents:=A.ents++((jL m l).map (jV (A.clock+1))++ [({mod:=A.clock+1,kind:=2,id:=m.id,how:=2}:En)])}:=by rw[W];rfl
  rw[this];exact bc
 ·have bz:=ah.next;have a4:s.next.nat=h9.next.nat:=by rw[ar]
  have hF:∀j:Pos,j.nat<h.next.nat->(F j\/bH w=some j)->F j:=λj hj q=>q.elim id λe=>by have:=(r2.eu e).1;omega
  refine⟨by omega,λj hj hn=>?_⟩;have bq:h2.get j=h.get j:=bd.get j hj (λq=>q)
  have q3:Z.get j=h2.get j:=c3.get j (by omega) λe=>hn (by rw[e];exact a.foot.1);have q6:Q.get j=Z.get j:=(J.trans c6).get j (by omega) λq=>q;have q8:E.get j=Q.get j:=c8.get j (by omega) λe=>hn (by rw[e];exact a.foot.2.2.2.1 im (by rw[ae];rfl));have qb:(aI 1 E).get j=E.get j:=rfl;have q9:h9.get j=(aI 1 E).get j:=c9.get j (by omega) λe=>hn (by rw[e];exact a.foot.2.2.1);have bo:s.get j=h9.get j:=ak.get j (by omega) λe=>by rw[e]at hj;omega
  have bp:az.get j=s.get j:=al.get j (by omega) λq=>q;have a7:am.get j=az.get j:=ah.get j (by omega) λq=>hn (hF j hj q);rw[a7,bp,bo,q9,qb,q8,q6,q3,bq]
 ·intro j q;rcases q with(q|q)|q
  ·exact .inl q
  ·exact .inr (by have:=(r2.eu q).1;omega)
  ·rcases aL j q with(q|q)|q
   ·exact .inl q
   ·exact .inr (by have:=(r2.eu q).1;omega)
   ·exact .inr (by omega)
end
section
variable{h h' g:Hp}{F I:Pos->Prop}{ps pl ib p:Pos}{A:Acc}{cb:Cap}{fb:Bool}{v vm vl:V}
theorem aAN{ents:List En}{k:Int}(lg:Kn h pl (O (.rw tLg true) [iV 10000,vl,iV k]))(o:dH 0 (λ_=>False) (flat gu) tEn 4 h vl ents)(m:ents= []->vl=.aQ)(P:ents.length<=10000):
  ∃h' a,Ul [X pl 0] h=D (X h.next 0) h'/\Kn h' h.next (O (.rw tLg true) [iV 10000,a,iV k])/\dH (h.next.nat+1) (λ_=>False) (flat gu) tEn 4 h' a ents/\(ents= []->a=.aQ)/\Nw h h':=by
 have N:=lg.ldN (n:=3) rfl;obtain⟨b,d⟩:∃b,b=h.new (O (.rw tLg true) [iV 10000,vl,iV k]):=⟨_,rfl⟩
 have B:aT 3 (X h.next 0) (.agg (V.ofList [iV 10000,vl,iV k])) (h.new (O (.rw tLg true) [(Y U 0),.aQ,(Y U 0)]))=D V.undef b:=by rw[d];exact iT (V.dO _) rfl rfl
 have t:Nw h b:=by rw[d];exact Nw.new _ _
 have J:Kn b h.next (O (.rw tLg true) [iV 10000,vl,iV k]):=by rw[d];exact Kn.new _ _
 have L:b.next.nat=h.next.nat+1:=by rw[d,bD]
 have z:=(lg.nw t).ld (q:=1) (x:=vl) rfl;obtain⟨a,c,e2,f,r,M⟩:∃a c,oz [vl] b=D a c/\dH (h.next.nat+1) (λ_=>False) (flat gu) tEn 4 c a ents/\Nw b c/\(ents= []->a=.aQ):=by
  by_cases s:ents= []
  ·rw[m s,s];exact⟨.aQ,b,anl b,dH.nil _ _ _ _ _ _,Nw.refl _,λ_=>rfl⟩
  ·obtain⟨w,c,e2,r2,r,f⟩:=apa (o.nw (aK _) t).aHZ (by omega);rcases f with f|f
   ·exact absurd f s
   ·exact⟨w,c,e2,by rw[<-L];exact f,r,λe=>absurd e s⟩
 have y:=J.nw r;obtain⟨l,i⟩:∃l,l=c.put h.next (some (O (.rw tLg true) [iV 10000,a,iV k])):=⟨_,rfl⟩
 have C:aT 1 (X h.next 1) a c=D V.undef l:=by rw[i];exact y.st (q:=1) f.cell (show 1<3 by omega)
 have u:Ch (λj=>j=h.next) c l:=by rw[i];exact Ch.put _ _ rfl
 rw[as8];simp(disch:=omega)only[vvB,a!,reduceCtorEq,↓reduceIte,adV,agt,ags,agr,agq,agp,eG,N,B,z,e2,C];refine⟨l,a,by simp only[aU,bW,vvB,a!,reduceCtorEq,↓reduceIte,bZ]<;>rfl,by rw[i];exact y.put _,f.ch (aK _) u (λj e E=>by have:=(f.eu e).1;rw[E]at this;omega) λ_ _ q=>q.elim,M,(t.trans r).then u λj G e=>by rw[e]at G;omega⟩
abbrev zSt:List V:= [(H []),(H []),(Y U 0),(Y U 0),(Y U 0),(Y U 0),(Y U 0),(Y U 0),(Y U 0),(Y U 0),.aQ,.aQ,.bP,(Y U 0),(Y U 0),(Y U 0)]
theorem an5(a:dG h F ps A pl ib cb fb vm vl I)(hA:A.Small):
  ∃h' qs F' aR w au ac a0 S I',Fe [X ps 0] h=D (X qs 0) h'/\dG h' F' qs A aR w au ac a0 S I'/\Nw h h'/\∀j,F' j->h.next.nat<=j.nat:=by
 have ab:=a.nw (Nw.bump 1 h);have nb:(aI 1 h).next.nat=h.next.nat+1:=wH _ _;obtain⟨vb,h5,e5,r5,c5,o5⟩:=OU ab hA;have Z:=ab.nw c5;obtain⟨x,M,e7,o7,c7⟩:=OT Z hA;have J:=Z.nw c7;have he:=hA.ents;obtain⟨k,S,aw,al,ao,a2,t⟩:=aAN J.lg J.en J.enil (by omega);have y:=J.nw t;have n5:=c5.next;have n7:=c7.next;have bb:=t.next;have az:A.boxes≠ []:=λe=>by have:=hA.boxes;rw[e]at this;simp at this
 obtain⟨w,ac,rfl,ah,ad⟩:=o5.open az;have a4:=(ad.nw c7).nw t;have ap:=o7.nw dw t;have Lp:∀{g:Hp} {F:Pos->Prop},dG g F ps A pl ib cb fb vm vl I->aF (X ps 12) g=D (X pl 0) g:=λa=>a.st.ld (q:=12) rfl;have C:∀{g:Hp} {F:Pos->Prop},dG g F ps A pl ib cb fb vm vl I->aF (X ps 13) g=D (iV A.lastBox) g:=λa=>a.st.ld (q:=13) rfl;have E:∀{g:Hp} {F:Pos->Prop},dG g F ps A pl ib cb fb vm vl I->aF (X ps 14) g=D (iV A.lastId) g:=λa=>a.st.ld (q:=14) rfl;have G:∀{g:Hp} {F:Pos->Prop},dG g F ps A pl ib cb fb vm vl I->aF (X ps 15) g=D (iV A.octets) g:=λa=>a.st.ld (q:=15) rfl;have N9:∀{g:Hp} {F:Pos->Prop},dG g F ps A pl ib cb fb vm vl I->bT 9 (X ps 0) g=D (.agg (V.ofList [H [117],H [112],iV 1000,iV 100,iV 1048576,iV 1073741824,iV 1073741824,iV 10000,iV 200])) g:=λ{g F} a=>by
  show dP g ps (λ_ cs=>match gm 9 (fB 0 cs) with|some l=>R.ok (V.agg (V.ofList l)) g|none=>.bad)=_;rw[dM (wr:=.rw tSt true) (all:=stC A ib cb vm pl) (by rw[a.st.1];rfl)];rfl
 obtain⟨W,P⟩:∃W:List V,W= [H [117],H [112],iV 1000,iV 100,iV 1048576,iV 1073741824,iV 1073741824,iV 10000,iV 200,iV 0,.slice w 0 A.boxes.length (.un 6),x,X M.next 0,iV A.lastBox,iV A.lastId,iV A.octets]:=⟨_,rfl⟩
 obtain⟨m,r⟩:∃m,m=k.put h.next (some (O (.rw tSt true) W)):=⟨_,rfl⟩
 have L:Ch (λj=>j=h.next) k m:=by rw[r];exact Ch.put _ _ rfl
 have an:m.next=k.next:=by rw[r];rfl
 have am:Kn m h.next (O (.rw tSt true) W):=by rw[r];exact⟨jE _ _ _,by rw[jQ];omega⟩
 have ar:=y.ch L λj f e=>by have:=a.lt j f;rw[e]at this;omega
 have ax:=Uw ar.st (q:=9) (n:=A.clock) rfl;obtain⟨u,ag⟩:=O9 (n:=A.clock) am (q:=9) (by rw[P];show 9<16;omega);obtain⟨d,s⟩:∃d,d=m.put h.next (some (O (.rw tSt true) (stC A w (.un 6) x M.next))):=⟨_,rfl⟩
 have ay:m.put h.next (some (O (.rw tSt true) (W.set 9 (iV A.clock))))=d:=by rw[s,P];rfl
 rw[ay]at ag;have aa:Ch (λj=>j=h.next) m d:=by rw[s];exact Ch.put _ _ rfl
 obtain⟨a9,xm,ba,sm⟩:=ap;have hB:bQ zSt [(0,9,.agg (V.ofList [H [117],H [112],iV 1000,iV 100,iV 1048576,iV 1073741824,iV 1073741824,iV 10000,iV 200])),(10,1,.slice w 0 A.boxes.length (.un 6)),(11,1,x),(12,1,X M.next 0),(13,1,iV A.lastBox),(14,1,iV A.lastId),(15,1,iV A.octets)] k=D (.agg (V.ofList W)) k:=by
  rw[P];rcases sm.is with⟨_,e⟩|⟨im,e,_⟩<;>rw[e]<;>rfl
 have hX:ahS tSt (.agg (V.ofList W))=some (O (.rw tSt true) W,λp=>X p 0):=by rw[P];rfl
 refine⟨d,h.next,λj=>h.next.nat<=j.nat/\j.nat<d.next.nat,M.next,w,.un 6,ac,x,S,λj=>h5.next.nat<=j.nat/\j.nat<M.next.nat/\bH x≠some j,?_,?_,?_,λj q=>q.1⟩
 ·rw[as6];simp(disch:=omega)only[vvB,a!,reduceCtorEq,↓reduceIte,adT,agl,agk,agj,agi,agh,eG,e5,e7,Lp J,ahP (v:=X pl 0) rfl (Lp Z) (Lp ab),aw,N9 y,aml (v:=.agg (V.ofList [H [117],H [112],iV 1000,iV 100,iV 1048576,iV 1073741824,iV 1073741824,iV 10000,iV 200])) rfl (N9 J) (N9 Z) (N9 ab),C y,aml (v:=iV A.lastBox) rfl (C J) (C Z) (C ab),E y,aml (v:=iV A.lastId) rfl (E J) (E Z) (E ab),G y,aml (v:=iV A.octets) rfl (G J) (G Z) (G ab),hB,hX,<-r,ax,ag];simp only[aU,bW,vvB,a!,reduceCtorEq,↓reduceIte,bZ]<;>rfl
 ·have aM:d.next=k.next:=by rw[s,jQ,an]
  have a8:d.next.nat=k.next.nat:=by rw[aM]
  have a6:m.next.nat=k.next.nat:=by rw[an]
  have B:Ch (λj=>j=h.next) M d:=(t.ch.trans L λ_ _ q=>q).trans aa λ_ _ q=>q;have z:Ch (λj=>j=h.next) k d:=L.trans aa λ_ _ q=>q;have ae:Ch (λj=>j=h.next) h5 d:=(Nw.ch c7).trans B λ_ _ q=>q;obtain⟨af,a1,ak,aq⟩:=o7;have Q:∀j,bH S=some j->M.next.nat+1<=j.nat/\j.nat<k.next.nat:=λj e=>ao.eu e;have aj:∀j,bH x=some j->h5.next.nat<=j.nat/\j.nat<M.next.nat:=λj e=>aq.eu e;have ai:=ad.2;have a3:=al.2;refine⟨?_,?_,?_,?_,?_,?_,?_,?_,?_,?_,?_,?_,?_⟩
  ·rw[s];exact am.put _
  ·exact al.ch z λe=>by have:=congrArg Pos.nat e;omega
  ·exact ad.ch ae λe=>by rw[e]at ah;omega
  ·intro i o n c e;cases e;rfl
  ·refine⟨af,a1.mono λ_ _ e=>dw e B λj hj q=>⟨⟨q.1,hj,q.2⟩,λe=>by rw[e]at q;omega⟩,ak,?_⟩;rcases aq.is with⟨h0,e⟩|⟨i,e,aD,aE,f,hg⟩
   ·exact .inl ⟨List.length_eq_zero_iff.1 h0,e⟩
   ·refine .inr ⟨i,f,[],e,?_⟩;rw[List.append_nil];exact(show Kn M i _ from⟨hg,aE⟩).ch B λe=>by rw[e]at aD;omega
  ·obtain⟨av,xl,aL,sl⟩:=ao;exact⟨av,xl.mono λ_ _ e=>e,aL,(sl.ch z λj e b=>by have:=(sl.eu e).1;rw[b]at this;omega).base λ_ _=>C! _⟩
  ·exact⟨λe=>by have:=congrArg Pos.nat e;omega,λe=>by rw[<-e]at ah;omega,λe=>by rw[<-e]at ai;omega⟩
  ·intro j e;have:=aj j e;exact⟨λb=>by rw[b]at this;omega,λb=>by rw[b]at this;omega,λb=>by rw[b]at this;omega,λb=>by have:=Q j b;omega⟩
  ·intro j e;have:=Q j e;exact⟨λb=>by rw[b]at this;omega,λb=>by rw[b]at this;omega,λb=>by rw[b]at this;omega⟩
  ·rintro j ⟨q1,q2,q3⟩;exact⟨⟨by omega,by omega⟩,λb=>by rw[b]at q1;omega,λb=>by rw[b]at q2;omega,λb=>by rw[b]at q1;omega,q3,λb=>by have:=Q j b;omega⟩
  ·exact⟨⟨u! _,by omega⟩,⟨by omega,by omega⟩,⟨by omega,by omega⟩,λj e=>by have:=aj j e;exact⟨by omega,by omega⟩,λj e=>by have:=Q j e;exact⟨by omega,by omega⟩⟩
  ·exact λj q=>q.2
  ·exact a2
 ·exact((((Nw.bump 1 h).trans c5).trans c7).trans t).then (L.trans aa λ_ _ q=>q) λj hj e=>by rw[e]at hj;omega
end
section
variable{h h' g:Hp}{F o I p:Pos->Prop}{ps qs pl ib pl2 f:Pos}{A B:Acc}{cb m:Cap}{fb d:Bool}{vm vl i l:V}
theorem aDd(a:dG h F ps A pl ib cb fb vm vl I)(b:dG h o qs B pl2 f m d i l p)(hB:B.Small):
  ∃u h' F' ag af ac ad aj ah I',SH [X ps 0,X qs 0] h=D u h'/\dG h' F' ps B ag af ac ad aj ah I'/\Ch (λj=>j=ps) h h'/\∀j,F' j->j=ps\/h.next.nat<=j.nat:=by
 obtain⟨M,rs,F3,t,s,z,ae,v,ai,I3,e1,c,n1,G⟩:=an5 b hB;have a1:=a.nw n1;have ak:=a.st.2;have r:∀j,F3 j->j≠ps:=λj q e=>by have:=G j q;rw[e]at this;omega
 have vc:=c.ml.rws.cell;have L:∀{g:Hp} (J:Ch (λj=>j=ps) M g),Kn g rs (O (N tSt true) (stC B s z v t)):=λJ=>c.st.ch J (r _ c.foot.1);have step:∀{g:Hp} {cs:List V} {q:Nat} {y:V},Kn g ps (O (N tSt true) cs)->y.cells= [y]/\ja y=true->q<cs.length->Ch (λj=>j=ps) M g->
   ∃g',aT 1 (X ps q) y g=D V.undef g'/\Kn g' ps (O (N tSt true) (cs.set q y))/\Ch (λj=>j=ps) M g':=λk hy hq J=>⟨_,k.st hy hq,k.put _,J.trans (Ch.put (S:=λj=>j=ps) _ _ rfl) λ_ _ q=>q⟩
 obtain⟨g1,S1,k1,d1⟩:=step (q:=10) (y:=.slice s 0 B.boxes.length z) a1.st ⟨rfl,rfl⟩ (show 10<16 by omega) (Ch.refl _ _);obtain⟨g2,S2,k2,d2⟩:=step (q:=11) (y:=v) k1 vc (show 11<16 by omega) d1;obtain⟨g3,S3,k3,d3⟩:=step (q:=12) (y:=X t 0) k2 ⟨rfl,rfl⟩ (show 12<16 by omega) d2;obtain⟨g4,S4,k4,d4⟩:=step (q:=13) (y:=iV B.lastBox) k3 ⟨rfl,rfl⟩ (show 13<16 by omega) d3;obtain⟨g5,S5,k5,d5⟩:=step (q:=14) (y:=iV B.lastId) k4 ⟨rfl,rfl⟩ (show 14<16 by omega) d4;obtain⟨g6,S6,k6,d6⟩:=step (q:=15) (y:=iV B.octets) k5 ⟨rfl,rfl⟩ (show 15<16 by omega) d5;have P:=(L (Ch.refl _ _)).ld (q:=10) rfl;have Q:=(L (Ch.refl _ _)).ld (q:=11) (x:=v) rfl;have W:=(L (Ch.refl _ _)).ld (q:=12) rfl;have Z:=(L (Ch.refl _ _)).ld (q:=13) (x:=iV B.lastBox) rfl;have aa:=(L (Ch.refl _ _)).ld (q:=14) (x:=iV B.lastId) rfl;have ab:=(L (Ch.refl _ _)).ld (q:=15) (x:=iV B.octets) rfl;have L9:=Uw (L d6) (q:=9) (n:=B.clock) rfl;obtain⟨u,S7⟩:=O9 (n:=B.clock) k6 (q:=9) (show 9<16 by omega);obtain⟨E,C⟩:∃E,E=g6.put ps (some (O (N tSt true) (stC B s z v t))):=⟨_,rfl⟩
 have e7:g6.put ps (some (O (N tSt true) ((((((((stC A ib cb vm pl).set 10 (.slice s 0 B.boxes.length z)).set 11 v).set 12 (X t 0)).set 13 (iV B.lastBox)).set 14 (iV B.lastId)).set 15 (iV B.octets)).set 9 (iV B.clock))))=E:=by rw[C];rfl
 rw[e7]at S7;have d7:Ch (λj=>j=ps) M E:=by rw[C];exact d6.trans (Ch.put (S:=λj=>j=ps) _ _ rfl) λ_ _ q=>q
 have k7:Kn E ps (O (N tSt true) (stC B s z v t)):=by rw[C];exact k6.put _
 have w:=c.ch d7 r;refine⟨V.undef,E,λj=>j=ps\/F3 j,t,s,z,ae,v,ai,I3,?_,?_,?_,λj q=>q.imp id (G j)⟩
 ·rw[auq];simp(disch:=omega)only[vvB,a!,reduceCtorEq,↓reduceIte,ail,aky,akx,akw,e1,P,Q,W,Z,aa,ab,S1,S2,S3,S4,S5,S6,L9,S7];rfl
 ·refine⟨k7,w.lg,w.bx,w.cap,w.ml,w.en,⟨λe=>r t c.foot.2.1 e.symm,λe=>r s c.foot.2.2.1 e.symm,w.ne.2.2⟩,λj e=>⟨r j (c.foot.2.2.2.1 j e),(w.nm j e).2⟩,λj e=>⟨r j (c.foot.2.2.2.2 j e),(w.nl j e).2⟩,λj q=>⟨.inr (w.inn j q).1,r j (w.inn j q).1,(w.inn j q).2.2⟩,⟨.inl rfl,.inr c.foot.2.1,.inr c.foot.2.2.1,λj e=>.inr (c.foot.2.2.2.1 j e),λj e=>.inr (c.foot.2.2.2.2 j e)⟩,λj q=>q.elim (λe=>by rw[e];exact k7.2) (w.lt j),w.enil⟩
 ·exact(n1.ch).trans d7 λ_ _ q=>q
end
end Go.Proofs.Im
