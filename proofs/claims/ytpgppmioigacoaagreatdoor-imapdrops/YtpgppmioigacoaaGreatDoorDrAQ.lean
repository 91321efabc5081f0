/- Lemmas that the claim's last text uses. No conditions. -/
import Derived.Test.YtpgppmioigacoaaGreatDoorDrAP
import Derived.Test.YtpgppmioigacoaaGreatDoorDrAN
set_option linter.all false
set_option maxRecDepth 100000
open Nat renaming reduceEqDiff→a!,le_trans→p!,lt_of_lt_of_le→z!,zero_add→E!,le_refl→F!
open List renaming getElem?_eq_some_iff→b!,getElem?_eq_getElem→d!,drop_eq_getElem_cons→g!,map_append→h!,length_map→i!,take_length→j!,mem_append→k!,mem_of_getElem?→l!,mem_singleton→n!,length_append→o!,eraseIdx_eq_take_drop_succ→q!,length_take→r!,length_eraseIdx_of_lt→t!,mem_of_mem_eraseIdx→u!,take_of_length_le→v!,mem_map→w!,length_filter_le→x!,filter_append→y!,getElem?_map→A!,find?_append→B!,append_assoc→C!,length_cons→D!
open Go.Vm.Pos renaming of→c!
open Go.Proofs.Tryz renaming prog→e!
open Go.Vm.V renaming int→Y,ptr→X,bool→K,str→H
open Go.IntKind renaming i64→U
open Go.Vm.Ob renaming cells→O
open Go.Vm.Wr renaming rw→N
open Go.Vm.R renaming ok→D
noncomputable section
open Go.Vm Go Go.Proofs Go.Im Go.Proofs.Im Go.Ln
namespace Go.Im
theorem _root_.Go.Vm.All2.eraseIdx{α:Type}{R:α->List V->Prop}{l:List α}{cs:List (List V)}(a:All2 R l cs)(n:Nat):All2 R (l.eraseIdx n) (cs.eraseIdx n):=by
 rw[q!,q!];exact(a.take n).append (a.drop (n+1))
def FD(A:Acc)(k:Nat)(m:Ml):Int:=if(A.aP.eraseIdx k).any (λx=>decide (x.thread=m.thread)) then 2 else 3
def Jl(A:Acc)(k:Nat)(m:Ml):Acc:=
 {clock:=A.clock+1
  aP:=A.aP.eraseIdx k
  boxes:=jK (A.clock+1) (m.mem.map (·.1)) A.boxes
  ents:=A.ents++((m.mem.map (·.1)).map (jV (A.clock+1))++ [(⟨A.clock+1,2,m.id,3⟩:En),⟨A.clock+1,3,m.thread,FD A k m⟩])
  floor:=A.floor
  lastBox:=A.lastBox
  lastId:=A.lastId
  octets:=A.octets - (m.text.length:Int)}
end Go.Im
namespace Go.Proofs.Im
section
variable{h h' g:Hp}{F I:Pos->Prop}{ps pl ib p:Pos}{A:Acc}{cb:Cap}{fb:Bool}{v vm vl:V}
theorem dG.aKj(a:dG h F ps A pl ib cb fb vm vl I){k:Nat}{im:Pos}{f:Bool}{d:List V}{b:List (List V)}(e:vm=.slice im 0 A.aP.length (.un 8))(x:All2 (jf I h) A.aP b)
  (w:∀c∈b,c.length=8) (u:k<A.aP.length) (y:Kn g im (O (N tMl f) ((b.eraseIdx k).flatten++d))) (c:Ch (λj=>j=im) h g):
  dG (g.put ps (some (O (N tSt true) (stC A ib cb (.slice im 0 (A.aP.length - 1) (.un 8)) pl)))) F ps {A with aP:=A.aP.eraseIdx k} pl ib cb fb (.slice im 0 (A.aP.length - 1) (.un 8)) vl I:=by
 have i:bH vm=some im:=by rw[e];rfl
 have nm:=a.nm im i;have ks:Kn g ps (O (N tSt true) (stC A ib cb vm pl)):=a.st.ch c λe=>nm.1 e.symm;have r:Ch (λj=>j=ps) g (g.put ps (some (O (N tSt true) (stC A ib cb (.slice im 0 (A.aP.length - 1) (.un 8)) pl)))):=Ch.put _ _ rfl;have ca:Ch (λj=>j=im\/j=ps) h (g.put ps (some (O (N tSt true) (stC A ib cb (.slice im 0 (A.aP.length - 1) (.un 8)) pl)))):=(c.mono λ_ _ e=>.inl e).trans r λ_ _ e=>.inr e;have ne:=a.ne;refine⟨ks.put _,a.lg.ch ca λe=>e.elim (λe=>nm.2.1 e.symm) λe=>ne.1 e.symm,a.bx.ch ca λe=>e.elim (λe=>nm.2.2.1 e.symm) λe=>ne.2.1 e.symm,a.cap,?_,?_,a.ne,?_,a.nl,?_,?_,?_,a.enil⟩
 ·have s:∀j,I j->¬(j=im\/j=ps):=λj q e=>e.elim (λe=>(a.inn j q).2.2.2.2.1 (by rw[e];exact i)) (a.inn j q).2.1;have o:∀c∈b.eraseIdx k,c.length=8:=λc t=>w c (u! t);refine⟨b.eraseIdx k,(x.eraseIdx k).mono λ_ _ e=>dw e ca λj _ q=>⟨q,s j q⟩,o,.inr ⟨im,f,d,?_,y.ch r nm.1⟩⟩;rw[t! u]
 ·obtain⟨l,B,n,z⟩:=a.en;exact⟨l,B.mono λ_ _ e=>e,n,z.ch ca λj m e=>e.elim (λe=>by rw[e]at m;exact nm.2.2.2 m) (a.nl j m).1⟩
 ·intro j q;cases q;exact nm
 ·intro j q;have:=a.inn j q;rw[i]at this;exact this
 ·exact⟨a.foot.1,a.foot.2.1,a.foot.2.2.1,λj q=>by cases q;exact a.foot.2.2.2.1 im i,a.foot.2.2.2.2⟩
 ·exact λj q=>z! (a.lt j q) ca.next
theorem aoN{m:Ml}{vk vs:V}{p:Pos}{w:Wr}{x:Ml}{a xs:V}(k:Kn g p (O w (dB m vk vs))):xJ [.agg (V.ofList (dB x a xs)),X p 0] g=D (K (decide (x.thread=m.thread))) (g.new (O (N tMl true) (dB x a xs))):=by
 have e1:=(Kn.new g (O (N tMl true) (dB x a xs))).ld (q:=1) (x:=iV x.thread) rfl;have e2:=(k.add (O (N tMl true) (dB x a xs))).ld (q:=1) (x:=iV m.thread) rfl;rw[aiA];simp only[vvB,a!,reduceCtorEq,↓reduceIte,NP,TL,TK,V.dD,e1,e2];simp only[aU,bW,vvB,a!,reduceCtorEq,↓reduceIte,bZ]
theorem amo(p:Pos)(x:V)(g:Hp):dK kK (.func (.func acd) .nil (.cons (X p 0) .nil)) [x] g=xJ [x,X p 0] g:=(rfl)
abbrev aKO:List V:= [(Y U 0),(Y U 0),(Y U 0),(Y U 0),(Y U 0),(Y U 0),(Y U 0),(Y U 0)]
theorem ayr(a b c d a' b' e f:Int):eH tEn aKO 2 [(0,4,.agg (V.ofList (gu {mod:=a,kind:=b,id:=c,how:=d}))),(4,4,.agg (V.ofList (gu {mod:=a',kind:=b',id:=e,how:=f})))]=
  some (O (N tEn true) (([({mod:=a,kind:=b,id:=c,how:=d}:En),{mod:=a',kind:=b',id:=e,how:=f}].map gu).flatten),λp=>.slice p 0 2 (.kn 2)):=(rfl)
theorem arX(a:dG h F ps A pl ib cb fb vm vl I)(C:A.Small)(hL:A.Logged){k:Nat}{m:Ml}(hm:A.aP[k]?=some m)(hf:A.aP.findIdx? (λx=>decide (x.id=m.id))=some k)(t:m.In A)(aL:A.ents.length<=8000)(bp:A.clock<900000)(ho:0<=A.octets/\A.octets<1000000000)(bq:m.text.length<1000000000):
  ∃h' F' bl M I',Aq [X ps 0,iV m.id] h=D (iV 0) h'/\dG h' F' ps (Jl A k m) pl ib cb fb bl M I'/\Ch F h h'/\∀j,F' j->F j\/h.next.nat<=j.nat:=by
 have a0:=C.each m (l! hm);have hk:=(b!.1 hm).1;have ax:=C.aP;obtain⟨h1,e1,c1⟩:=an4 a C m.id;rw[hf]at e1;simp only[gK]at e1;have a1:=a.nw c1;have e4:=ac0 a1 C;have e5:=acZ a1 C;obtain⟨s,ac⟩:∃s,s=h1.put ps (some (O (N tSt true) (stC {A with clock:=A.clock+1} ib cb vm pl))):=⟨_,rfl⟩
 rw[<-ac]at e5;have a3:dG s F ps {A with clock:=A.clock+1} pl ib cb fb vm vl I:=by rw[ac];exact a1.aep rfl rfl rfl rfl
 have c3:Ch (λj=>j=ps) h1 s:=by rw[ac];exact Ch.put _ _ rfl
 have n1:=c1.next;have n3:=c3.next;obtain⟨im,f,rest,ak,vk,vs,a2,km,x,hw,hc,rk,rs⟩:=a3.aBT (m:=m) hm;have L3:=a3.st.ld (q:=11) (x:=vm) rfl;have Ix:=λg=>uV (sz:=8) (i:=im) (c:=.un 8) hk g;have u:vm=.slice im 0 A.aP.length (.un 8):=a2;rw[<-u]at Ix;have N3:=azj km hw hc;obtain⟨h4,ad⟩:∃h4,h4=s.new (O (N tMl true) (dB m vk vs)):=⟨_,rfl⟩
 have S4:aT 8 (X s.next 0) (.agg (V.ofList (dB m vk vs))) (s.new (O (N tMl true) zMl))=D V.undef h4:=by rw[ad];exact iT (V.dO _) rfl rfl
 have c4:Nw s h4:=by rw[ad];exact Nw.new _ _
 have k4:Kn h4 s.next (O (N tMl true) (dB m vk vs)):=by rw[ad];exact Kn.new _ _
 have n4:=c4.next;have a4:=a3.nw c4;have a8:=km.nw c4;have L4:=a4.st.ld (q:=11) (x:=vm) rfl;have ar:ak.length=A.aP.length:=x.len;obtain⟨h5,bj,e6,k5,c5⟩:=ao7 (i:=k) a8 hw (by omega) (by have:=C.aP;omega);rw[ar,<-u]at e6;have x4:All2 (jf I h4) A.aP ak:=x.mono λ_ _ e=>dw e c4 λj _ q=>⟨q,λq=>q⟩
 obtain⟨G,ae⟩:∃G,G=h5.put ps (some (O (N tSt true) (stC {A with clock:=A.clock+1} ib cb (.slice im 0 (A.aP.length - 1) (.un 8)) pl))):=⟨_,rfl⟩
 have ag:bH vm=some im:=by rw[u];rfl
 have nm:=a.nm im ag;have ba:Kn h5 ps (O (N tSt true) (stC {A with clock:=A.clock+1} ib cb vm pl)):=a4.st.ch c5 λe=>nm.1 e.symm;have S6:aT 1 (X ps 11) (.slice im 0 (A.aP.length - 1) (.un 8)) h5=D V.undef G:=by rw[ae];exact ba.st (q:=11) ⟨rfl,rfl⟩ (show 11<16 by omega)
 have a6:=a4.aKj (k:=k) u x4 hw hk k5 c5;have au:h5.put ps (some (O (N tSt true) (stC {A with clock:=A.clock+1} ib cb (.slice im 0 (A.aP.length - 1) (.un 8)) pl)))=G:=ae.symm;rw[au]at a6;have c6:Ch (λj=>j=ps) h5 G:=by rw[ae];exact Ch.put _ _ rfl
 have n5:=c5.next;have n6:=c6.next;have k6:=(k4.ch c5 λe=>by have:=km.2;rw[<-e]at this;omega).ch c6 λe=>by have:=a3.st.2;rw[<-e]at this;omega
 have L6:=a6.st.ld (q:=15) (x:=iV A.octets) rfl;have T6:=k6.ld (q:=2) (x:=H m.text) rfl;obtain⟨h7,af⟩:∃h7,h7=G.put ps (some (O (N tSt true) (stC {A with clock:=A.clock+1,octets:=A.octets - (m.text.length:Int)} ib cb (.slice im 0 (A.aP.length - 1) (.un 8)) pl))):=⟨_,rfl⟩
 have S7:aT 1 (X ps 15) (iV (A.octets - (m.text.length:Int))) G=D V.undef h7:=by rw[af];exact a6.st.st (q:=15) ⟨rfl,rfl⟩ (show 15<16 by omega)
 have a7:dG h7 F ps {A with clock:=A.clock+1,aP:=A.aP.eraseIdx k,octets:=A.octets - (m.text.length:Int)} pl ib cb fb (.slice im 0 (A.aP.length - 1) (.un 8)) vl I:=by
  rw[af];exact a6.aep (B:={A with clock:=A.clock+1,aP:=A.aP.eraseIdx k,octets:=A.octets - (m.text.length:Int)}) rfl rfl rfl rfl
 have c7:Ch (λj=>j=ps) G h7:=by rw[af];exact Ch.put _ _ rfl
 have n7:=c7.next;have k7:=k6.ch c7 λe=>by have:=a3.st.2;rw[<-e]at this;omega
 have ap:({A with clock:=A.clock+1,aP:=A.aP.eraseIdx k,octets:=A.octets - (m.text.length:Int)}:Acc).Small:=⟨by have:=C.clock;exact⟨by show 0<=A.clock+1;omega,by show A.clock+1<1000000;omega⟩,C.boxes,by show(A.aP.eraseIdx k).length<=1000;rw[t! hk];have:=C.aP;omega,C.ents,λy hy=>C.each y (u! hy)⟩
 have L7:=a7.st.ld (q:=11) rfl;obtain⟨w,e8,c8⟩:=abZ a7.ml.rws dw (λy=>decide (y.thread=m.thread)) (by have:=ap.aP;omega) (f:=.func (.func acd) .nil (.cons (X s.next 0) .nil)) (λy cs g _ cg e _=>by
  obtain⟨yk,ys,rfl,-,-⟩:=e;rw[amo,aoN (k7.nw cg)];exact⟨_,rfl,Nw.new _ _⟩)
 have k8:=k7.nw c8;have n8:=c8.next;have ab:=(a7.nw c8).nw (Nw.bump 1 w);have kb:=k8.bump 1;have nb:(aI 1 w).next.nat=w.next.nat+1:=wH _ _;have aD:Ch F s (aI 1 w):=by
  refine⟨by omega,λj hj z=>?_⟩;have q4:=c4.get j hj λq=>q
  have q5:=c5.get j (by omega) λe=>z (by rw[e];exact a.foot.2.2.2.1 im ag);have q6:=c6.get j (by omega) λe=>z (by rw[e];exact a.foot.1);have q7:=c7.get j (by omega) λe=>z (by rw[e];exact a.foot.1);have q8:=c8.get j (by omega) λq=>q;show w.get j=_;rw[q8,q7,q6,q5,q4]
 have aq:∀j,I j->¬(j=im\/j=ps):=λj q e=>e.elim (λe=>(a.inn j q).2.2.2.2.1 (by rw[e];exact ag)) (a.inn j q).2.1;have aj:Ch (λj=>j=im\/j=ps) s (aI 1 w):=by
  refine⟨by omega,λj hj z=>?_⟩;have q4:=c4.get j hj λq=>q
  have q5:=c5.get j (by omega) λe=>z (.inl e);have q6:=c6.get j (by omega) λe=>z (.inr e);have q7:=c7.get j (by omega) λe=>z (.inr e);have q8:=c8.get j (by omega) λq=>q;show w.get j=_;rw[q8,q7,q6,q5,q4]
 have xm:jf I (aI 1 w) m (dB m vk vs):=⟨vk,vs,rfl,rk.ch (aK _) aj λj _ q=>⟨q,aq j q⟩,rs.ch (aK _) aj λj _ q=>⟨q,aq j q⟩⟩
 obtain⟨wi,h9,e9,o9,c9⟩:=afv xm a0.2;have a9:=ab.nw c9;have n9:=c9.next;have bn:=t;obtain⟨bm,J,al,Q,bg,aE,W⟩:=UE a9 ap (o9.rws (aK _)) (by rw[i!];exact t.few) (A.clock+1) t.sorted t.nodup t.there;have br:=W.next;have aw:Kn J s.next (O (N tMl true) (dB m vk vs)):=(kb.nw c9).ch W λe=>by have:=a3.bx.2;rw[<-e]at this;omega
 obtain⟨how,E⟩:∃how,how=FD A k m:=⟨_,rfl⟩
 obtain⟨o,b⟩:∃o:List En,o= [({mod:=A.clock+1,kind:=2,id:=m.id,how:=3}:En),{mod:=A.clock+1,kind:=3,id:=m.thread,how:=how}]:=⟨_,rfl⟩
 obtain⟨r,d⟩:∃r,r=J.put w.next (some (O (N tEn true) (o.map gu).flatten)):=⟨_,rfl⟩
 have Z:Ch (λj=>j=w.next) J r:=by rw[d];exact Ch.put _ _ rfl
 have bs:r.next.nat=J.next.nat:=by rw[d];rfl
 have a5:Kn r w.next (O (N tEn true) (o.map gu).flatten):=by rw[d];exact⟨jE _ _ _,by rw[jQ];omega⟩
 have ay:=Q.ch Z λj f e=>by have:=a7.lt j f;rw[e]at this;omega
 have bh:=bg.ch (P':=λj=>h9.next.nat<=j.nat) (aK _) Z λj _ q=>⟨q,λe=>by rw[e]at q;omega⟩
 have L:o.length=2:=by rw[b];rfl
 have bk:Rws (λj=>j=w.next) (flat gu) 4 r (.slice w.next 0 2 (.kn 2)) o:=by
  have:=Kn.rws (c:=gu) (l:=o) (cp:=.kn 2) (sz:=4) a5 (λ_=>rfl) (λ_ _ _ _ e=>by cases e;exact Nat.le_of_eq L);rwa[L]at this
 have aM:aaf bm ((m.mem.map (·.1)).map (jV (A.clock+1))).length:=by rw[i!];exact aE
 obtain⟨bz,bo,am,bb,aa⟩:=aeU (el:=tEn) (bt:=32) bh aM bk (by rw[b];simp) (by rw[L];simp;have:=t.few;omega);have S:=ay.nw aa;have bu:=aa.next;have P:∀{g:Hp} {F:Pos->Prop} {B:Acc} {vm vl:V} {I:Pos->Prop},dG g F ps B pl ib cb fb vm vl I->aF (X ps 12) g=D (X pl 0) g:=λa=>a.st.ld (q:=12) rfl;have Th:∀{g:Hp},Kn g s.next (O (N tMl true) (dB m vk vs))->aF (X s.next 1) g=D (iV m.thread) g:=λk=>k.ld (q:=1) rfl;have bi:=bb.rows (P':=λj=>r.next.nat<=j.nat) (aK _) (λ_ _ q=>q.elim) λ_ q _=>q;obtain⟨bw,ao,M,an,az,ai,av⟩:=S.add bi (λj _ pj fj=>by have:=a7.lt j fj;omega) (c:=A.clock+1) (λe he=>by
  rcases k!.1 he with q|q
  ·obtain⟨id,_,rfl⟩:=w!.1 q;rfl
  ·rw[b]at q;simp at q;rcases q with q|q<;>rw[q]) (λe he=>by have:=hL.mods e he;omega) (by rw[o!,i!,L];have:=t.few;show A.ents.length+_<=10000;simp;omega) (by rw[b];simp)
 have bv:=ai.next;have Nb:=kb.ldN (n:=8) rfl;have aR:aZ 1 (H m.text) G=D (Y U (m.text.length:Int)) G:=acy _;have fin:Aq [X ps 0,iV m.id] h=D (iV 0) ao:=by
  rw[alx];by_cases ht:(A.aP.eraseIdx k).any (λx=>decide (x.thread=m.thread))=true
  ·have ah:how=2:=by rw[E];unfold FD;rw[if_pos ht]
   rw[ht]at e8;rw[ah]at b;rw[b]at d;simp(disch:=omega)only[vvB,a!,reduceCtorEq,↓reduceIte,GZ,JC,JB,JA,Jz,Jy,Jw,Jv,F9,F8,F7,F6,TM,FZ,FY,eG,e1,e4,e5,L3,Ix,N3,S4,L4,e6,S6,L6,T6,S7,L7,e8,Nb,e9,al,alT,Th aw,ahP (v:=iV m.thread) rfl (Th (kb.nw c9)) (Th kb),ayr,<-d,am,P S,aml (v:=X pl 0) rfl (P Q) (P a9) (P ab),an];simp only[aU,bW,vvB,a!,reduceCtorEq,↓reduceIte,bZ]<;>rfl
  ·have ah:how=3:=by rw[E];unfold FD;rw[if_neg ht]
   rw[show(A.aP.eraseIdx k).any (λx=>decide (x.thread=m.thread))=false by simpa using ht]at e8;rw[ah]at b;rw[b]at d;simp(disch:=omega)only[vvB,a!,reduceCtorEq,↓reduceIte,GZ,JC,JB,JA,Jz,Jy,Jw,Jv,F9,F8,F7,F6,FZ,FY,eG,e1,e4,e5,L3,Ix,N3,S4,L4,e6,S6,L6,T6,S7,L7,e8,Nb,e9,al,alT,Th aw,ahP (v:=iV m.thread) rfl (Th (kb.nw c9)) (Th kb),ayr,<-d,am,P S,aml (v:=X pl 0) rfl (P Q) (P a9) (P ab),an];simp only[aU,bW,vvB,a!,reduceCtorEq,↓reduceIte,bZ]<;>rfl
 refine⟨ao,λj=>F j\/bH M=some j,.slice im 0 (A.aP.length - 1) (.un 8),M,I,fin,?_,?_,?_⟩
 ·have:Jl A k m={({A with clock:=A.clock+1,aP:=A.aP.eraseIdx k,octets:=A.octets - (m.text.length:Int),boxes:=jK (A.clock+1) (m.mem.map (·.1)) A.boxes}:Acc) with ents:=A.ents++((m.mem.map (·.1)).map (jV (A.clock+1))++o)}:=by rw[b,E];rfl
  rw[this];exact az
 ·refine⟨by omega,λj hj z=>?_⟩;have q1:=c1.get j hj λq=>q
  have q3:=c3.get j (by omega) λe=>z (by rw[e];exact a.foot.1);have qb:=aD.get j (by omega) z;have q9:=c9.get j (by omega) λq=>q;have bc:=W.get j (by omega) λe=>z (by rw[e];exact a.foot.2.2.1);have bd:=Z.get j (by omega) λe=>by rw[e]at hj;omega
  have be:=aa.get j (by omega) λq=>q;have bf:=ai.get j (by omega) z;rw[bf,be,bd,bc,q9,qb,q3,q1]
 ·intro j q;rcases q with q|q
  ·exact .inl q
  ·rcases av j q with q|q
   ·exact .inl q
   ·exact .inr (by omega)
end
end Go.Proofs.Im
namespace Go.Im
def Wn(l:List Ml)(box:Int):List (Int×Ml):=l.flatMap λm=>(m.mem.filter λx=>decide (x.1=box)).map λx=>(x.2,m)
def thC(x:Int×Ml)(vk vs:V):List V:=iV x.1::dB x.2 vk vs
def CQ:El (Int×Ml):=λP h x cs=>∃vk vs,cs=thC x vk vs/\Rws P (flat ji) 1 h vk x.2.keys/\Rws P (flat fD) 2 h vs x.2.mem
theorem dV:CQ.Stable:=λ⟨vk,vm,e,a,b⟩ c d=>⟨vk,vm,e,a.ch (aK _) c d,b.ch (aK _) c d⟩
theorem aIC{l:List Ml}{box:Int}(b:∀m∈l,m.mem.length<=1000):(Wn l box).length<=l.length*1000:=by
 induction l with
 |nil=>simp[Wn]
 |cons a l c=>
  have:=c λm q=>b m (by simp[q]);have d:=b a (by simp);have e:(a.mem.filter λx=>decide (x.1=box)).length<=a.mem.length:=x! _ _;simp only[Wn,List.flatMap_cons,o!,i!,D!] at*;omega
theorem aEW(l:List Ml)(m:Ml)(box:Int):Wn (l++ [m]) box=Wn l box++(m.mem.filter λx=>decide (x.1=box)).map λx=>(x.2,m):=by simp[Wn]
end Go.Im
namespace Go.Vm
theorem dH.wide{α:Type}{b b':Nat}{P P':Pos->Prop}{E:El α}{el:TypeId}{w:Nat}{h:Hp}{v:V}{l:List α}(r:dH b P E el w h v l)(d:E.Stable)(hb:b'<=b)(f:∀j:Pos,j.nat<h.next.nat->P j->P' j):dH b' P' E el w h v l:=by
 obtain⟨c,a,i,s⟩:=r.mono d f;exact⟨c,a,i,s.base λj e=>p! hb (s.eu e).1⟩
end Go.Vm
namespace Go.Proofs.Im
section
variable{h h' g:Hp}{F I:Pos->Prop}{ps pl ib:Pos}{A:Acc}{cb:Cap}{fb:Bool}{vm vl:V}
abbrev zTh:List V:= [(Y U 0),(Y U 0),(Y U 0),(H []),(Y U 0),.aQ,.aQ,(Y U 0),(Y U 0)]
theorem ayW(a:Int)(h:Hp):mD [iV a] h=D (K false) h:=by
 rw[SN];have b:(a=a)=True:=eq_true rfl;simp only[vvB,a!,reduceCtorEq,↓reduceIte,DR,GX,GV,aU,bW,bZ]
theorem aHO{a b:Int}(c:b<a)(h:Hp):zh [iV a,iV b] h=D (iV 1) h:=by
 rw[aek];have d:(a<b)=False:=eq_false (by omega);have e:(a>b)=True:=eq_true c;simp only[vvB,a!,reduceCtorEq,↓reduceIte,G9,OD,OC,OB,OA,Oz,Oy,MG,MF,ayW,d,e,aU,bW,bZ]
theorem arC{x y:Int×Ml}{e i f s2:V}(d:x.1<y.1):∃h',qB [.agg (V.ofList (thC y f s2)),.agg (V.ofList (thC x e i))] g=D (iV 1) h'/\Nw g h':=by
 obtain⟨b,a⟩:∃b,b=g.new (O (N tTh true) (thC y f s2)):=⟨_,rfl⟩
 obtain⟨k,c,j,-⟩:=mkW b (O (N tTh true) (thC x e i));have l:Nw g b:=by rw[a];exact Nw.new _ _
 have e1:=(show Kn b g.next (O (N tTh true) (thC y f s2)) by rw[a];exact Kn.new _ _).nw j|>.ld (q:=0) (x:=iV y.1) rfl;have e2:=(show Kn k b.next (O (N tTh true) (thC x e i)) by rw[c];exact Kn.new _ _).ld (q:=0) (x:=iV x.1) rfl;refine⟨k,?_,l.trans j⟩;rw[alq];simp only[vvB,a!,reduceCtorEq,↓reduceIte,RS,Wy,Wx,V.dD,<-a,<-c,e1,e2,aHO d];simp only[aU,bW,vvB,a!,reduceCtorEq,↓reduceIte,bZ]
theorem bTh(x:Int×Ml)(vk vs:V)(h:Hp):bQ zTh [(0,1,iV x.1),(1,8,.agg (V.ofList (dB x.2 vk vs)))] h=D (.agg (V.ofList (thC x vk vs))) h:=(rfl)
theorem aK2(x:Int×Ml)(vk vs:V)(h:Hp):bY tTh zTh 1 [(0,9,.agg (V.ofList (thC x vk vs)))] h=D (.slice h.next 0 1 (.kn 1)) (h.new (O (N tTh true) (thC x vk vs))):=(rfl)
theorem amb(e:FuncId->Option Fun)(k:∀x y g,dK e (.func (.func Uy) .nil .nil) [x,y] g=qB [x,y] g){P:Pos->Prop}{l:List (Int×Ml)}(n:l.Pairwise λx y=>x.1<y.1)(h:Hp):jJ e P CQ h (.func (.func Uy) .nil .nil) l:=by
 rintro g i j x y q r c a o p ⟨s,u,e1,-,-⟩ ⟨t,s2,e2,-,-⟩ _ _;obtain⟨hi,b⟩:=b!.1 o;obtain⟨m,f⟩:=b!.1 p;have d:x.1<y.1:=by rw[<-b,<-f];exact List.pairwise_iff_getElem.1 n i j hi m a
 subst e1 e2;rw[k];exact arC d
theorem afu(a:dG h F ps A pl ib cb fb vm vl I)(hA:A.Small){box:Int}(hs:(Wn A.aP box).Pairwise λx y=>x.1<y.1)(af:(Wn A.aP box).length<50):
  ∃r h',xU [X ps 0,iV box] h=D r h'/\gY h.next.nat CQ tTh 9 h' r (Wn A.aP box)/\Nw h h':=by
 obtain⟨r,p,e1,o1,c1⟩:=OT a hA;have R:=(o1.rws dw).mono (P':=λj=>h.next.nat<=j.nat/\j.nat<p.next.nat) dw λj hj q=>⟨q,hj⟩
 have hn:=hA.aP;have n1:=c1.next;rw[am4];show aX e! _ (λr h'=>gY h.next.nat CQ tTh 9 h' r (Wn A.aP box)/\Nw h h') _;simp only[vvB,a!,reduceCtorEq,↓reduceIte,UZ,aaw,aav,aau,abI,e1,R.len];refine Oc.then (dS (σ:=V) (n:=A.aP.length) (pi:=13) (pn:=12) (pc:=14) [5,11,1] (λv=> [v,r,iV box]) (λk v g=>Nw p g/\dH p.next.nat (λj=>h.next.nat<=j.nat/\j.nat<p.next.nat) CQ tTh 9 g v (Wn (A.aP.take k) box))
  (A:=λfr g=>∃v,fr.get (c! 5)=some v/\Nw p g/\dH p.next.nat (λj=>h.next.nat<=j.nat/\j.nat<p.next.nat) CQ tTh 9 g v (Wn A.aP box)) (B:=λfr g=>False) (s:=.aQ)
  (λfr h _ k e1 e2=>by simp only[vvB,a!,reduceCtorEq,↓reduceIte,aat,e1,e2]) (λfr h k _ e1=>by simp(disch:=omega)only[vvB,a!,reduceCtorEq,↓reduceIte,WC,e1]) (by decide) (by rw[dW];omega) (qK0) (qK0) (by simp only[Fa,vvB,a!,reduceCtorEq,↓reduceIte,and_self]) ⟨Nw.refl _,dH.nil _ _ _ _ _ _⟩ ?_ ?_) ?_ ?_
 ·intro k v fr g hk d t J S;obtain⟨z,b,f1,-⟩:=J;obtain⟨c,o⟩:=S;obtain⟨m,hm⟩:∃m,A.aP[k]?=some m:=⟨_,d! hk⟩
  obtain⟨i,q,cs,e1,⟨vk,vs,rfl,rk,rs⟩,-,-,-,-,e3⟩:=(R.nw dw c).elt hm;have E:=e3 g rfl;have ah:=hA.each m (l! hm);obtain⟨g2,Z⟩:∃g2,g2=g.new (O (N tMl true) (dB m vk vs)):=⟨_,rfl⟩
  have S2:aT 8 (X g.next 0) (.agg (V.ofList (dB m vk vs))) (g.new (O (N tMl true) zMl))=D V.undef g2:=by rw[Z];exact iT (V.dO _) rfl rfl
  have c2:Nw g g2:=by rw[Z];exact Nw.new _ _
  have k2:Kn g2 g.next (O (N tMl true) (dB m vk vs)):=by rw[Z];exact Kn.new _ _
  have L5:=k2.ld (q:=5) (x:=vs) rfl;have ae:=rs.nw (aK _) c2;have aj:=rk.nw (aK _) c2;have ag:(Wn (A.aP.take k) box).length<=1000*1000:=by
   have:=aIC (l:=A.aP.take k) (box:=box) λm q=>(hA.each m (List.mem_of_mem_take q)).2;rw[r!]at this;omega
  have an:=c.next;have ao:=c2.next;simp only[vvB,a!,reduceCtorEq,↓reduceIte,aas,aar,abH,z,b,d,e1,E,S2,L5,ae.len];refine Oc.out (Q:=λo=>Rd _ _ _ _ _ _ _ _ _ _ (BK 1 o)) (dS (σ:=V) (n:=m.mem.length) (pi:=20) (pn:=19) (pc:=21) [5,11,1,7,18,13,12] (λv=> [v,r,iV box,X g.next 0,vs,iV k,iV A.aP.length]) (λj v u=>Nw p u/\(Kn u g.next (O (N tMl true) (dB m vk vs))/\Rws (λj=>h.next.nat<=j.nat/\j.nat<p.next.nat) (flat ji) 1 u vk m.keys/\Rws (λj=>h.next.nat<=j.nat/\j.nat<p.next.nat) (flat fD) 2 u vs m.mem/\bH v≠some g.next)/\dH p.next.nat (λj=>h.next.nat<=j.nat/\j.nat<p.next.nat) CQ tTh 9 u v (Wn (A.aP.take k) box++((m.mem.take j).filter λx=>decide (x.1=box)).map λx=>(x.2,m)))
   (A:=λfr u=>∃v,Fa fr [5,11,1,13,12] [v,r,iV box,iV k,iV A.aP.length]/\Nw p u/\dH p.next.nat (λj=>h.next.nat<=j.nat/\j.nat<p.next.nat) CQ tTh 9 u v (Wn (A.aP.take (k+1)) box)) (B:=λfr g=>False) (s:=v)
   (λfr h _ k e1 e2=>by simp only[vvB,a!,reduceCtorEq,↓reduceIte,aaq,e1,e2]) (λfr h k _ e1=>by simp(disch:=omega)only[vvB,a!,reduceCtorEq,↓reduceIte,WG,e1]) (by decide) (by rw[dW];omega) (qK0) (qK0) (by simp only[Fa,vvB,a!,reduceCtorEq,↓reduceIte,f1,d,t,z,b,and_self]) ⟨c.trans c2,⟨k2,aj,ae,λe=>by have:=(o.eu e).2;omega⟩,by simpa using o.nw dV c2⟩ ?_ ?_) ?_ ?_
  ·intro j v fr u hj G ac J S;obtain⟨z,b,f1,f7,C,d,t,-⟩:=J;obtain⟨ca,⟨kq,ab,M,ad⟩,o⟩:=S;obtain⟨x,hx⟩:∃x,m.mem[j]?=some x:=⟨_,d! hj⟩
   obtain⟨i,q,cs,e1,e2,-,-,-,-,e3⟩:=M.elt hx;obtain rfl:cs=fD x:=e2;have E:=e3 u rfl;obtain⟨L,aa⟩:∃L,L=u.new (O (N tMb true) (fD x)):=⟨_,rfl⟩
   have S3:aT 2 (X u.next 0) (.agg (V.ofList (fD x))) (u.new (O (N tMb true) [(Y U 0),(Y U 0)]))=D V.undef L:=by rw[aa];exact iT (V.dO _) rfl rfl
   have w:Nw u L:=by rw[aa];exact Nw.new _ _
   have k3:Kn L u.next (O (N tMb true) (fD x)):=by rw[aa];exact Kn.new _ _
   have L0:=k3.ld (q:=0) (x:=iV x.1) rfl;have L1:=k3.ld (q:=1) (x:=iV x.2) rfl;have LM:=(kq.nw w).ldN (n:=8) rfl;have ht:(m.mem.take (j+1))=m.mem.take j++ [x]:=take_snoc hx;by_cases hb:x.1=box
   ·have W:(x.1=box)=True:=eq_true hb;have al:=ca.next;have am:=w.next;have ai:((Wn (A.aP.take k) box++((m.mem.take j).filter λx=>decide (x.1=box)).map λx=>(x.2,m)).length+1)*112<=140737488355328:=by
     have p:((m.mem.take j).filter λx=>decide (x.1=box)).length<=(m.mem.take j).length:=x! _ _;rw[r!]at p;rw[o!,i!];have:=ah.2;omega
    obtain⟨v',g4,e5,o5,P,n5,ev⟩:=(o.nw dV w).app1 (bt:=112) (x:=(x.2,m)) (cs:=thC (x.2,m) vk vs) (P':=λj=>h.next.nat<=j.nat/\j.nat<p.next.nat) dV (by omega) rfl (λ_ _ q=>q) ⟨vk,vs,rfl,ab.nw (aK _) w,M.nw (aK _) w⟩ (λj _ q e=>by have:=((o.nw dV w).eu e).1;omega) ai;have e6:bY tTh zTh 1 [(0,9,.agg (V.ofList (thC (x.2,m) vk vs)))] L=_:=aK2 (x.2,m) vk vs L;have e7:bQ zTh [(0,1,iV x.2),(1,8,.agg (V.ofList (dB m vk vs)))] L=_:=bTh (x.2,m) vk vs L;simp only[vvB,a!,reduceCtorEq,↓reduceIte,Nq,Np,aap,C,G,f1,z,f7,e1,E,S3,L0,L1,LM,W,e7,e6,e5];refine⟨qK2 G,qK2 ac,v',by simp only[Fa,vvB,a!,reduceCtorEq,↓reduceIte,b,f1,f7,C,d,t,and_self],?_,?_,?_⟩
    ·exact(ca.trans w).own P λj e=>(o.eu e).1
    ·have hg:=kq.2;refine⟨(kq.nw w).ch P ad,(ab.nw (aK _) w).ch (aK _) P λj _ q=>⟨q,λe=>?_⟩,(M.nw (aK _) w).ch (aK _) P λj _ q=>⟨q,λe=>?_⟩,λe=>?_⟩
     ·have:=(o.eu e).1;omega
     ·have:=(o.eu e).1;omega
     ·rw[ev]at e;injection e with e;have:=congrArg Pos.nat e;rw[Pos.fA]at this;omega
    ·rw[ht,y!,h!,<-C!];simpa[hb]using o5
   ·have W:(x.1=box)=False:=eq_false hb;simp only[vvB,a!,reduceCtorEq,↓reduceIte,Nq,Np,C,G,f1,z,f7,e1,E,S3,L0,W];refine⟨qK2 G,qK2 ac,v,by simp only[Fa,vvB,a!,reduceCtorEq,↓reduceIte,z,b,f1,f7,C,d,t,and_self],ca.trans w,⟨kq.nw w,ab.nw (aK _) w,M.nw (aK _) w,ad⟩,?_⟩;rw[ht,y!,h!];simpa[hb]using o.nw dV w
  ·intro v fr u J S;obtain⟨z,b,f1,f7,C,d,t,-⟩:=J;obtain⟨ca,ak,o⟩:=S;refine⟨v,by simp only[Fa,vvB,a!,reduceCtorEq,↓reduceIte,z,b,f1,d,t,and_self],ca,?_⟩;rw[j!]at o;rw[take_snoc hm,aEW];exact o
  ·rintro fr u ⟨v,J,ca,o⟩;obtain⟨z,b,f1,d,t,-⟩:=J;exact⟨d,t,v,by simp only[Fa,vvB,a!,reduceCtorEq,↓reduceIte,z,b,f1,and_self],ca,o⟩
  ·intro fr g q;exact q.elim
 ·intro v fr g J S;obtain⟨z,b,-⟩:=J;obtain⟨c,o⟩:=S;rw[j!]at o;exact⟨v,z,c,o⟩
 ·rintro fr g ⟨v,z,c,o⟩;obtain⟨g5,e5,P⟩:=ahT (f:=.func (.func Uy) .nil .nil) (o.rows (P':=λj=>h.next.nat<=j.nat) dV (λ_ _ q=>q.1) λ_ q _=>by omega) dV af (amb _ (λ_ _ _=>rfl) hs _) (amb _ (λ_ _ _=>rfl) hs _) (amb _ (λ_ _ _=>rfl) hs _);simp only[vvB,a!,reduceCtorEq,↓reduceIte,WB,WA,z,e5];exact aX.ret (r:=v) (qT0) ⟨(o.nw dV P).wide dV (by omega) λj hj q=>⟨q.1,λe=>by have:=(o.eu e).1;omega⟩,(c1.trans c).trans P⟩
 ·intro fr g q;exact q.elim
end
end Go.Proofs.Im
namespace Go.Im
structure Mg where
 uid:Int
 id:Int
 told:Int
 at_:Pos
def mgC(x:Mg):List V:= [iV x.uid,iV x.id,X x.at_ 0]
structure VwG (tV tM tA:TypeId) (b:Nat) (h:Hp) (pv:Pos) (box had:Int) (l:List Mg) (vv:V):Prop where
 vw:Kn h pv (O (N tV true) [iV box,vv,iV had])
 row:dH b (λ_=>False) (flat mgC) tM 3 h vv l
 told:∀x∈l,Kn h x.at_ (O (N tA true) [iV x.told])
 nd:(l.map (·.at_)).Nodup
 sep:∀x∈l,x.at_≠pv/\bH vv≠some x.at_
 nv:bH vv≠some pv
 lo:b<=pv.nat/\∀x∈l,b<=x.at_.nat
end Go.Im
namespace Go.Proofs.Im
section
variable{h h' g:Hp}{p pv:Pos}{vv:V}{b:Nat}{l:List Mg}{box had:Int}
abbrev YW(b:Nat)(h:Hp)(pv:Pos)(box had:Int)(l:List Mg)(vv:V):Prop:=VwG tVw tVm tAt b h pv box had l vv
abbrev zVm:List V:= [(Y U 0),(Y U 0),.bP]
theorem aK9(x:Mg):eH tVm zVm 1 [(0,3,.agg (V.ofList (mgC x)))]=some (O (N tVm true) (mgC x),λp=>.slice p 0 1 (.kn 1)):=(rfl)
theorem bAt(h:Hp):bQ [(Y U 0)] [] h=D (.agg (V.ofList [Y U 0])) h:=(rfl)
theorem YW.nw(a:YW b h pv box had l vv)(c:Nw h g):YW b g pv box had l vv where
 vw:=a.vw.nw c
 row:=a.row.nw (aK _) c
 told:=λx q=>(a.told x q).nw c
 nd:=a.nd
 sep:=a.sep
 nv:=a.nv
 lo:=a.lo
theorem aCM{P:Pos->Prop}(a:YW b h pv box had l vv)(hb:b<=h.next.nat)(hl:l.length<=1000){x:Int×Ml}{vk vs:V}:
  ∃u h' W q,ZY [X pv 0,.agg (V.ofList (thC x vk vs))] h=D u h'/\YW b h' pv box (max had x.1) (l++ [{uid:=x.1,id:=x.2.id,told:=x.2.mod,at_:=q}]) W/\Ch (λj=>j=pv\/bH vv=some j) h h'/\(∀j,bH W=some j->h.next.nat<=j.nat):=by
 obtain⟨d,L,c1,S⟩:=mkW h (O (N tTh true) (thC x vk vs));obtain⟨C,M,G,k2⟩:=mkW d (O (N tAt true) [Y U 0]);obtain⟨y,hy⟩:∃y:Mg,y={uid:=x.1,id:=x.2.id,told:=x.2.mod,at_:=d.next}:=⟨_,rfl⟩
 obtain⟨J,ad,B,k3⟩:=mkW C (O (N tVm true) (mgC y));have S3:aT 3 (X C.next 0) (.agg (V.ofList (mgC y))) (C.new (O (N tVm true) zVm))=D V.undef J:=by rw[ad];exact iT (V.dO _) rfl rfl
 obtain⟨o,t⟩:∃o,o=J.put d.next (some (O (N tAt true) [iV x.2.mod])):=⟨_,rfl⟩
 have c4:Ch (λj=>j=d.next) J o:=by rw[t];exact Ch.put _ _ rfl
 obtain⟨u,e4⟩:=O9 (n:=x.2.mod) ((k2.nw B)) (q:=0) (by decide);have e4:pI [X d.next 0,iV x.2.mod] J=D u o:=by rw[t];exact e4
 have k4:Kn o d.next (O (N tAt true) [iV x.2.mod]):=by rw[t];exact(k2.nw B).put _
 have B3:bQ zVm [(0,1,iV x.1),(1,1,iV x.2.id),(2,1,X d.next 0)] C=D (.agg (V.ofList (mgC y))) C:=by subst hy;rfl
 have ai:=c1.next;have aj:=G.next;have ak:=B.next;have al:=c4.next;have b1:d.next.nat=h.next.nat+1:=by rw[L,bD]
 have b2:C.next.nat=d.next.nat+1:=by rw[M,bD]
 have ac:Nw h J:=(c1.trans G).trans B;have ae:=(S.nw (G.trans B)).ch c4 λe=>by have:=congrArg Pos.nat e;omega
 have ah:=k3.ch c4 λe=>by have:=congrArg Pos.nat e;omega
 have E:Nw h o:=ac.then c4 λj hj e=>by rw[e]at hj;omega
 have Z:=a.nw E;have L0:=(S.nw G).ld (q:=0) (x:=iV x.1) rfl;have aa:=S.ld (q:=0) (x:=iV x.1) rfl;have ab:=S.ld (q:=1) (x:=iV x.2.id) rfl;have T3:=k3.ld (q:=2) (x:=X d.next 0) (by subst hy;rfl);have M3:=(S.nw (G.trans B)).ld (q:=7) (x:=iV x.2.mod) rfl;have L4:=(Z.vw.bump 1).ld (q:=1) (x:=vv) rfl;have N4:=(ah.bump 1).ldN (n:=3) rfl;have am:=a.vw.2;obtain⟨w',h5,e5,o5,I,n5,f⟩:=Z.row.aCu (bt:=24) (x:=y) (by omega) rfl (by omega);have v5:=Z.vw.ch I a.nv;have af:=ae.ch I λe=>by have:=(a.row.eu e).2;omega
 obtain⟨k,v⟩:∃k,k=h5.put pv (some (O (N tVw true) [iV box,w',iV had])):=⟨_,rfl⟩
 have S6:aT 1 (X pv 1) w' h5=D V.undef k:=by rw[v];exact v5.st (q:=1) o5.cell (show 1<3 by omega)
 have v6:Kn k pv (O (N tVw true) [iV box,w',iV had]):=by rw[v];exact v5.put _
 have c6:Ch (λj=>j=pv) h5 k:=by rw[v];exact Ch.put _ _ rfl
 have ag:=af.ch c6 λe=>by have:=congrArg Pos.nat e;omega
 obtain⟨r,w⟩:∃r,r=k.put pv (some (O (N tVw true) [iV box,w',iV (max had x.1)])):=⟨_,rfl⟩
 have S7:aT 1 (X pv 2) (iV (max had x.1)) k=D V.undef r:=by rw[w];exact v6.st (q:=2) ⟨rfl,rfl⟩ (show 2<3 by omega)
 have v7:Kn r pv (O (N tVw true) [iV box,w',iV (max had x.1)]):=by rw[w];exact v6.put _
 have c7:Ch (λj=>j=pv) k r:=by rw[w];exact Ch.put _ _ rfl
 have L6:=v6.ld (q:=2) (x:=iV had) rfl;have M6:=ag.ld (q:=0) (x:=iV x.1) rfl;have i:Ch (λj=>j=pv) h5 r:=c6.trans c7 λ_ _ q=>q;rw[aup];simp only[vvB,a!,reduceCtorEq,↓reduceIte,aik,akv,aku,akt,V.dD,<-L,aa,ab,bAt,aeF,<-M,B3,S3,T3,M3,e4];simp only[vvB,a!,reduceCtorEq,↓reduceIte,aks,L4,N4,aK9,e5,S6];simp only[vvB,a!,reduceCtorEq,↓reduceIte,akr,L6,M6,S7];refine⟨_,r,w',d.next,by simp only[aU,bW,vvB,a!,reduceCtorEq,↓reduceIte,bZ]<;>rfl,⟨v7,?_,?_,?_,?_,?_,?_⟩,?_,λj e=>by have:=f j e;omega⟩
 ·rw[<-hy];exact o5.ch (aK _) i (λj hj e=>by have:=f j hj;rw[e]at this;omega) λ_ _ q=>q.elim
 ·intro z c;rw[k!,n!]at c;rcases c with c|rfl
  ·have s:=a.sep z c;exact((Z.told z c).ch I s.2).ch i s.1
  ·exact((show Kn o d.next (O (N tAt true) [iV x.2.mod]) from k4).ch I λe=>by have:=(a.row.eu e).2;omega).ch i λe=>by have:=congrArg Pos.nat e;omega
 ·rw[h!,List.nodup_append];refine⟨a.nd,by simp,?_⟩;intro z c z' Q e;obtain⟨m,hm,rfl⟩:=w!.1 c;simp at Q;subst Q;have:=(a.told m hm).2
  rw[e]at this;omega
 ·intro z c;rw[k!,n!]at c;rcases c with c|rfl
  ·have s:=a.sep z c;have:=(a.told z c).2;exact⟨s.1,λe=>by have:=f _ e;omega⟩
  ·exact⟨λe=>by have:=congrArg Pos.nat e;simp only at this;omega,λe=>by have:=f _ e;simp only at this;omega⟩
 ·intro e;have:=f _ e;omega
 ·refine⟨a.lo.1,λz c=>?_⟩;rw[k!,n!]at c;rcases c with c|rfl
  ·exact a.lo.2 z c
  ·show b<=d.next.nat;omega
 ·exact(((Ch.refl _ h).trans E λ_ _ q=>q.elim).trans I λj _ e=>.inr e).trans i λj _ e=>.inl e
end
end Go.Proofs.Im
namespace Go.Im
def mgK(y:Mg):Int×Int×Int:=(y.uid,y.id,y.told)
def thK(x:Int×Ml):Int×Int×Int:=(x.1,x.2.id,x.2.mod)
def acM(l:List (Int×Ml)):Int:=l.foldl (λa x=>max a x.1) 0
end Go.Im
namespace Go.Proofs.Im
section
variable{h h' g:Hp}{F I:Pos->Prop}{ps pl ib p pv:Pos}{A:Acc}{cb:Cap}{fb:Bool}{vm vl vv:V}{b:Nat}{l:List Mg}{box:Int}
theorem azU{b:Bx}{p:Pos}{n:Int}{w:Wr}(k:Kn g p (O w [iV n])):ML [.agg (V.ofList (fF b)),X p 0] g=D (K (decide (b.id=n))) (g.new (O (N tBx true) (fF b))):=by
 have e1:=(Kn.new g (O (N tBx true) (fF b))).ld (q:=0) (x:=iV b.id) rfl;have e2:=(k.add (O (N tBx true) (fF b))).ld (q:=0) (x:=iV n) rfl;rw[asX];simp only[vvB,a!,reduceCtorEq,↓reduceIte,adP,afJ,afI,V.dD,e1,e2];simp only[aU,bW,vvB,a!,reduceCtorEq,↓reduceIte,bZ]
theorem ayi(p:Pos)(x:V)(g:Hp):dK jT (.func (.func PU) .nil (.cons (X p 0) .nil)) [x] g=ML [x,X p 0] g:=(rfl)
theorem aCJ(a:dG h F ps A pl ib cb fb vm vl I)(hA:A.Small){box:Int}(hs:(Wn A.aP box).Pairwise λx y=>x.1<y.1)(ab:(Wn A.aP box).length<50)(ac:(A.boxes.any λb=>decide (b.id=box))=true):
  ∃pv h' vv l,ZW [X ps 0,iV box] h=D (.tuple (.cons (X pv 0) (.cons (iV 0) .nil))) h'/\YW h.next.nat h' pv box (acM (Wn A.aP box)) l vv/\Nw h h'/\l.map mgK=(Wn A.aP box).map thK:=by
 obtain⟨h1,ad,Q,k1⟩:=mkW h (O (N iW true) [iV box]);obtain⟨r,h2,e2,r2,L,-⟩:=OU (a.nw Q) hA;obtain⟨d,e3,S⟩:=aen (f:=.func (.func PU) .nil (.cons (X h.next 0) .nil)) r2 (aK _) (λb:Bx=>decide (b.id=box)) (by have:=hA.boxes;omega) (λa cs g _ c e _=>by
  obtain rfl:cs=fF a:=e;exact⟨_,by rw[ayi];exact azU (k1.nw (L.trans c)),Nw.new _ _⟩)
 have o:lI [r,.func (.func PU) .nil (.cons (X h.next 0) .nil)] h2=D (K true) d:=by rw[<-ac];exact e3
 have F2:∀g,eP (.func PU) [] [X h.next 0] g=D (.func (.func PU) .nil (.cons (X h.next 0) .nil)) g:=λg=>rfl;have k3:=k1.nw (L.trans S);have L3:=k3.ld (q:=0) (x:=iV box) rfl;obtain⟨h4,ae,W,k4⟩:=mkW d (O (N tVw true) [iV box,.aQ,iV 0]);have B4:bQ [(Y U 0),.aQ,(Y U 0)] [(0,1,iV box)] d=D (.agg (V.ofList [iV box,.aQ,iV 0])) d:=(rfl)
 have L4:=(k3.nw W).ld (q:=0) (x:=iV box) rfl;have E:Nw h h4:=((Q.trans L).trans S).trans W;obtain⟨ag,C,e5,o5,Z⟩:=afu (a.nw E) hA hs ab;have R5:=(o5.rws dV).mono (P':=λj=>h4.next.nat<=j.nat/\j.nat<C.next.nat) dV λj M q=>⟨q,M⟩
 have al:=a.st.2;have n1:=Q.next;have n2:=L.next;have n3:=S.next;have n4:=W.next;have n5:=Z.next;have am:=k4.2;have nn:∀g,aJ .eql (.ptr 16) (X ps 0) .bP g=D (K false) g:=λg=>rfl;rw[aum]
 suffices T:aX e! _ (λr h'=>∃vv l,r=.tuple (.cons (X d.next 0) (.cons (iV 0) .nil))/\YW h.next.nat h' d.next box (acM (Wn A.aP box)) l vv/\Nw h h'/\l.map mgK=(Wn A.aP box).map thK)
   (Zx (T.set (some (iV box)) (c! 1) (T.set (some (X ps 0)) (c! 0) T.nil)) h) by
  obtain⟨r,h',e,vv,l,rfl,q⟩:=T;exact⟨_,h',vv,l,e,q⟩
 simp only[vvB,a!,reduceCtorEq,↓reduceIte,Zx,ake,akd,akc,akb,aj9,alm,ahw,<-ad,nn,e2,F2,o,L3,B4,aeF,V.dD,<-ae,L4,e5,R5.len];refine Oc.then (dS (σ:=V×List Mg) (n:=(Wn A.aP box).length) (pi:=25) (pn:=24) (pc:=26) [6,23] (λ_=> [X d.next 0,ag]) (λk s g=>YW h.next.nat g d.next box (acM ((Wn A.aP box).take k)) s.2 s.1/\Ch (λj=>j=d.next\/C.next.nat<=j.nat) C g/\s.2.map mgK=((Wn A.aP box).take k).map thK/\∀j,bH s.1=some j->C.next.nat<=j.nat)
  (A:=λfr g=>fr.get (c! 6)=some (X d.next 0)/\∃vv l,YW h.next.nat g d.next box (acM (Wn A.aP box)) l vv/\Ch (λj=>j=d.next\/C.next.nat<=j.nat) C g/\l.map mgK=(Wn A.aP box).map thK) (B:=λfr g=>False) (s:=(.aQ,[]))
  (λfr h _ k e1 e2=>by simp only[vvB,a!,reduceCtorEq,↓reduceIte,aj8,e1,e2]) (λfr h k _ e1=>by simp(disch:=omega)only[vvB,a!,reduceCtorEq,↓reduceIte,afL,e1]) (by decide) (by rw[dW];omega) (qK0) (qK0) (by simp only[Fa,vvB,a!,reduceCtorEq,↓reduceIte,and_self])
  ⟨⟨k4.nw Z,dH.nil _ _ _ _ _ _,λ_ q=>(by cases q),.nil,λ_ q=>(by cases q),λq=>(by cases q),⟨by omega,λ_ q=>(by cases q)⟩⟩,Ch.refl _ _,rfl,λ_ q=>(by cases q)⟩ ?_ ?_) ?_ ?_
 ·rintro k ⟨vv,l⟩ fr g hk G aa fa hI;obtain⟨z,t,-⟩:=fa;obtain⟨v,c,hl,hv⟩:=hI;obtain⟨x,hx⟩:∃x,(Wn A.aP box)[k]?=some x:=⟨_,d! hk⟩
  obtain⟨i,q,cs,e1,⟨vk,vs,rfl,rk,rs⟩,-,-,-,-,e3⟩:=(R5.ch (P':=λ_=>True) dV c λj M q=>⟨trivial,λe=>by rcases e with rfl|e<;>omega⟩).elt hx;have o:=e3 g rfl;obtain⟨J,w⟩:∃J,J=g.new (O (N tTh true) (thC x vk vs)):=⟨_,rfl⟩
  have S2:aT 9 (X g.next 0) (.agg (V.ofList (thC x vk vs))) (g.new (O (N tTh true) zTh))=D V.undef J:=by rw[w];exact iT (V.dO _) rfl rfl
  have m:Nw g J:=by rw[w];exact Nw.new _ _
  have k2:Kn J g.next (O (N tTh true) (thC x vk vs)):=by rw[w];exact Kn.new _ _
  have ak:=c.next;have aj:=m.next;have ai:l.length=k:=by have:=congrArg List.length hl;simp at this;omega
  obtain⟨u,g3,ah,q',e6,v6,c6,af⟩:=aCM (P:=λ_=>True) (v.nw m) (by omega) (by show l.length<=1000;omega) (x:=x) (vk:=vk) (vs:=vs);simp only[vvB,a!,reduceCtorEq,↓reduceIte,aj7,aj6,G,t,z,e1,o,S2,k2.ldN (n:=9) rfl,e6];refine⟨qK2 G,qK2 aa,(ah,l++ [{uid:=x.1,id:=x.2.id,told:=x.2.mod,at_:=q'}]),by simp only[Fa,vvB,a!,reduceCtorEq,↓reduceIte,z,t,and_self],?_,?_,?_,?_⟩
  ·rw[take_snoc hx];have:acM ((Wn A.aP box).take k++ [x])=max (acM ((Wn A.aP box).take k)) x.1:=by simp[acM,List.foldl_append]
   rw[this];exact v6
  ·exact(c.trans m λ_ _ q=>q.elim).trans c6 λj M q=>q.imp id λe=>by have:=hv j e;omega
  ·simp only[h!];rw[hl,take_snoc hx,h!];rfl
  ·intro j e;have:=af j e;omega
 ·rintro⟨vv,l⟩ fr g fa hI;obtain⟨z,t,-⟩:=fa;obtain⟨v,c,hl,hv⟩:=hI;rw[j!]at v hl;exact⟨z,vv,l,v,c,hl⟩
 ·rintro fr g ⟨z,vv,l,v,c,hl⟩;simp only[vvB,a!,reduceCtorEq,↓reduceIte,afK,z];exact aX.ret (qT0) ⟨vv,l,rfl,v,((E.trans Z).then c λj M e=>by rcases e with rfl|e<;>omega),hl⟩
 ·intro fr g q;exact q.elim
end
end Go.Proofs.Im
namespace Go.Im
structure VwR (tV tM tA:TypeId) (h:Hp) (J:Pos->Prop) (pv:Pos) (box had:Int) (l:List Mg) (vv:V):Prop where
 vw:Kn h pv (O (N tV true) [iV box,vv,iV had])
 row:(l= []/\vv=.aQ)\/∃i f rest,vv=.slice i 0 l.length (.un 3)/\Kn h i (O (N tM f) ((l.map mgC).flatten++rest))
 told:∀x∈l,Kn h x.at_ (O (N tA true) [iV x.told])
 nd:(l.map (·.at_)).Nodup
 sep:∀x∈l,x.at_≠pv/\bH vv≠some x.at_
 nv:bH vv≠some pv
 foot:J pv/\(∀j,bH vv=some j->J j)/\∀x∈l,J x.at_
 lt:∀j,J j->j.nat<h.next.nat
theorem VwR.rws{tV tM tA:TypeId}{h:Hp}{J:Pos->Prop}{pv:Pos}{box had:Int}{l:List Mg}{vv:V}(a:VwR tV tM tA h J pv box had l vv):Rws J (flat mgC) 3 h vv l:=by
 rcases a.row with⟨rfl,rfl⟩|⟨i,f,rest,rfl,k⟩
 ·exact Rws.aQ _ _ _ _
 ·have b:∀d∈l.map mgC,d.length=3:=λd c=>by obtain⟨x,_,rfl⟩:=w!.1 c;rfl
  have hl:(l.map mgC).flatten.length=l.length*3:=by rw[gW b,i!]
  refine⟨l.map mgC,?_,b,⟨hl,.inr ⟨i,0,_,N tM f,(l.map mgC).flatten++rest,rfl,k.2,by rw[k.1];rfl,λq o=>?_⟩⟩,λ_ _ _ _ e=>(by cases e;rfl),λj n=>a.foot.2.1 j n⟩
  ·have:∀m:List Mg,All2 (flat mgC J h) m (m.map mgC):=λm=>by
    induction m with
    |nil=>exact .nil
    |cons x m p=>exact .cons rfl p
   exact this l
  ·rw[E!,List.getElem?_append_left];rw[hl];exact o
theorem VwR.ch{tV tM tA:TypeId}{h h':Hp}{J S:Pos->Prop}{pv:Pos}{box had:Int}{l:List Mg}{vv:V}(a:VwR tV tM tA h J pv box had l vv)(c:Ch S h h')(b:∀j,J j->¬S j):VwR tV tM tA h' J pv box had l vv where
 vw:=a.vw.ch c (b _ a.foot.1)
 row:=a.row.imp id λ⟨i,f,rest,e,k⟩=>⟨i,f,rest,e,k.ch c (b i (a.foot.2.1 i (by rw[e];rfl)))⟩
 told:=λx q=>(a.told x q).ch c (b _ (a.foot.2.2 x q))
 nd:=a.nd
 sep:=a.sep
 nv:=a.nv
 foot:=a.foot
 lt:=λj q=>z! (a.lt j q) c.next
theorem VwG.vwr{tV tM tA:TypeId}{h:Hp}{pv:Pos}{box had:Int}{l:List Mg}{vv:V}{b:Nat}(a:VwG tV tM tA b h pv box had l vv):VwR tV tM tA h (λj=>b<=j.nat/\j.nat<h.next.nat) pv box had l vv where
 vw:=a.vw
 row:=by
  by_cases hl:l= []
  ·subst hl;obtain⟨d,x,k,s⟩:=a.row;rcases s.is with⟨_,e⟩|⟨i,e,hb,hi,f,c⟩
   ·exact .inl ⟨rfl,e⟩
   ·cases x;exact .inr ⟨i,f,[],e,by simpa using c,hi⟩
  ·obtain⟨d,x,k,s⟩:=a.row;rcases s.is with⟨h0,e⟩|⟨i,e,hb,hi,f,c⟩
   ·exact absurd (List.length_eq_zero_iff.1 h0) hl
   ·refine .inr ⟨i,f,[],e,?_,hi⟩;rw[x.flat]at c;simpa using c
 told:=a.told
 nd:=a.nd
 sep:=a.sep
 nv:=a.nv
 foot:=⟨⟨a.lo.1,a.vw.2⟩,λj e=>a.row.eu e,λx q=>⟨a.lo.2 x q,(a.told x q).2⟩⟩
 lt:=λj q=>q.2
end Go.Im
namespace Go.Proofs.Im
section
variable{h h' g:Hp}{J:Pos->Prop}{pv:Pos}{A:Acc}{vv:V}{l:List Mg}{box had:Int}
abbrev VwK(h:Hp)(J:Pos->Prop)(pv:Pos)(box had:Int)(l:List Mg)(vv:V):Prop:=VwR tVw tVm tAt h J pv box had l vv
theorem arE(a:VwK h J pv box had l vv):SE [X pv 0] h=D (iV box) h:=by
 have L:=a.vw.ld (q:=0) (x:=iV box) rfl;rw[auo];simp only[vvB,a!,reduceCtorEq,↓reduceIte,aij,akq,akp,ako,eG,L,aU,bW,bZ]
theorem acX(a:VwK h J pv box had l vv)(hl:l.length<=1000):
  ∃r h',EZ [X pv 0] h=D r h'/\gY h.next.nat (flat gV) iW 1 h' r (l.map (·.uid))/\Nw h h':=by
 have L:=a.vw.ld (q:=1) (x:=vv) rfl;have R:=a.rws;rw[asW];show aX e! _ (λr h'=>gY h.next.nat (flat gV) iW 1 h' r (l.map (·.uid))/\Nw h h') _;simp only[vvB,a!,reduceCtorEq,↓reduceIte,adO,afH,afG,afF,afE,ahb,eG,L,R.len];refine Oc.then (dS (σ:=V) (n:=l.length) (pi:=13) (pn:=12) (pc:=14) [3,11] (λv=> [v,vv]) (λk v g=>Nw h g/\gY h.next.nat (flat gV) iW 1 g v ((l.map (·.uid)).take k))
  (A:=λfr g=>∃v,fr.get (c! 3)=some v/\Nw h g/\gY h.next.nat (flat gV) iW 1 g v (l.map (·.uid))) (B:=λfr g=>False) (s:=.aQ)
  (λfr h _ k e1 e2=>by simp only[vvB,a!,reduceCtorEq,↓reduceIte,afD,e1,e2]) (λfr h k _ e1=>by simp(disch:=omega)only[vvB,a!,reduceCtorEq,↓reduceIte,afA,e1]) (by decide) (by rw[dW];omega) (qK0) (qK0) (by simp only[Fa,vvB,a!,reduceCtorEq,↓reduceIte,and_self]) ⟨Nw.refl _,gY.nil _ _ _ _ _⟩ ?_ ?_) ?_ ?_
 ·intro k v fr g W y P t u;obtain⟨f3,w,-⟩:=t;obtain⟨c,o⟩:=u;obtain⟨x,z⟩:∃x,l[k]?=some x:=⟨_,d! W⟩
  obtain⟨i,q,cs,e1,e2,-,-,-,-,I⟩:=(R.nw (aK _) c).elt z;obtain rfl:cs=mgC x:=e2;have m:=I g rfl;obtain⟨b,d⟩:∃b,b=g.new (O (N tVm true) (mgC x)):=⟨_,rfl⟩
  have E:aT 3 (X g.next 0) (.agg (V.ofList (mgC x))) (g.new (O (N tVm true) zVm))=D V.undef b:=by rw[d];exact iT (V.dO _) rfl rfl
  have f:Nw g b:=by rw[d];exact Nw.new _ _
  have k2:Kn b g.next (O (N tVm true) (mgC x)):=by rw[d];exact Kn.new _ _
  have S:=c.next;have Z:=f.next;obtain⟨C,Q,p,o5,G,n5,-⟩:=(o.nw (aK _) f).app (bt:=8) (x:=x.uid) (cs:=gV x.uid) (P0:=λ_=>False) (aK _) (by omega) rfl rfl (λj _ q=>q.elim) (by simp;omega);have p:cZ iW 1 8 v (.slice b.next 0 1 (.kn 1)) (b.new (O (N iW true) [iV x.uid]))=D C Q:=p;simp only[vvB,a!,reduceCtorEq,↓reduceIte,afC,afB,f3,w,y,e1,m,E,k2.ld (q:=0) (x:=iV x.uid) rfl,qX,p];refine⟨qK2 y,qK2 P,C,by simp only[Fa,vvB,a!,reduceCtorEq,↓reduceIte,w,and_self],?_,?_⟩
  ·exact(c.trans f).own G λj e=>(o.eu e).1
  ·rw[take_snoc (show(l.map (·.uid))[k]?=some x.uid by rw[A!,z];rfl)];exact o5
 ·intro v fr g t u;obtain⟨f3,M,-⟩:=t;obtain⟨c,o⟩:=u;rw[v! (by simp)]at o;exact⟨v,f3,c,o⟩
 ·rintro fr g ⟨v,f3,c,o⟩;simp only[vvB,a!,reduceCtorEq,↓reduceIte,afz,f3];exact aX.ret (r:=v) (qT0) ⟨o,c⟩
 ·intro fr g q;exact q.elim
theorem aCK(a:VwK h J pv box had l vv)(hl:l.length<=1000):
  ∃r h',ZX [X pv 0] h=D r h'/\gY h.next.nat (flat gV) iW 1 h' r (l.map (·.id))/\Nw h h':=by
 have L:=a.vw.ld (q:=1) (x:=vv) rfl;have R:=a.rws;rw[aun];show aX e! _ (λr h'=>gY h.next.nat (flat gV) iW 1 h' r (l.map (·.id))/\Nw h h') _;simp only[vvB,a!,reduceCtorEq,↓reduceIte,aii,akn,akm,akl,akk,aln,eG,L,R.len];refine Oc.then (dS (σ:=V) (n:=l.length) (pi:=13) (pn:=12) (pc:=14) [3,11] (λv=> [v,vv]) (λk v g=>Nw h g/\gY h.next.nat (flat gV) iW 1 g v ((l.map (·.id)).take k))
  (A:=λfr g=>∃v,fr.get (c! 3)=some v/\Nw h g/\gY h.next.nat (flat gV) iW 1 g v (l.map (·.id))) (B:=λfr g=>False) (s:=.aQ)
  (λfr h _ k e1 e2=>by simp only[vvB,a!,reduceCtorEq,↓reduceIte,akj,e1,e2]) (λfr h k _ e1=>by simp(disch:=omega)only[vvB,a!,reduceCtorEq,↓reduceIte,akg,e1]) (by decide) (by rw[dW];omega) (qK0) (qK0) (by simp only[Fa,vvB,a!,reduceCtorEq,↓reduceIte,and_self]) ⟨Nw.refl _,gY.nil _ _ _ _ _⟩ ?_ ?_) ?_ ?_
 ·intro k v fr g W y P t u;obtain⟨f3,w,-⟩:=t;obtain⟨c,o⟩:=u;obtain⟨x,z⟩:∃x,l[k]?=some x:=⟨_,d! W⟩
  obtain⟨i,q,cs,e1,e2,-,-,-,-,I⟩:=(R.nw (aK _) c).elt z;obtain rfl:cs=mgC x:=e2;have m:=I g rfl;obtain⟨b,d⟩:∃b,b=g.new (O (N tVm true) (mgC x)):=⟨_,rfl⟩
  have E:aT 3 (X g.next 0) (.agg (V.ofList (mgC x))) (g.new (O (N tVm true) zVm))=D V.undef b:=by rw[d];exact iT (V.dO _) rfl rfl
  have f:Nw g b:=by rw[d];exact Nw.new _ _
  have k2:Kn b g.next (O (N tVm true) (mgC x)):=by rw[d];exact Kn.new _ _
  have S:=c.next;have Z:=f.next;obtain⟨C,Q,p,o5,G,n5,-⟩:=(o.nw (aK _) f).app (bt:=8) (x:=x.id) (cs:=gV x.id) (P0:=λ_=>False) (aK _) (by omega) rfl rfl (λj _ q=>q.elim) (by simp;omega);have p:cZ iW 1 8 v (.slice b.next 0 1 (.kn 1)) (b.new (O (N iW true) [iV x.id]))=D C Q:=p;simp only[vvB,a!,reduceCtorEq,↓reduceIte,aki,akh,f3,w,y,e1,m,E,k2.ld (q:=1) (x:=iV x.id) rfl,qX,p];refine⟨qK2 y,qK2 P,C,by simp only[Fa,vvB,a!,reduceCtorEq,↓reduceIte,w,and_self],?_,?_⟩
  ·exact(c.trans f).own G λj e=>(o.eu e).1
  ·rw[take_snoc (show(l.map (·.id))[k]?=some x.id by rw[A!,z];rfl)];exact o5
 ·intro v fr g t u;obtain⟨f3,M,-⟩:=t;obtain⟨c,o⟩:=u;rw[v! (by simp)]at o;exact⟨v,f3,c,o⟩
 ·rintro fr g ⟨v,f3,c,o⟩;simp only[vvB,a!,reduceCtorEq,↓reduceIte,akf,f3];exact aX.ret (r:=v) (qT0) ⟨o,c⟩
 ·intro fr g q;exact q.elim
end
end Go.Proofs.Im
namespace Go.Im
theorem _root_.Go.Vm.Rws.strs{P:Pos->Prop}{h:Hp}{v:V}{l:List (List Nat)}(r:Rws P (flat ji) 1 h v l):Sl h.next.nat h 1 v l.length (l.map H)/\yB 1 v:=by
 obtain⟨b,a,c,s,k,p⟩:=r;have:b.flatten=l.map H:=by rw[a.flat];exact ajy l
 rw[this]at s;exact⟨s,k⟩
abbrev iL:List Nat:= [73,78,66,79,88]
def Yx(p:List Nat):List Nat:=if foldM p=foldM iL then iL else p
def tX(l:List Bx)(p:List Nat):Option Bx:=l.find? λb=>decide (b.name=Yx p)
structure TopB (l:List Bx):Prop where
 few:l.length<=1000
 top:∀b∈l,b.par=0
 name:∀b∈l,b.name.length<=1000000/\∀c∈b.name,c<256
 once:∀(k:Nat) (b:Bx),l[k]?=some b->l.findIdx? (λx=>decide (x.id=b.id))=some k
end Go.Im
namespace Go.Proofs.Im
section
variable{h h' g:Hp}{P:Pos->Prop}{p:Pos}{A:Acc}{v:V}{l:List Bx}
theorem aoM{b:Bx}{p:Pos}{n:Int}{w:Wr}(k:Kn g p (O w [iV n])):xI [.agg (V.ofList (fF b)),X p 0] g=D (K (decide (b.id=n))) (g.new (O (N tBx true) (fF b))):=by
 have e1:=(Kn.new g (O (N tBx true) (fF b))).ld (q:=0) (x:=iV b.id) rfl;have e2:=(k.add (O (N tBx true) (fF b))).ld (q:=0) (x:=iV n) rfl;rw[aiz];simp only[vvB,a!,reduceCtorEq,↓reduceIte,NM,TJ,TI,V.dD,e1,e2];simp only[aU,bW,vvB,a!,reduceCtorEq,↓reduceIte,bZ]
theorem amn(p:Pos)(x:V)(g:Hp):dK jT (.func (.func ab9) .nil (.cons (X p 0) .nil)) [x] g=xI [x,X p 0] g:=(rfl)
theorem arU(r:Rws P (flat fF) 6 h v l)(o:l.length<=1000)(n:Int):∃h',Ie [v,iV n] h=D (iV (gK (l.findIdx? λb=>decide (b.id=n)))) h'/\Nw h h':=by
 obtain⟨m,a,c,k⟩:=mkW h (O (N iW true) [iV n]);obtain⟨j,e2,d⟩:=yD (r.nw (aK _) c) (aK _) (λb=>decide (b.id=n)) (by omega) (f:=.func (.func ab9) .nil (.cons (X h.next 0) .nil)) (λb cs g _ i e _=>by
  rw[show cs=fF b from e,amn,aoM (k.nw i)];exact⟨_,rfl,Nw.new _ _⟩)
 rw[alu];simp only[vvB,a!,reduceCtorEq,↓reduceIte,RV,WM,WL,<-a,e2];exact⟨j,by simp only[aU,bW,vvB,a!,reduceCtorEq,↓reduceIte,bZ],c.trans d⟩
theorem aoP{E:El (List Nat)}{el:TypeId}{b:Nat}{a:List Nat}(o:gY b E el 1 h v [a]):∃u,sW [v] h=D u h:=by
 have c:=λg=>o.len g;rw[XF]
 suffices T:aX e! [] (λu h'=>h'=h) (sQ (T.set (some v) (c! 0) T.nil) h) by
  obtain⟨u,h',e,rfl⟩:=T;exact⟨u,e⟩
 simp(disch:=omega)only[vvB,a!,reduceCtorEq,↓reduceIte,sQ,Gi,c,D!,List.length_nil,E!,show((1:Nat):Int)=1 from rfl];refine(dZ (n:=0) (λm fr g=>fr.get (c! 2)=some (Y U 0)/\fr.get (c! 3)=some (Y U 0)/\g=h) (A:=λfr g=>g=h) (B:=λ_ _=>False) (by rw[dW];omega) ⟨qK0,qK1,rfl⟩ ?_).out ?_ ?_
 ·rintro m fr g ⟨f2,f3,rfl⟩;simp(disch:=omega)only[vvB,a!,reduceCtorEq,↓reduceIte,H7,Gh,f2,f3];exact⟨rfl,rfl⟩
 ·rintro fr g rfl;exact aX.nor (qT0) rfl
 ·intro fr g q;exact q.elim
theorem aAH(r:Rws P (flat fF) 6 h v l)(o:TopB l){k:Nat}{b:Bx}(hb:l[k]?=some b):∃h',Uj [v,iV b.id] h=D (H b.name) h'/\Nw h h':=by
 have Q:=o.once k b hb;have y:=l! hb;have S:=(b!.1 hb).1;obtain⟨f,e1,t⟩:=arU r o.few b.id;rw[Q]at e1;simp only[gK]at e1;have r1:=r.nw (aK _) t;obtain⟨i,q,cs,W,ex,-,hi,-,ld,-⟩:=r1.elt hb;obtain rfl:cs=fF b:=ex;have n1:=t.next;obtain⟨C,a,e2,z,I,n2,-⟩:=(gY.nil h.next.nat (flat ji) Ux 1 f).app (bt:=16) (x:=b.name) (cs:=ji b.name) (P0:=λ_=>False) (aK _) (by omega) rfl rfl (λj _ q=>q.elim) (by simp);have e2:cZ Ux 1 16 .aQ (.slice f.next 0 1 (.kn 1)) (f.new (O (N Ux true) [H b.name]))=D C a:=e2;have d:Nw f a:=I.mono λ_ _ e=>by cases e
 have E:=ld f rfl 1 (H b.name) rfl;have G:aF (X i (q+2)) a=D (Y U 0) a:=by
  have:=ld a (d.get i hi λq=>q) 2 (iV b.par) rfl;rw[o.top b y]at this;exact this
 have s:=t.trans d;rw[asZ]
 suffices T:aX e! [.tmp 4] (λr h'=>r=H b.name/\Nw h h') (Ue (T.set (some (iV b.id)) (c! 1) (T.set (some v) (c! 0) T.nil)) h) by
  obtain⟨r,h',e,rfl,c⟩:=T;exact⟨h',e,c⟩
 simp only[vvB,a!,reduceCtorEq,↓reduceIte,Ue,afZ,afY];refine Oc.then (dZ (n:=0) (λm fr g=>fr.get (c! 0)=some v/\fr.get (c! 1)=some (iV b.id)/\fr.get (c! 5)=some .aQ/\g=h) (A:=λfr g=>fr.get (c! 5)=some C/\g=a) (B:=λ_ _=>False) (by rw[dW];omega) ⟨qK0,qK0,qK0,rfl⟩ ?_) ?_ ?_
 ·rintro m fr g ⟨f0,f1,w,rfl⟩;simp(disch:=omega)only[vvB,a!,reduceCtorEq,↓reduceIte,ahd,afX,afW,afV,afU,afT,f0,f1,w,e1,Tz,r.len,W,E,pU,e2,G];exact⟨rfl,qK0,rfl⟩
 ·rintro fr g ⟨w,rfl⟩;obtain⟨u,L⟩:=aoP z;obtain⟨sl,cap⟩:=(z.rws (aK _)).strs;obtain⟨r4,Z,M,rfl,J⟩:=ahB (sep:= [47]) sl cap (F! _) (by simp) (by simp) (by have:=(o.name b y).1;simp[iG];omega) (by simpa using (o.name b y).2) (by simp) (.inl (by simp));simp only[vvB,a!,reduceCtorEq,↓reduceIte,afS,afR,w,L,M];exact aX.ret (r:=H b.name) (qT0) ⟨rfl,s.trans J⟩
 ·intro fr g q;exact q.elim
end
end Go.Proofs.Im
namespace Go.Im
theorem aEz{α:Type}{f:α->Bool}{l:List α}{k:Nat}{x:α}(c:l[k]?=some x)(a:(l.take k).find? f=none)(d:f x=true):l.find? f=some x:=by
 have e:=(b!.1 c).1;have b:=(b!.1 c).2;have:l.find? f=(l.take k++l.drop k).find? f:=by rw[List.take_append_drop]
 rw[this,B!,a,g! e,b];simp[d]
end Go.Im
namespace Go.Proofs.Im
section
variable{h h' g:Hp}{P F I:Pos->Prop}{ps pl ib p ir:Pos}{A:Acc}{cb:Cap}{fb:Bool}{v vm vl:V}{l:List Bx}
theorem aAI(r:Rws P (flat fF) 6 h v l)(hT:TopB l){p:List Nat}(hp:p.length<1000)(E:∀c∈p,c<256)(ab:p≠ []):
  ∃h',Uk [v,H p] h=D (.tuple (.cons (iV (match tX l p with|some b=>b.id|none=>0)) (.cons (K (tX l p).isSome) .nil))) h'/\Nw h h':=by
 obtain⟨h1,e1,c1⟩:=amg h (s:=p) (by omega) E;obtain⟨C,e2,c2⟩:=amg h1 (s:=iL) (by decide) (by decide);have f:Nw h C:=Nw.trans c1 c2;obtain⟨q,S⟩:∃q,q=Yx p:=⟨_,rfl⟩
 have ac:q≠ []:=by
  rw[S];unfold Yx;split
  ·simp
  ·exact ab
 have ad:=hT.few;rw[as1]
 suffices T:aX e! [.tmp 4,.tmp 5] (λr h'=>r=.tuple (.cons (iV (match tX l p with|some b=>b.id|none=>0)) (.cons (K (tX l p).isSome) .nil))/\Nw h h') (MH (T.set (some (H p)) (c! 1) (T.set (some v) (c! 0) T.nil)) h) by
  obtain⟨r,h',e,rfl,c⟩:=T;exact⟨h',e,c⟩
 have G:tX l p=l.find? λb=>decide (b.name=q):=by rw[S];rfl
 have d:∀fr:F,fr.get (c! 0)=some v->fr.get (c! 1)=some (H q)->aX e! [.tmp 4,.tmp 5] (λr h'=>r=.tuple (.cons (iV (match tX l p with|some b=>b.id|none=>0)) (.cons (K (tX l p).isSome) .nil))/\Nw h h')
   (qF (qF (UK fr C) (bK 0 (dI ahe lf))) (aB UH Out.ret)):=by
  intro fr f0 f1;simp only[vvB,a!,reduceCtorEq,↓reduceIte,UK,f0,r.len];refine Oc.then (dS (σ:=Unit) (n:=l.length) (pi:=14) (pn:=13) (pc:=15) [0,1,12] (λ_=> [v,H q,v]) (λk _ g=>Nw C g/\(l.take k).find? (λb=>decide (b.name=q))=none)
   (A:=λfr g=>Nw C g/\l.find? (λb=>decide (b.name=q))=none) (B:=λfr g=>∃b,fr.get (c! 4)=some (iV b.id)/\fr.get (c! 5)=some (K true)/\Nw C g/\l.find? (λb=>decide (b.name=q))=some b) (s:=())
   (λfr h _ k e1 e2=>by simp only[vvB,a!,reduceCtorEq,↓reduceIte,af4,e1,e2]) (λfr h k _ e1=>by simp(disch:=omega)only[vvB,a!,reduceCtorEq,↓reduceIte,af0,e1]) (by decide) (by rw[dW];omega) (qK0) (qK0) (by simp only[Fa,vvB,a!,reduceCtorEq,↓reduceIte,f0,f1,and_self]) ⟨Nw.refl _,by simp⟩ ?_ ?_) ?_ ?_
  ·intro k _ fr g hk m aa fa hI;obtain⟨f0,f1,j,-⟩:=fa;obtain⟨c,a⟩:=hI;obtain⟨x,W⟩:∃x,l[k]?=some x:=⟨_,d! hk⟩
   have rg:=r.nw (aK _) (f.trans c);obtain⟨i,o,cs,ix,ex,-,-,-,-,ln⟩:=rg.elt W;obtain rfl:cs=fF x:=ex;have L:=ln g rfl;obtain⟨z,u⟩:∃z,z=g.new (O (N tBx true) (fF x)):=⟨_,rfl⟩
   have S2:aT 6 (X g.next 0) (.agg (V.ofList (fF x))) (g.new (O (N tBx true) [(Y U 0),(H []),(Y U 0),(Y U 0),(Y U 0),(Y U 0)]))=D V.undef z:=by rw[u];exact iT (V.dO _) rfl rfl
   have cg:Nw g z:=by rw[u];exact Nw.new _ _
   have k2:Kn z g.next (O (N tBx true) (fF x)):=by rw[u];exact Kn.new _ _
   obtain⟨g3,e3,Z⟩:=aAH (rg.nw (aK _) cg) hT W;have L2:=k2.ld (q:=0) (x:=iV x.id) rfl;have L3:=(k2.nw Z).ld (q:=0) (x:=iV x.id) rfl;have J:(q= [])=False:=eq_false ac;by_cases Q:x.name=q
   ·have w:(x.name=q)=True:=eq_true Q;simp only[vvB,a!,reduceCtorEq,↓reduceIte,UJ,UI,af2,f0,f1,j,m,ix,L,S2,L2,L3,e3,J,w];exact⟨x,qK0,qK0,(c.trans cg).trans Z,aEz W a (decide_eq_true Q)⟩
   ·have w:(x.name=q)=False:=eq_false Q;simp only[vvB,a!,reduceCtorEq,↓reduceIte,UJ,UI,f0,f1,j,m,ix,L,S2,L2,e3,J,w];refine⟨qK2 m,qK2 aa,(),by simp only[Fa,vvB,a!,reduceCtorEq,↓reduceIte,f0,f1,j,and_self],(c.trans cg).trans Z,?_⟩;rw[Go.Vm.take_snoc W,B!,a];simp[Q]
  ·intro _ fr g fa hI;obtain⟨c,a⟩:=hI;rw[j!]at a;exact⟨c,a⟩
  ·rintro fr g ⟨c,a⟩;simp only[vvB,a!,reduceCtorEq,↓reduceIte,UH];refine aX.ret (qT0) ⟨?_,f.trans c⟩;rw[G,a];rfl
  ·rintro fr g ⟨b,f4,f5,c,hb⟩;refine aX.ret (by simp only[bW,vvB,a!,reduceCtorEq,↓reduceIte,f4,f5,bZ]<;>rfl) ⟨?_,f.trans c⟩;rw[G,hb];rfl
 by_cases M:foldM p=foldM iL
 ·have t:(foldM p=foldM iL)=True:=eq_true M;have y:q=iL:=by rw[S];unfold Yx;rw[if_pos M]
  simp only[vvB,a!,reduceCtorEq,↓reduceIte,MH,UM,UL,af5,e1,e2,t];exact d _ (qK0) (by simp only[vvB,a!,reduceCtorEq,↓reduceIte];rw[y])
 ·have t:(foldM p=foldM iL)=False:=eq_false M;have y:q=p:=by rw[S];unfold Yx;rw[if_neg M]
  simp only[vvB,a!,reduceCtorEq,↓reduceIte,MH,UM,UL,e1,e2,t];exact d _ (qK0) (by simp only[vvB,a!,reduceCtorEq,↓reduceIte];rw[y])
theorem aEX(h:Hp):VF [H iL] h=D (.tuple (.cons (H iL) (.cons (Y U 0) .nil))) h:=PW (aEQ _ _) h
theorem acS{n:Nat}(a:n<100)(h:Hp):pR [Y U (n:Int)] h=D (H (iq n)) h:=PW (avH a) h
theorem amj{n:Int}(h0:0<=n)(a:n<100)(h:Hp):pR [Y U n] h=D (H (iq n.toNat)) h:=by
 have:=acS (n:=n.toNat) (by omega) h;rwa[Int.toNat_of_nonneg h0]at this
theorem aAQ(a:dG h F ps A pl ib cb fb vm vl I)(i:A.Small)(k:TopB A.boxes){w:Wr}{L:List V}(kr:Kn h ir (O w L))(j:L[1]?=some (X ps 0)){b:Bx}(hb:tX A.boxes iL=some b):
  ∃h',Uo [X ir 0,H iL] h=D (.tuple (.cons (iV b.id) (.cons (iV 0) .nil))) h'/\Nw h h':=by
 have c:=kr.ld j;obtain⟨r,m,e1,r1,d,-⟩:=OU a i;obtain⟨f,e2,e⟩:=aAI r1 k (p:=iL) (by decide) (by decide) (by decide);rw[hb]at e2;simp only[Option.isSome_some]at e2;rw[atc];simp(disch:=omega)only[vvB,a!,reduceCtorEq,↓reduceIte,adZ,agF,agE,agD,agC,agB,agA,aEX,c,e1,e2];exact⟨f,by simp only[aU,bW,vvB,a!,reduceCtorEq,↓reduceIte,bZ]<;>rfl,d.trans e⟩
theorem aAS{b:Bx}{p:Pos}{n:Int}{w:Wr}(k:Kn g p (O w [iV n])):MW [.agg (V.ofList (fF b)),X p 0] g=D (K (decide (b.id=n))) (g.new (O (N tBx true) (fF b))):=by
 have e1:=(Kn.new g (O (N tBx true) (fF b))).ld (q:=0) (x:=iV b.id) rfl;have e2:=(k.add (O (N tBx true) (fF b))).ld (q:=0) (x:=iV n) rfl;rw[atf];simp only[vvB,a!,reduceCtorEq,↓reduceIte,ad2,agT,agS,V.dD,e1,e2];simp only[aU,bW,vvB,a!,reduceCtorEq,↓reduceIte,bZ]
theorem ayl(p:Pos)(x:V)(g:Hp):dK jT (.func (.func apH) .nil (.cons (X p 0) .nil)) [x] g=MW [x,X p 0] g:=(rfl)
theorem aEI(x:V)(h:Hp):AV e! tBx x h=bT 6 x h:=kR
theorem aDk(a:dG h F ps A pl ib cb fb vm vl I)(G:A.Small)(hT:TopB A.boxes){w:Wr}{L:List V}(kr:Kn h ir (O w L))(hL:L[1]?=some (X ps 0)){k:Nat}{b:Bx}(hb:A.boxes[k]?=some b):
  ∃h',aad [X ir 0,iV b.id] h=D (.agg (V.ofList (fF b))) h'/\Nw h h':=by
 have hk:=hT.once k b hb;obtain⟨m,y,C,k1⟩:=mkW h (O (N iW true) [iV b.id]);obtain⟨h2,z,E,k2⟩:=mkW m (O (N tBx true) [(Y U 0),(H []),(Y U 0),(Y U 0),(Y U 0),(Y U 0)]);have c:=C.trans E;have Q:=(kr.nw c).ld hL;obtain⟨r,h3,e3,M,q,-⟩:=OU (a.nw c) G;obtain⟨u,t,s⟩:=yD M (aK _) (λx=>decide (x.id=b.id)) (by have:=G.boxes;omega) (f:=.func (.func apH) .nil (.cons (X h.next 0) .nil)) (λx cs g _ Z e _=>by
  rw[show cs=fF x from e,ayl,aAS (((k1.nw E).nw q).nw Z)];exact⟨_,rfl,Nw.new _ _⟩)
 rw[hk]at t;simp only[gK]at t;obtain⟨i,o,cs,ix,ex,-,-,-,-,ln⟩:=(M.nw (aK _) s).elt hb;obtain rfl:cs=fF b:=ex;have B:=ln u rfl;have J:=(k2.nw q).nw s;obtain⟨j,d⟩:∃j,j=u.put m.next (some (O (N tBx true) (fF b))):=⟨_,rfl⟩
 have S:aT 6 (X m.next 0) (.agg (V.ofList (fF b))) u=D V.undef j:=by rw[d];exact J.stN rfl rfl
 have k5:Kn j m.next (O (N tBx true) (fF b)):=by rw[d];exact J.put _
 have n1:=C.next;have W:Nw h j:=by rw[d];exact((c.trans q).trans s).put (by omega) _
 rw[auB];simp only[vvB,a!,reduceCtorEq,↓reduceIte,aiq,ak5,ak4,ak3,<-y,<-z,Q,e3,t,ix,B,S];exact⟨j,by simp only[aU,bW,vvB,a!,reduceCtorEq,↓reduceIte,aEI,k5.ldN (n:=6) rfl,bZ],W⟩
end
end Go.Proofs.Im
namespace Go.Ln
def mO:Wds->List (List Nat)
 | .nil=> []
 | .cons _ t _ r=>t::mO r
def DI:Wds->Bool
 | .nil=>false
 | .cons k _ _ r=>decide (k=3)||DI r
theorem drop_zero:∀w:Wds,w.drop 0=w
 | .nil=>rfl
 | .cons _ _ _ _=>rfl
theorem OE:∀w:Wds,(mO w).length=w.len
 | .nil=>rfl
 | .cons _ _ _ r=>by simp[mO,Wds.len,OE r]
theorem ara:∀{w:Wds} {k:Nat} {x:Wd},w.get? k=some x->w.drop k=.cons x.kind x.text x.kids (w.drop (k+1))
 | .nil,_,_,e=>by cases e
 | .cons k t ks r,0,x,e=>by cases e;simp[Wds.drop]
 | .cons k t ks r,n+1,x,e=>by simp only[Wds.drop];exact ara (w:=r) e
theorem aq9:∀{w:Wds} {k:Nat},w.len<=k->w.drop k=.nil
 | .nil,0,_=>rfl
 | .nil,k+1,_=>rfl
 | .cons _ _ _ _,0,h=>by simp[Wds.len]at h
 | .cons _ _ _ r,k+1,h=>by simp only[Wds.drop];exact aq9 (by simp[Wds.len]at h;omega)
end Go.Ln
namespace Go.Vm
theorem Pg(t:TypeId)(z:List V)(h:Hp):fC t z h=D (X h.next 0) (h.new (O (N t true) z)):=(rfl)
theorem apN{h:Hp}{i:Pos}{t:TypeId}{f:Bool}{x y z a b c:V}(d:h.get i=some (O (N t f) [x,y,z])):aT 3 (X i 0) (.agg (.cons a (.cons b (.cons c .nil)))) h=D V.undef (h.put i (some (O (N t f) [a,b,c]))):=by
 rw[vX d rfl rfl];rfl
theorem axW{h:Hp}{i:Pos}{wr:Wr}{l:List V}{q:Nat}{v:V}(a:h.get i=some (O wr l))(b:l[q]?=some v):aF (X i q) h=D v h:=by rw[CW a,b]
end Go.Vm
namespace Go.Proofs.Im
theorem anF(t:TypeId)(h:Hp):fC t [Y U 0,H [],.aQ] h=D (X h.next 0) (h.new (O (N t true) [Y U 0,H [],.aQ])):=(rfl)
theorem WS.atN{P:Pos->Prop}{h:Hp}{v:V}{ws:Wds}(t:WS P h v ws){k:Nat}{w:Wd}(e:ws.get? k=some w):
  ∃j q vk,(∀h',bJ 3 v (Y U (k:Int)) h'=D (X j q) h')/\bT 3 (X j q) h=D (.agg (.cons (Y U w.kind) (.cons (H w.text) (.cons vk .nil)))) h:=by
 obtain⟨cs,o,-,i,x⟩:=t;have d:=Wds.Po e;obtain⟨a,b,vk,c,n⟩:=WAt.get x e;obtain⟨j,q,e1,-,-,e2⟩:=o.atN d;refine⟨j,q,vk,e1,?_⟩;rw[e2 h rfl];obtain⟨l0,g⟩:=b!.1 a;obtain⟨l1,l⟩:=b!.1 b;obtain⟨f,m⟩:=b!.1 c;rw[g! l0,g! l1,g! f,g,l,m];rfl
def aAM(w:Wds)(n:Nat)(h:Hp)(r:V)(h':Hp):Prop:=
 Ch (λ_=>False) h h'/\((DI w=true/\r=.tuple (.cons .aQ (.cons (K false) .nil)))\/
  (DI w=false/\∃v,r=.tuple (.cons v (.cons (K (decide (w.len=n))) .nil))/\Ow 0 h' 9 1 v w.len ((mO w).map H)/\∀j,bH v=some j->h.next.nat<=j.nat))
theorem aqE{P:Pos->Prop}{b:Nat}{h:Hp}{i:Pos}{t:TypeId}{L:List V}{s:List Nat}{vw:V}{w:Wds}{n:Nat}(d:Bd b h i 5 t L s)(h3:L[3]?=some vw)(tw:WS P h vw w)(hl:w.len<=1000000):
  ∃r h',aae [X i 0,Y U (n:Int)] h=D r h'/\aAM w n h r h':=by
 rw[aDC];show aX e! _ (aAM w n h) _;have R3:aF (X i 3) h=D vw h:=axW d.get h3;simp(disch:=omega)only[vvB,a!,reduceCtorEq,↓reduceIte,ayA,awX,awW,awV,R3,WS.len tw];refine Oc.then (dZ (n:=w.len) (λm fr g=>∃(k:Nat) (c:V),fr.get (c! 1)=some (Y U (n:Int))/\fr.get (c! 6)=some c/\fr.get (c! 12)=some vw/\fr.get (c! 13)=some (Y U (w.len:Int))/\fr.get (c! 14)=some (Y U (k:Int))/\
   k+m=w.len/\Ow 0 g 9 1 c k (((mO w).take k).map H)/\(∀j,bH c=some j->h.next.nat<=j.nat)/\DI w=DI (w.drop k)/\mO w=(mO w).take k++mO (w.drop k)/\Ch (λ_=>False) h g)
  (A:=λfr g=>∃c,fr.get (c! 1)=some (Y U (n:Int))/\fr.get (c! 6)=some c/\DI w=false/\Ow 0 g 9 1 c w.len ((mO w).map H)/\(∀j,bH c=some j->h.next.nat<=j.nat)/\Ch (λ_=>False) h g)
  (B:=λfr g=>fr.get (c! 4)=some .aQ/\fr.get (c! 5)=some (K false)/\DI w=true/\Ch (λ_=>False) h g) (by rw[dW];omega) ?_ ?_) ?_ ?_
 ·exact⟨0,.aQ,qK0,qK0,qK0,qK0,qK1,by omega,by simpa using Ow.nil 0 h 9 1,λj q=>(by cases q),by rw[drop_zero],by rw[drop_zero];rfl,Ch.refl _ _⟩
 ·rintro m fr g ⟨k,c,f1,G,u,f,v,hk,z,p,y,I,a⟩;by_cases hz:m=0
  ·have S:k=w.len:=by omega
   subst S;rw[aq9 (F! _)]at y;rw[<-OE w,j!,OE w]at z;simp(disch:=omega)only[vvB,a!,reduceCtorEq,↓reduceIte,ae3,ae1,f,v];exact⟨rfl,c,qK2 f1,qK2 G,y,z,p,a⟩
  ·have W:k<w.len:=by omega
   obtain⟨x,hx⟩:=Wds.amd W;have ab:WS P g vw w:=tw.ch a λj _ q=>⟨q,λq=>q⟩
   obtain⟨j,q,vk,i1,i2⟩:=WS.atN ab hx;have Q:=ara hx;obtain⟨e,o⟩:∃e,e=(g.new (O (N apB true) [Y U 0,H [],.aQ])).put g.next (some (O (N apB true) [Y U x.kind,H x.text,vk])):=⟨_,rfl⟩
   have E:Ch (λ_=>False) g e:=by rw[o];exact Pq _ _ _
   have w2:e.get g.next=some (O (N apB true) [Y U x.kind,H x.text,vk]):=by rw[o];exact jE _ _ _
   have K0:aF (X g.next 0) e=D (Y U x.kind) e:=axW w2 rfl;have K1:aF (X g.next 1) e=D (H x.text) e:=axW w2 rfl;rw[Q]at y I;simp only[DI]at y;simp only[mO]at I;have aa:((mO w).take k).length=k:=by rw[r!,OE];omega
   have C:(mO w).take (k+1)=(mO w).take k++ [x.text]:=by
    have:(mO w)[k]?=some x.text:=by
     rw[I,List.getElem?_append_right (by omega),aa,Nat.sub_self];rfl
    rw[List.take_add_one,this];rfl
   by_cases l:x.kind=3
   ·have J:aF (X g.next 0) e=D (Y U 3) e:=by rw[K0,l]
    simp(disch:=omega)only[vvB,a!,reduceCtorEq,↓reduceIte,ae3,ae1,amQ,amP,awU,u,f,v,i1,i2,anF,apN (dR _ _),<-o,J,Int.reduceEq];refine⟨qK0,qK0,by rw[y,l];rfl,a.trans E λ_ _ q=>q⟩
   ·have o2:=z.ch E λ_ _ q=>q;obtain⟨v',g3,e3,rfl,o3,c3,n3⟩:=avz (bt:=16) (new:= [H x.text]) o2 rfl (by omega);simp(disch:=omega)only[vvB,a!,reduceCtorEq,↓reduceIte,ae3,ae1,amQ,amP,awT,awS,f1,G,u,f,v,i1,i2,anF,apN (dR _ _),<-o,K0,K1,l,pU,e3];have M:Ch (λ_=>False) h g3:=by
     have ca:=a.trans E λ_ _ q=>q;exact ca.trans c3 λj hj q=>by have:=p j q;omega
    exact⟨m - 1,by omega,k+1,.slice e.next.succ 0 (k+1) (.un 1),qK2 f1,qK0,qK2 u,qK2 f,qK1,by omega,by rw[C,h!];exact o3,
     λj q=>by cases q;have:=a.next;have:=E.next;rw[Pos.fA];omega,by rw[y,decide_eq_false l,Bool.false_or],by rw[C];rw[C!];exact I,M⟩
 ·rintro fr g ⟨c,f1,G,Z,z,p,a⟩;have L0:aZ 2 c g=D (Y U (w.len:Int)) g:=z.sl.length;have Q:decide ((w.len:Int)=(n:Int))=decide (w.len=n):=decide_eq_decide.2 (by omega);simp(disch:=omega)only[vvB,a!,reduceCtorEq,↓reduceIte,awR,f1,G,L0,Q];exact aX.ret (qT0) ⟨a,.inr ⟨Z,c,rfl,z,p⟩⟩
 ·rintro fr g ⟨f4,f5,hl,a⟩;exact aX.ret (by simp only[bW,vvB,a!,reduceCtorEq,↓reduceIte,f4,f5,bZ];rfl) ⟨a,.inl ⟨hl,rfl⟩⟩
end Go.Proofs.Im
namespace Go.Im
structure Sn where
 acc:Acc
 inn:Bool
 only:Bool
 cnt:Int
 vw:Option (Int×Int×List (Int×Int×Int))
abbrev anL(k:Int)(t:List Nat)(last bare part:Bool):List V:= [iV k,H t,K last,K bare,K part]
abbrev anV(k:Int)(t:List Nat)(last bare part:Bool):V:=.agg (V.ofList (anL k t last bare part))
abbrev zAn:List V:= [Y U 0,H [],K false,K false,K false]
theorem aIx(h:Hp):bQ zAn [] h=D (anV 0 [] false false false) h:=(rfl)
theorem aIw(s:List Nat)(h:Hp):bQ zAn [(1,1,H s),(3,1,K true)] h=D (anV 0 s false true false) h:=(rfl)
theorem aIv(h:Hp):bQ zAn [(3,1,K true)] h=D (anV 0 [] false true false) h:=(rfl)
end Go.Im
namespace Go.Proofs.Im
section
variable{bb:Nat}{h h' h0:Hp}{P F I J Z S:Pos->Prop}{ps pl ib p pv ir pc im:Pos}{cb:Cap}{fb uid:Bool}{vm vl vv vw:V}{st a:Sn}{L:List V}{s:List Nat}{w:Wds}
theorem ni(x:V)(h:Hp):AV e! tA x h=bT 5 x h:=kR
def QN:List (List Nat×Nat×Nat×Bool):= [
 ([99,97,112,97,98,105,108,105,116,121],aHT,0,false),
 ([110,111,111,112],apI,0,false),
 ([108,111,103,111,117,116],aHS,0,false),
 ([108,111,103,105,110],aBw,1,false),
 ([115,101,108,101,99,116],ahk,2,false),
 ([101,120,97,109,105,110,101],Uz,2,false),
 ([99,114,101,97,116,101],aiQ,2,false),
 ([100,101,108,101,116,101],apF,2,false),
 ([114,101,110,97,109,101],aiP,2,false),
 ([108,105,115,116],apE,2,false),
 ([115,116,97,116,117,115],aiN,2,false),
 ([97,112,112,101,110,100],aiR,2,false),
 ([99,104,101,99,107],apI,3,false),
 ([99,108,111,115,101],Tm,3,false),
 ([101,120,112,117,110,103,101],CV,3,true),
 ([115,101,97,114,99,104],aiO,3,true),
 ([102,101,116,99,104],anu,3,true),
 ([115,116,111,114,101],ant,3,true),
 ([99,111,112,121],apG,3,true),
 ([109,111,118,101],apD,3,true)]
def ayg(pc:Pos)(c:Nat×Nat×Bool):V:=.agg (.cons (.func (.func c.1) (.cons (X pc 0) .nil) .nil) (.cons (Y U (c.2.1:Int)) (.cons (K c.2.2) .nil)))
def gy(pc:Pos):List (V×V):=QN.map λc=>(H c.1,ayg pc c.2)
def VwO(h:Hp)(J:Pos->Prop)(vv:V):Option (Int×Int×List (Int×Int×Int))->Prop
 |none=>vv=.bP/\∀j,¬J j
 |some x=>∃pv vw m,vv=X pv 0/\VwK h J pv x.1 x.2.1 m vw/\m.map mgK=x.2.2
theorem VwO.ch{o:Option (Int×Int×List (Int×Int×Int))}(x:VwO h J vv o)(c:Ch S h h')(d:∀j,J j->¬S j):VwO h' J vv o:=by
 cases o with
 |none=>exact x
 |some o=>obtain⟨pv,vw,m,e,k,b⟩:=x;exact⟨pv,vw,m,e,k.ch c d,b⟩
theorem VwO.lt{o:Option (Int×Int×List (Int×Int×Int))}(x:VwO h J vv o):∀j,J j->j.nat<h.next.nat:=by
 cases o with
 |none=>exact λj q=>(x.2 j q).elim
 |some o=>obtain⟨pv,vw,m,e,k,b⟩:=x;exact k.lt
abbrev Ft(F J:Pos->Prop)(pc im:Pos):Pos->Prop:=λj=>F j\/J j\/j=pc\/j=im
structure World (h:Hp) (pc im ps:Pos) (st:Sn) (F J:Pos->Prop) (pl ib:Pos) (cb:Cap) (fb:Bool) (vm vl vv:V) (I:Pos->Prop):Prop where
 acc:dG h F ps st.acc pl ib cb fb vm vl I
 con:Kn h pc (O (N tCn true) [K st.inn,vv,K st.only,iV st.cnt,.map im])
 map:Kn h im (.map (gy pc))
 view:VwO h J vv st.vw
 ne:pc≠im
 fj:∀j,F j->¬J j/\j≠pc/\j≠im
 jn:∀j,J j->j≠pc/\j≠im
theorem World.ch(x:World h pc im ps st F J pl ib cb fb vm vl vv I)(c:Ch S h h')(b:∀j,Ft F J pc im j->¬S j):World h' pc im ps st F J pl ib cb fb vm vl vv I where
 acc:=x.acc.ch c λj f=>b j (.inl f)
 con:=x.con.ch c (b _ (.inr (.inr (.inl rfl))))
 map:=x.map.ch c (b _ (.inr (.inr (.inr rfl))))
 view:=x.view.ch c λj f=>b j (.inr (.inl f))
 ne:=x.ne
 fj:=x.fj
 jn:=x.jn
theorem World.lt(x:World h pc im ps st F J pl ib cb fb vm vl vv I):∀j,Ft F J pc im j->j.nat<h.next.nat:=λj q=>by
 rcases q with q|q|rfl|rfl
 ·exact x.acc.lt j q
 ·exact x.view.lt j q
 ·exact x.con.2
 ·exact x.map.2
theorem World.acT(x:World h pc im ps st F J pl ib cb fb vm vl vv I){d:Pos->Prop}{b:V}(i:a.acc=st.acc)(k:VwO h d b a.vw)(g:∀j,d j->¬F j/\j≠pc/\j≠im):
  World (h.put pc (some (O (N tCn true) [K a.inn,b,K a.only,iV a.cnt,.map im]))) pc im ps a F d pl ib cb fb vm vl b I:=by
 have c:Ch (λj=>j=pc) h (h.put pc (some (O (N tCn true) [K a.inn,b,K a.only,iV a.cnt,.map im]))):=Ch.put _ _ rfl;refine⟨?_,x.con.put _,x.map.ch c λe=>x.ne e.symm,k.ch c λj q=>(g j q).2.1,x.ne,λj f=>⟨λq=>(g j q).1 f,(x.fj j f).2⟩,λj q=>(g j q).2⟩;rw[i];exact x.acc.ch c λj f=>(x.fj j f).2.1
structure Rq (bb:Nat) (h0:Hp) (Z:Pos->Prop) (h:Hp) (pc im ps ir:Pos) (uid:Bool) (w:Wds) (s:List Nat) (st:Sn) (L:List V) (vw:V) (P F J:Pos->Prop) (pl ib:Pos) (cb:Cap) (fb:Bool) (vm vl vv:V) (I:Pos->Prop):Prop where
 bd:Bd bb h ir 5 tRq L s
 hbb:bb<=h0.next.nat
 ob:∀j,OfB ir 5 L j->Z j\/h0.next.nat<=j.nat
 l1:L[1]?=some (X ps 0)
 l3:L[3]?=some vw
 l4:L[4]?=some (K uid)
 l0:L[0]?=some (X pc 0)
 ws:WS P h vw w
 wd:World h pc im ps st F J pl ib cb fb vm vl vv I
 dis:∀j,OfB ir 5 L j->¬Ft F J pc im j
 old:∀j,P j->j.nat<bb/\¬Z j
 foot:∀j,Ft F J pc im j->Z j\/h0.next.nat<=j.nat
 chz:Ch Z h0 h
def tZ(bb:Nat)(h0:Hp)(Z:Pos->Prop)(vw:V)(P:Pos->Prop)(h:Hp)(pc im ps ir:Pos)(uid:Bool)(w:Wds)(s:List Nat)(st:Sn):Prop:=
 ∃L F J pl ib cb fb vm vl vv I,Rq bb h0 Z h pc im ps ir uid w s st L vw P F J pl ib cb fb vm vl vv I
theorem Rq.mk'(q:Rq bb h0 Z h pc im ps ir uid w s st L vw P F J pl ib cb fb vm vl vv I):tZ bb h0 Z vw P h pc im ps ir uid w s st:=⟨_,_,_,_,_,_,_,_,_,_,_,q⟩
theorem Rq.nw(q:Rq bb h0 Z h pc im ps ir uid w s st L vw P F J pl ib cb fb vm vl vv I)(c:Nw h h'):Rq bb h0 Z h' pc im ps ir uid w s st L vw P F J pl ib cb fb vm vl vv I where
 bd:=q.bd.ch c λ_ _ _ q=>q
 l0:=q.l0
 l1:=q.l1
 l3:=q.l3
 l4:=q.l4
 ws:=q.ws.ch c λj _ q=>⟨q,λq=>q⟩
 wd:=q.wd.ch c λ_ _ q=>q
 dis:=q.dis
 old:=q.old
 hbb:=q.hbb
 ob:=q.ob
 foot:=q.foot
 chz:=q.chz.nw c
theorem Rq.kr(q:Rq bb h0 Z h pc im ps ir uid w s st L vw P F J pl ib cb fb vm vl vv I):Kn h ir (O (N tRq true) L):=⟨q.bd.get,q.bd.hi⟩
theorem Rq.turn(q:Rq bb h0 Z h pc im ps ir uid w s st L vw P F J pl ib cb fb vm vl vv I){n r v:Pos->Prop}{g f:Pos}{b:Cap}{d:Bool}{k i m:V}(u:World h' pc im ps a n r g f b d k i m v)(c:Ch S h h')
  (t:∀j,S j->Ft F J pc im j) (x:∀j,Ft n r pc im j->Ft F J pc im j\/h.next.nat<=j.nat):Rq bb h0 Z h' pc im ps ir uid w s a L vw P n r g f b d k i m v where
 bd:=q.bd.chO c λj o e=>q.dis j o (t j e)
 l0:=q.l0
 l1:=q.l1
 l3:=q.l3
 l4:=q.l4
 ws:=q.ws.ch c λj _ p=>⟨p,λe=>by
  have:=q.old j p;rcases q.foot j (t j e) with z|z
  ·exact this.2 z
  ·have:=q.hbb;omega⟩
 wd:=u
 dis:=λj o e=>(x j e).elim (q.dis j o) λl=>by have:=(o.from q.bd _).2;omega
 old:=q.old
 hbb:=q.hbb
 ob:=q.ob
 foot:=λj e=>(x j e).elim (q.foot j) λl=>.inr (p! q.chz.next l)
 chz:=q.chz.trans c λj y e=>(q.foot j (t j e)).resolve_right (by omega)
theorem Rq.say(q:Rq bb h0 Z h pc im ps ir uid w s st L vw P F J pl ib cb fb vm vl vv I){el:TypeId}(l:List (List Nat)){n:Nat}(m:l.length=n)(hl:n<=100)(v:iG l<=100000000)(hb:∀t∈l,∀c∈t,c<256)(i:n<=1\/dN [32] l≠ [])(u:s.length+(dN [32] l).length+2<=1000000000):
  ∃r h' d,zi [X ir 0,.slice h.next 0 n (.kn n)] (h.new (O (N el true) (l.map H)))=D r h'/\Rq bb h0 Z h' pc im ps ir uid w (s++(dN [32] l++ [13,10])) st d vw P F J pl ib cb fb vm vl vv I/\Stp (OfB ir 5 L) h (OfB ir 5 d) h':=by
 obtain⟨r,h',d,e,k,b,g,x⟩:=auL (el:=el) q.bd l m hl v hb i u;refine⟨r,h',d,e,⟨k,q.hbb,λj o=>(b.sub j o).elim (q.ob j) λl=>.inr (p! q.chz.next l),by rw[g 1 (by omega) (by omega)];exact q.l1,by rw[g 3 (by omega) (by omega)];exact q.l3,by rw[g 4 (by omega) (by omega)];exact q.l4,by rw[g 0 (by omega) (by omega)];exact q.l0,?_,q.wd.ch b.ch λj f o=>q.dis j o f,?_,q.old,q.foot,?_⟩,b⟩
 ·exact q.ws.ch b.ch λj _ p=>⟨p,λo=>by have:=(q.old j p).1;have:=(o.from q.bd _).1;omega⟩
 ·intro j o f;rcases b.sub j o with o|o
  ·exact q.dis j o f
  ·have:=q.wd.lt j f;omega
 ·exact q.chz.trans b.ch λj i o=>(q.ob j o).resolve_right (by omega)
theorem Rq.ai5(q:Rq bb h0 Z h pc im ps ir uid w s st L vw P F J pl ib cb fb vm vl vv I):Rq bb h (λj=>Ft F J pc im j\/OfB ir 5 L j) h pc im ps ir uid w s st L vw P F J pl ib cb fb vm vl vv I where
 bd:=q.bd
 hbb:=p! q.hbb q.chz.next
 ob:=λj o=>.inl (.inr o)
 l0:=q.l0
 l1:=q.l1
 l3:=q.l3
 l4:=q.l4
 ws:=q.ws
 wd:=q.wd
 dis:=q.dis
 old:=λj p=>⟨(q.old j p).1,λe=>e.elim (λf=>(q.foot j f).elim (q.old j p).2 λl=>by have:=(q.old j p).1;have:=q.hbb;omega) λo=>by have:=(q.old j p).1;have:=(o.from q.bd _).1;omega⟩
 foot:=λj f=>.inl (.inl f)
 chz:=Ch.refl _ _
theorem Rq.comp(q:Rq bb h0 Z h pc im ps ir uid w s st L vw P F J pl ib cb fb vm vl vv I){g:Hp}{b:Bool}{u:Wds}{s2:List Nat}{st2:Sn}(r:tZ bb h (λj=>Ft F J pc im j\/OfB ir 5 L j) vw P g pc im ps ir b u s2 st2):
  tZ bb h0 Z vw P g pc im ps ir b u s2 st2/\Ch (λj=>Ft F J pc im j\/OfB ir 5 L j) h g:=by
 obtain⟨z,v,y,l,k,c,d,n,m,t,x,r⟩:=r;have i:∀j,(Ft F J pc im j\/OfB ir 5 L j)\/h.next.nat<=j.nat->Z j\/h0.next.nat<=j.nat:=λj e=>by
  rcases e with(e|e)|e
  ·exact q.foot j e
  ·exact q.ob j e
  ·have:=q.chz.next;exact .inr (by omega)
 exact⟨⟨z,v,y,l,k,c,d,n,m,t,x,
  {bd:=r.bd
   hbb:=q.hbb
   ob:=λj o=>i j (r.ob j o)
   l0:=r.l0
   l1:=r.l1
   l3:=r.l3
   l4:=r.l4
   ws:=r.ws
   wd:=r.wd
   dis:=r.dis
   old:=q.old
   foot:=λj f=>i j (r.foot j f)
   chz:=q.chz.trans r.chz λj B e=>(i j (.inl e)).resolve_right (by omega)}⟩,r.chz⟩
end
end Go.Proofs.Im
